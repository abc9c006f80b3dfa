import Derived.Test.YtpnamgfdakfccaaGreatTgE
set_option linter.unusedVariables false
set_option linter.unusedSimpArgs false
set_option maxRecDepth 20000
set_option maxHeartbeats 4000000
namespace Go.Proofs.YtpnamgfdakfccaaGreat
open Go Go.RowKit Go.Proofs.Gw
variable {i:Int} {a:Of}
theorem RH:Zc Om 43=true:=Oc
theorem Zp1:Zc Om 92=true:=Oc
theorem _R{p:cO}(D:p.Ok){l q:Int}(h:wQ p i a l)(I:0<=q)(N:q<=i)(U:i<=p.m):0<=ZD p a q.toNat/\ZD p a q.toNat<=42000000:=by
 have h1:=W5 (f:=fun i=>a i*(p.L i+p.aV)) (A:=2100000) (n:=q.toNat) (fun j F O=>by
   have hr:=h.rng j F Oa
   have J:=D.all j F Oa
   unfold cO.each at J
   have:=D.k1;have:=D.k2;have:=D.s2
   exact⟨Int.mul_nonneg hr.1 Oa,Int.le_trans (Int.mul_le_mul (show a j<=1000 by omega) (show p.L j+p.aV<=2100 by omega) Oa Oa) Oa⟩)
 have:=D.m2
 unfold ZD
 refine⟨h1.1,Int.le_trans h1.2 ?_⟩
 have:((q.toNat:Nat):Int)*2100000=q*2100000:=by rw [Int.toNat_of_nonneg I]
 omega
theorem ZjP{p:cO}(D:p.Ok){l q:Int}(h:wQ p i a l)(F:0<=q)(I:q<i)(N:i<=p.m):0<=a q*(p.L q+p.aV)/\a q*(p.L q+p.aV)<=2100000:=by
 have hr:=h.rng q F I
 have J:=D.all q F Oa
 unfold cO.each at J
 have:=D.k1;have:=D.k2;have:=D.s2
 exact⟨Int.mul_nonneg hr.1 Oa,Int.le_trans (Int.mul_le_mul (show a q<=1000 by omega) (show p.L q+p.aV<=2100 by omega) Oa Oa) Oa⟩
theorem Qy{p:cO}(F:p.Ok){l:Int}(h:wQ p i a l)(I:0<=i)(D:i<=p.m):l<=p.bP+p.aV:=by
 have:=_R F h I (Int.le_refl _) D;have:=h.left;omega
theorem Wk{α:Type}{n:Nat}{x y:List α}:(x.take n++y).take n=(x++y).take n:=by
 rw [List.take_append,List.take_append,List.take_take,Nat.min_self]
 by_cases h:x.length<=n
 · rw [List.take_of_length_le h]
 · rw [show n-x.length=0 by omega,show n-(x.take n).length=0 by rw [List.length_take];omega]
theorem ZbS{α:Type}{n:Nat}{x:List α}{y:List α}(h:x.length=n):(x++y).take n=x:=by subst h;simp
theorem WY{α:Type}{n:Nat}{x:List α}(h:x.length<=n):x.take n=x:=List.take_of_length_le h
theorem wQ.used{p:cO}{l:Int}(h:wQ p p.m a l):p.bP+p.aV-ZD p a p.m.toNat=l:=h.left.symm
theorem ZkB{α:Type}{F:Int->List α}{lo k:Int}(D:k=0)(h:lo=1):dn F lo (k+1-lo).toNat=dn F lo (k-1+1-lo).toNat:=by
 subst D;subst h;rfl
theorem Wn(a:Of)(i x:Int):∀j,0<=j->j<(i+1)*((1:Nat):Int)->ints (snoc a i x) j=ints (upd a i x) j:=fun j D h=>by
 unfold ints;congr 1
 by_cases e:j<i
 · rw [Zt e,upd_ne _ _ Oa]
 · rw [Zu e,show j=i by omega,Zp]
theorem Ww{wi k:Int}(h:0<=wi->wi<i->1<=a wi)(F:wi≠i\/0<k):0<=wi->wi<i+1->1<=upd a i k wi:=fun w0 D=>by
 by_cases e:wi=i
 · rw [e,Zp];omega
 · rw [upd_ne _ _ e];exact h w0 Oa
theorem Zou{vL vD:Value}{p:cO}(hp:p.Ok){wi:Int}(hw:wi<p.m)(N:Nat):∀{F:Gw.Frame} {va vo:Value} {a:Of} {i l u:Int} {vv:Ov} {f:Og} {out:List (Of)} (w0 w:World) (D:Sat w0 w [.own vo 1 22 u vv,.sem (Frame.rows 3 u vv (fun _=>p.m) f),.own va 1 3 i (ints a),.sem F]) (h:oO w0 vL vD p) (ac:iK vo u) (ah:iK va i) (h0:0<=i) (h1:i<=p.m) (hx:wQ p i a l) (O:Ls p.m u f out) (hu:u<=301) (aa:0<=wi->wi<i->1<=a wi) (hN:(p.m-i).toNat<N),
   Calls Om 43 [.agg #[vL,vD,.int Oi p.bP,.int Oi p.aV],va,.int Oi wi,vo].toArray w fun e w=>∃v,e= .returned v/\∃ai u2 ae f2,v=ai/\iK ai u2/\u2<=301/\Ls p.m u2 f2 ((out++vg p wi i a l).take 301)/\Sat w0 w [.own ai 1 22 u2 ae,.sem (Frame.rows 3 u2 ae (fun _=>p.m) f2),.sem F]:=by
 induction N with
 |zero=>intros;omega
 | succ N ih=>
   intro F va vo a i l u vv f out w0 w D h ac ah h0 h1 hx O hu aa hN
   obtain⟨hm,a5,hd,hd1,hs,hk⟩:=h.Oq
   have a2:=hp.m1;have qM:=hp.m2;have a3:=hp.d;have ay:=hp.s1;have ax:=hp.s2;have a9:=hp.k1;have a8:=hp.k2
   have az:=fun k (U:0<=k) (W:k<u)=>D.iw 1 rfl U W
   have aw:=ac.n0
   have a6:=Qy hp hx h0 h1;have a7:=hx.l0
   refine uM Tryz.func43 Tryz.ntmps43 ?_
   refine fQ<|iG (nS (cs:= [_,_,_,_]) D) ?_;rintro _ w ⟨g1,rfl,D⟩
   refine(zP)<|iT<|(zP)<|(zV (iW Zb ah))<|(zP)<|l9<|(zP)<|(zV (iW Zk ac))<|(zP)<|ig<|Zf ?_ ?_<;>intro hc
   {
   refine fQ<|(On)<|j_<|Oj ?_
   first
   |exact⟨_,_,_,_,rfl,ac,Oa,by rw [ZbS (by have:=O.1;omega)];exact O,D.pk [0,1,3]⟩
   | (obtain rfl:i=p.m:=Oa
      exact⟨_,_,_,_,rfl,ac,Oa,by rw [UZ rfl (by rw [<-wQ.used hx];assumption),List.append_nil,WY (by have:=O.1;omega)];exact O,D.pk [0,1,3]⟩)}
   refine XJ<|(zP)<|(zV (h_ 0 oG))<|(zV (g_ 4 dV D))<|(zV (iW Zb h.L.fP))<|(zP)<|ig<|Zf ?_ ?_<;>intro hc
   {
   refine lW<|fQ<|(zV (lH 4 rQ D))<|(zP)<|iJ (xc0 Zp1) (ZkR (p:=p) w (h.below D.below) hp (D.f_ 2 rfl) Oa (fun k U W=>hx.rng k U Oa)) ?_;rintro _ w ⟨rfl,ak⟩
   replace D:=D.cmp ak;clear ak
   refine(zP)<|lX 28 ?_ ?_<;>intro hc
   {
   refine(Oo)<|lX 31 ?_ ?_<;>intro hc
   {
   iterate 5 refine oq ?_
   refine(On)<|ig<|rW<|lG ?_
   refine(zP)<|iG (Du (c:=ints a) Zb D) ?_;rintro v1 w ⟨D,ag⟩
   refine(zP)<|iG (pz 5 (r:=i) (f:=ints a) Zb Zq D (D.f_ 2 rfl) (by exact YH _ _)) ?_;rintro v2 w ⟨D,Y⟩
   refine iG (pO (n:=1) (len:=1) (pv:= [(0,v2)]) (cs:= [v2]) (c:=(fun _=>v2)) Zk ZQ D (hf:=by obtain⟨_,_,_,_,rfl,_⟩:=Y;kernel_rfl)) ?_;rintro v3 w ⟨D,af⟩
   refine iG (pz 0 (r:=u+1) Zk ZQ D (D.f_ 6 rfl) (YA _ _ _) (h1:=fun _ _ _=>Y.one)) ?_;rintro v4 w ⟨D,J⟩
   replace D:=Sat.merge (l1:= [_]) (l2:= [_,_,_]) (l3:= [_]) D Oa
   have q9:=fun k (U:0<=k) (W:k<u+1)=>D.iw 1 rfl U W
   refine(zP)<|iT<|(On)<|j_<|Oj ?_
   replace D:=D.oP (xk:=(lD vv u v2)) (vT:=fun _=>p.m) (f':=(lD f u a)) 1 rfl (fun k U W=>⟨rfl,by unfold lD;split<;>(try dsimp only)<;>omega,fun _ _ _=>rfl⟩)
   obtain rfl:i=p.m:=Oa
   exact⟨_,_,_,_,rfl,J,Oa,by rw [Vz rfl (by rw [<-wQ.used hx];assumption),WY (by have:=O.1;rw [List.length_append,List.length_singleton];omega)];exact O.snoc fun _ _ _=>rfl,D.pk [0,1,3]⟩}
   refine(On)<|(zV (iy (kk:=wi) Zb ah))<|iI (iR (u:= .int Oi (a wi)) dw (D.f_ 2 rfl)) ?_
   have aq:=aa Oa Oa
   refine(zV (F8 YC))<|(On)<|ig<|rW<|lG ?_
   refine(zP)<|iG (Du (c:=ints a) Zb D) ?_;rintro v1 w ⟨D,ag⟩
   refine(zP)<|iG (pz 5 (r:=i) (f:=ints a) Zb Zq D (D.f_ 2 rfl) (by exact YH _ _)) ?_;rintro v2 w ⟨D,Y⟩
   refine iG (pO (n:=1) (len:=1) (pv:= [(0,v2)]) (cs:= [v2]) (c:=(fun _=>v2)) Zk ZQ D (hf:=by obtain⟨_,_,_,_,rfl,_⟩:=Y;kernel_rfl)) ?_;rintro v3 w ⟨D,af⟩
   refine iG (pz 0 (r:=u+1) Zk ZQ D (D.f_ 6 rfl) (YA _ _ _) (h1:=fun _ _ _=>Y.one)) ?_;rintro v4 w ⟨D,J⟩
   replace D:=Sat.merge (l1:= [_]) (l2:= [_,_,_]) (l3:= [_]) D Oa
   have q9:=fun k (U:0<=k) (W:k<u+1)=>D.iw 1 rfl U W
   refine(zP)<|iT<|(On)<|j_<|Oj ?_
   replace D:=D.oP (xk:=(lD vv u v2)) (vT:=fun _=>p.m) (f':=(lD f u a)) 1 rfl (fun k U W=>⟨rfl,by unfold lD;split<;>(try dsimp only)<;>omega,fun _ _ _=>rfl⟩)
   obtain rfl:i=p.m:=Oa
   exact⟨_,_,_,_,rfl,J,Oa,by rw [Vz rfl (by rw [<-wQ.used hx];assumption),WY (by have:=O.1;rw [List.length_append,List.length_singleton];omega)];exact O.snoc fun _ _ _=>rfl,D.pk [0,1,3]⟩}
   iterate 9 refine oq ?_
   refine(zP)<|ig<|uD<|nX<|iP<|fQ ?_
   refine(On)<|j_<|Oj ?_
   first
   |exact⟨_,_,_,_,rfl,ac,Oa,by rw [ZbS (by have:=O.1;omega)];exact O,D.pk [0,1,3]⟩
   | (obtain rfl:i=p.m:=Oa
      exact⟨_,_,_,_,rfl,ac,Oa,by rw [UZ rfl (by rw [<-wQ.used hx];assumption),List.append_nil,WY (by have:=O.1;omega)];exact O,D.pk [0,1,3]⟩)}
   refine ZX<|(zV (h_ 2 uo))<|(zV (g_ 4 dw D))<|(zV (h_ 3 sV))<|(zV (g_ 4 dw D))<|(zV (Zg (r:=p.bP+p.aV)))<|(zP)<|l9<|(zP)<|nI<|ny (fun mm M w=>∃(s:Int) (q:Int),mm=((i-q).toNat)/\(0<=q)/\(q<=i)/\(s=p.bP+p.aV-ZD p a q.toNat)/\M= [(1,va),(2,.int Oi wi),(3,vo),(4,Or g1),(8,Oh),(9,.int Oi i),(10,.int Oi s),(11,.int Oi q)]/\Sat w0 w [.own vo 1 22 u vv,.sem (Frame.rows 3 u vv (fun _=>p.m) f),.own va 1 3 i (ints a),.sem F,.blk g1 [vL,vD,.int Oi p.bP,.int Oi p.aV]]) ⟨p.bP+p.aV,0,rfl,Oa,Oa,?_,rfl,D⟩ ?_
   {
   show _=_-Zd _ 0;simp [Zd]}
   clear D w
   rintro mm M w ⟨s,q,rfl,q0,q1,am,rfl,D⟩
   refine lW<|fQ<|(Oo)<|ig<|Zf ?_ ?_<;>intro hc
   {
   refine nX<|iP<|lW<|o7<|lg [0,1,2,3,4] [0,1,2,3,4] 1000 nP D ?_;clear D;intro w D
   refine(b_ 0 gu)<|(b_ 1 gu)<|(b_ 2 gu)<|(b_ 3 (iy (kk:=q) Zb ah))<|oH 4 (fun w D=>(iR (u:= .int Oi (a q)) dw (D.f_ 2 rfl))) ?_
   have a4:=ZjP hp hx q0 (by omega:q<i) h1;have ar:=_R hp hx q0 Oa h1;have ao:=hp.all q q0 Oa;unfold cO.each at ao;have a0:=hx.rng q q0 Oa
   refine(b_ 5 (h_ 0 oG))<|(iQ 6 (fun w D=>(g_ 4 dV D)))<|(b_ 7 gu)<|(b_ 8 (iy (kk:=q) Zb h.L.fP))<|oH 9 (fun w D=>(iR (u:= .int Oi (p.L q)) dw (h.L.below D.below))) ?_
   have aj:=h.iL q
   refine(b_ 10 (h_ 3 sV))<|(iQ 11 (fun w D=>(g_ 4 dw D)))<|(b_ 12 (Zg (r:=p.L q+p.aV)))<|ou 13 (Yf (r:=((a q)*(p.L q+p.aV))) (e:=rfl) (hr:=(by unfold I64;omega))) ?_
   refine(b_ 14 (Zr (r:=s-((a q)*(p.L q+p.aV)))))<|(b_ 15 nU)<|lS<|ng<|iP<|lG ?_
   refine(zP)<|(zV (Zg (r:=q+1)))<|(zP)<|iq<|jm ⟨s-((a q)*(p.L q+p.aV)),q+1,rfl,Oa,Oa,?_,rfl,D⟩
   {
   have h9:ZD p a (q+1).toNat=ZD p a q.toNat+a q*(p.L q+p.aV):=ZI _ q0
   rw [h9];omega}}
   refine sW<|n_<|n_<|rH<|iP<|lW<|lg [0,1,2,3,4] [0,1,2,3,4] 1000 nP D ?_;clear D;intro w D
   refine(b_ 0 (h_ 1 pV))<|(iQ 1 (fun w D=>(g_ 4 dV D)))<|(b_ 2 gu)<|(b_ 3 (iy (kk:=i) Zb h.D.fP))<|oH 4 (fun w D=>(iR (u:= .int Oi (p.D i)) dw (h.D.below D.below))) ?_
   have aj:=h.iD i
   have al:s=l:=by rw [am,show q=i by omega];exact hx.left.symm
   have ap:=hp.all i h0 Oa;unfold cO.each at ap
   have a1:=Yw (a:=s) (b:=p.L i+p.aV) Oa Oa
   have an:min (p.D i) (Int.tdiv s (p.L i+p.aV))=most p i l:=by rw [al];rfl
   refine(b_ 5 gu)<|(b_ 6 (h_ 0 oG))<|(iQ 7 (fun w D=>(g_ 4 dV D)))<|(b_ 8 gu)<|(b_ 9 (iy (kk:=i) Zb h.L.fP))<|oH 10 (fun w D=>(iR (u:= .int Oi (p.L i)) dw (h.L.below D.below))) ?_
   have aj:=h.iL i
   refine(b_ 11 (h_ 3 sV))<|(iQ 12 (fun w D=>(g_ 4 dw D)))<|(b_ 13 (Zg (r:=p.L i+p.aV)))<|(b_ 14 (V3 (r:=(Int.tdiv s (p.L i+p.aV)))))<|(b_ 15 (TS (r:=(min (p.D i) (Int.tdiv s (p.L i+p.aV))))))<|(b_ 16 nU)<|lS<|iP<|lW<|fQ ?_
   refine(On)<|nI<|ny (fun mm M w=>∃(o2:List (Of)) (u2:Int) (ae:Ov) (f2:Og) (w2:Value) (k:Int),mm=((k+1).toNat)/\(-1<=k)/\(k<=most p i l)/\((o2++dn (kid p wi i a l) (least wi i) (k+1-least wi i).toNat).take 301=(out++vg p wi i a l).take 301)/\(Ls p.m u2 f2 o2)/\(iK w2 u2)/\(u2<=301)/\M= [(1,va),(2,.int Oi wi),(3,w2),(4,Or g1),(8,Oh),(9,.int Oi i),(13,.int Oi k)]/\Sat w0 w [.blk g1 [vL,vD,.int Oi p.bP,.int Oi p.aV],.own w2 1 22 u2 ae,.sem (Frame.rows 3 u2 ae (fun _=>p.m) f2),.own va 1 3 i (ints a),.sem F]) ⟨out,u,vv,f,vo,(min (p.D i) (Int.tdiv s (p.L i+p.aV))),rfl,Oa,Oa,?_,?_,?_,Oa,rfl,D.pk [4,0,1,2,3]⟩ ?_
   {
   rw [an,XS h0 Oa]}
   {
   exact O}
   {
   exact ac}
   clear D w
   rintro mm M w ⟨o2,u2,ae,f2,w2,k,rfl,U,W,ad,y6,ab,av,rfl,D⟩
   have xV:=fun k (U:0<=k) (W:k<u2)=>D.iw 2 rfl U W
   refine lW<|fQ<|(On)<|ig<|Zf ?_ ?_<;>intro hc
   {
   refine oC<|qE ?_
   refine lX 95 ?_ ?_<;>intro hc
   {
   refine(zO)<|(zO)<|(zP)<|ig<|rW ?_
   refine lg [0,4] [0,4] 1000 nP D ?_;clear D;intro w D
   refine(iQ 0 (fun w D=>(lH 0 rQ D)))<|(b_ 2 gu)<|(b_ 4 gu)<|(b_ 7 gu)<|(b_ 8 gu)<|Xw (r:= [1,5]) ((ZY ?_ (ZY ?_ Xv)))
   {
   refine tC (Du (c:=ints a) Zb D) ?_;rintro v1 w ⟨D,ag⟩
   refine⟨⟨fun _=>D.pk [0,4],D.pk [0,4]⟩,?_⟩
   refine Xw (r:= [3,5]) ((ZY ?_ (ZY ?_ Xv)))
   {
   refine tC (pz 5 (r:=i) (f:=ints a) Zb Zq D (D.f_ 3 rfl) (by exact YH _ _)) ?_;rintro v2 w ⟨D,Y⟩
   refine⟨⟨fun _=>D.pk [0,4],D.pk [0,4]⟩,?_⟩
   refine oZ 5 (pO (n:=1) (len:=1) (pv:= [(0,.int Oi k)]) (cs:= [.int Oi k]) (c:=ints (fun _=>k)) Zb Zq D) ?_;rintro v3 w ⟨D,af⟩
   refine⟨⟨fun _=>D.pk [0,4],D.pk [0,4]⟩,?_⟩
   refine oZ 6 (pz 5 (r:=i+1) Zb Zq D (D.f_ 6 rfl) (ZR _ _ _)) ?_;rintro v4 w ⟨D,J⟩
   refine⟨⟨fun _=>D.pk [0,4],D.pk [0,4]⟩,?_⟩
   replace D:=D.nJ 5 rfl (d:=ints (upd a i k)) (Wn a i k)
   refine pK 9 (xc0 RH) (ih (i:=i+1) (a:=upd a i k) (l:=l-k*(p.L i+p.aV)) (out:=o2) w0 w (Sat.bundle (l1:= [_,_,_]) (D.pk [1,2,5,0,3,4,6])) h ab J Oa Oa (hx.step hp h0 Oa Oa Oa) y6 Oa (Ww aa Oa) Oa) ?_;rintro xD w ⟨_,I,xn,Z,rfl,qZ,au,x4,D⟩
   replace D:=Sat.unbundle (l1:= [_,_]) (l3:= []) D
   have yc:=fun k (U:0<=k) (W:k<I)=>D.iw 1 rfl U W
   refine⟨⟨fun _=>D.pk [2,4],D.pk [2,4]⟩,?_⟩
   refine(b_ 10 nU)<|lS<|ng<|iP<|lG ?_
   refine(zP)<|(zV (Zr (r:=k-1)))<|(zP)<|iq<|jm ⟨((o2++vg p wi (i+1) (upd a i k) (l-k*(p.L i+p.aV))).take 301),I,xn,Z,xD,k-1,rfl,Oa,Oa,?_,?_,?_,Oa,rfl,D.pk [2,0,1,3,4]⟩
   {
   rw [<-ad,X8 (k:=k) _ (by unfold least;split<;>omega),<-List.append_assoc,show k-1+1-least wi i=k-least wi i by omega];exact Wk}
   {
   exact x4}
   {
   exact qZ}}
   refine tC (pO (n:=1) (len:=1) (pv:= [(0,.int Oi k)]) (cs:= [.int Oi k]) (c:=ints (fun _=>k)) Zb Zq D) ?_;rintro v2 w ⟨D,Y⟩
   refine⟨⟨fun _=>D.pk [0,4],D.pk [0,4]⟩,?_⟩
   refine oZ 3 (pz 5 (r:=i) (f:=ints a) Zb Zq D (D.f_ 3 rfl) (by exact YH _ _)) ?_;rintro v3 w ⟨D,af⟩
   refine⟨⟨fun _=>D.pk [0,4],D.pk [0,4]⟩,?_⟩
   refine oZ 6 (pz 5 (r:=i+1) Zb Zq D (D.f_ 6 rfl) (ZR _ _ _)) ?_;rintro v4 w ⟨D,J⟩
   refine⟨⟨fun _=>D.pk [0,4],D.pk [0,4]⟩,?_⟩
   replace D:=D.nJ 5 rfl (d:=ints (upd a i k)) (Wn a i k)
   refine pK 9 (xc0 RH) (ih (i:=i+1) (a:=upd a i k) (l:=l-k*(p.L i+p.aV)) (out:=o2) w0 w (Sat.bundle (l1:= [_,_,_]) (D.pk [1,2,5,0,3,4,6])) h ab J Oa Oa (hx.step hp h0 Oa Oa Oa) y6 Oa (Ww aa Oa) Oa) ?_;rintro xD w ⟨_,I,xn,Z,rfl,qZ,au,x4,D⟩
   replace D:=Sat.unbundle (l1:= [_,_]) (l3:= []) D
   have yc:=fun k (U:0<=k) (W:k<I)=>D.iw 1 rfl U W
   refine⟨⟨fun _=>D.pk [2,4],D.pk [2,4]⟩,?_⟩
   refine(b_ 10 nU)<|lS<|ng<|iP<|lG ?_
   refine(zP)<|(zV (Zr (r:=k-1)))<|(zP)<|iq<|jm ⟨((o2++vg p wi (i+1) (upd a i k) (l-k*(p.L i+p.aV))).take 301),I,xn,Z,xD,k-1,rfl,Oa,Oa,?_,?_,?_,Oa,rfl,D.pk [2,0,1,3,4]⟩
   {
   rw [<-ad,X8 (k:=k) _ (by unfold least;split<;>omega),<-List.append_assoc,show k-1+1-least wi i=k-least wi i by omega];exact Wk}
   {
   exact x4}
   {
   exact qZ}}
   refine tC (pO (n:=1) (len:=1) (pv:= [(0,.int Oi k)]) (cs:= [.int Oi k]) (c:=ints (fun _=>k)) Zb Zq D) ?_;rintro v1 w ⟨D,ag⟩
   refine⟨⟨fun _=>D.pk [0,4],D.pk [0,4]⟩,?_⟩
   refine oZ 1 (Du (c:=ints a) Zb D) ?_;rintro v2 w ⟨D,Y⟩
   refine⟨⟨fun _=>D.pk [0,4],D.pk [0,4]⟩,?_⟩
   refine oZ 3 (pz 6 (r:=i) (f:=ints a) Zb Zq D (D.f_ 3 rfl) (by exact YH _ _)) ?_;rintro v3 w ⟨D,af⟩
   refine⟨⟨fun _=>D.pk [0,4],D.pk [0,4]⟩,?_⟩
   refine oZ 6 (pz 6 (r:=i+1) Zb Zq D (D.f_ 5 rfl) (ZR _ _ _)) ?_;rintro v4 w ⟨D,J⟩
   refine⟨⟨fun _=>D.pk [0,4],D.pk [0,4]⟩,?_⟩
   replace D:=D.nJ 6 rfl (d:=ints (upd a i k)) (Wn a i k)
   refine pK 9 (xc0 RH) (ih (i:=i+1) (a:=upd a i k) (l:=l-k*(p.L i+p.aV)) (out:=o2) w0 w (Sat.bundle (l1:= [_,_,_]) (D.pk [1,2,6,0,3,4,5])) h ab J Oa Oa (hx.step hp h0 Oa Oa Oa) y6 Oa (Ww aa Oa) Oa) ?_;rintro xD w ⟨_,I,xn,Z,rfl,qZ,au,x4,D⟩
   replace D:=Sat.unbundle (l1:= [_,_]) (l3:= []) D
   have yc:=fun k (U:0<=k) (W:k<I)=>D.iw 1 rfl U W
   refine⟨⟨fun _=>D.pk [2,4],D.pk [2,4]⟩,?_⟩
   refine(b_ 10 nU)<|lS<|ng<|iP<|lG ?_
   refine(zP)<|(zV (Zr (r:=k-1)))<|(zP)<|iq<|jm ⟨((o2++vg p wi (i+1) (upd a i k) (l-k*(p.L i+p.aV))).take 301),I,xn,Z,xD,k-1,rfl,Oa,Oa,?_,?_,?_,Oa,rfl,D.pk [2,0,1,3,4]⟩
   {
   rw [<-ad,X8 (k:=k) _ (by unfold least;split<;>omega),<-List.append_assoc,show k-1+1-least wi i=k-least wi i by omega];exact Wk}
   {
   exact x4}
   {
   exact qZ}}
   refine(Oo)<|ig<|Zf ?_ ?_<;>intro hc
   {
   refine lg [0,4] [0,4] 1000 nP D ?_;clear D;intro w D
   refine(iQ 0 (fun w D=>(lH 0 rQ D)))<|(b_ 2 gu)<|(b_ 4 gu)<|(b_ 7 gu)<|(b_ 8 gu)<|Xw (r:= [1,5]) ((ZY ?_ (ZY ?_ Xv)))
   {
   refine tC (Du (c:=ints a) Zb D) ?_;rintro v1 w ⟨D,ag⟩
   refine⟨⟨fun _=>D.pk [0,4],D.pk [0,4]⟩,?_⟩
   refine Xw (r:= [3,5]) ((ZY ?_ (ZY ?_ Xv)))
   {
   refine tC (pz 5 (r:=i) (f:=ints a) Zb Zq D (D.f_ 3 rfl) (by exact YH _ _)) ?_;rintro v2 w ⟨D,Y⟩
   refine⟨⟨fun _=>D.pk [0,4],D.pk [0,4]⟩,?_⟩
   refine oZ 5 (pO (n:=1) (len:=1) (pv:= [(0,.int Oi k)]) (cs:= [.int Oi k]) (c:=ints (fun _=>k)) Zb Zq D) ?_;rintro v3 w ⟨D,af⟩
   refine⟨⟨fun _=>D.pk [0,4],D.pk [0,4]⟩,?_⟩
   refine oZ 6 (pz 5 (r:=i+1) Zb Zq D (D.f_ 6 rfl) (ZR _ _ _)) ?_;rintro v4 w ⟨D,J⟩
   refine⟨⟨fun _=>D.pk [0,4],D.pk [0,4]⟩,?_⟩
   replace D:=D.nJ 5 rfl (d:=ints (upd a i k)) (Wn a i k)
   refine pK 9 (xc0 RH) (ih (i:=i+1) (a:=upd a i k) (l:=l-k*(p.L i+p.aV)) (out:=o2) w0 w (Sat.bundle (l1:= [_,_,_]) (D.pk [1,2,5,0,3,4,6])) h ab J Oa Oa (hx.step hp h0 Oa Oa Oa) y6 Oa (Ww aa Oa) Oa) ?_;rintro xD w ⟨_,I,xn,Z,rfl,qZ,au,x4,D⟩
   replace D:=Sat.unbundle (l1:= [_,_]) (l3:= []) D
   have yc:=fun k (U:0<=k) (W:k<I)=>D.iw 1 rfl U W
   refine⟨⟨fun _=>D.pk [2,4],D.pk [2,4]⟩,?_⟩
   refine(b_ 10 nU)<|lS<|ng<|iP<|lG ?_
   refine(zP)<|(zV (Zr (r:=k-1)))<|(zP)<|iq<|jm ⟨((o2++vg p wi (i+1) (upd a i k) (l-k*(p.L i+p.aV))).take 301),I,xn,Z,xD,k-1,rfl,Oa,Oa,?_,?_,?_,Oa,rfl,D.pk [2,0,1,3,4]⟩
   {
   rw [<-ad,X8 (k:=k) _ (by unfold least;split<;>omega),<-List.append_assoc,show k-1+1-least wi i=k-least wi i by omega];exact Wk}
   {
   exact x4}
   {
   exact qZ}}
   refine tC (pO (n:=1) (len:=1) (pv:= [(0,.int Oi k)]) (cs:= [.int Oi k]) (c:=ints (fun _=>k)) Zb Zq D) ?_;rintro v2 w ⟨D,Y⟩
   refine⟨⟨fun _=>D.pk [0,4],D.pk [0,4]⟩,?_⟩
   refine oZ 3 (pz 5 (r:=i) (f:=ints a) Zb Zq D (D.f_ 3 rfl) (by exact YH _ _)) ?_;rintro v3 w ⟨D,af⟩
   refine⟨⟨fun _=>D.pk [0,4],D.pk [0,4]⟩,?_⟩
   refine oZ 6 (pz 5 (r:=i+1) Zb Zq D (D.f_ 6 rfl) (ZR _ _ _)) ?_;rintro v4 w ⟨D,J⟩
   refine⟨⟨fun _=>D.pk [0,4],D.pk [0,4]⟩,?_⟩
   replace D:=D.nJ 5 rfl (d:=ints (upd a i k)) (Wn a i k)
   refine pK 9 (xc0 RH) (ih (i:=i+1) (a:=upd a i k) (l:=l-k*(p.L i+p.aV)) (out:=o2) w0 w (Sat.bundle (l1:= [_,_,_]) (D.pk [1,2,5,0,3,4,6])) h ab J Oa Oa (hx.step hp h0 Oa Oa Oa) y6 Oa (Ww aa Oa) Oa) ?_;rintro xD w ⟨_,I,xn,Z,rfl,qZ,au,x4,D⟩
   replace D:=Sat.unbundle (l1:= [_,_]) (l3:= []) D
   have yc:=fun k (U:0<=k) (W:k<I)=>D.iw 1 rfl U W
   refine⟨⟨fun _=>D.pk [2,4],D.pk [2,4]⟩,?_⟩
   refine(b_ 10 nU)<|lS<|ng<|iP<|lG ?_
   refine(zP)<|(zV (Zr (r:=k-1)))<|(zP)<|iq<|jm ⟨((o2++vg p wi (i+1) (upd a i k) (l-k*(p.L i+p.aV))).take 301),I,xn,Z,xD,k-1,rfl,Oa,Oa,?_,?_,?_,Oa,rfl,D.pk [2,0,1,3,4]⟩
   {
   rw [<-ad,X8 (k:=k) _ (by unfold least;split<;>omega),<-List.append_assoc,show k-1+1-least wi i=k-least wi i by omega];exact Wk}
   {
   exact x4}
   {
   exact qZ}}
   refine tC (pO (n:=1) (len:=1) (pv:= [(0,.int Oi k)]) (cs:= [.int Oi k]) (c:=ints (fun _=>k)) Zb Zq D) ?_;rintro v1 w ⟨D,ag⟩
   refine⟨⟨fun _=>D.pk [0,4],D.pk [0,4]⟩,?_⟩
   refine oZ 1 (Du (c:=ints a) Zb D) ?_;rintro v2 w ⟨D,Y⟩
   refine⟨⟨fun _=>D.pk [0,4],D.pk [0,4]⟩,?_⟩
   refine oZ 3 (pz 6 (r:=i) (f:=ints a) Zb Zq D (D.f_ 3 rfl) (by exact YH _ _)) ?_;rintro v3 w ⟨D,af⟩
   refine⟨⟨fun _=>D.pk [0,4],D.pk [0,4]⟩,?_⟩
   refine oZ 6 (pz 6 (r:=i+1) Zb Zq D (D.f_ 5 rfl) (ZR _ _ _)) ?_;rintro v4 w ⟨D,J⟩
   refine⟨⟨fun _=>D.pk [0,4],D.pk [0,4]⟩,?_⟩
   replace D:=D.nJ 6 rfl (d:=ints (upd a i k)) (Wn a i k)
   refine pK 9 (xc0 RH) (ih (i:=i+1) (a:=upd a i k) (l:=l-k*(p.L i+p.aV)) (out:=o2) w0 w (Sat.bundle (l1:= [_,_,_]) (D.pk [1,2,6,0,3,4,5])) h ab J Oa Oa (hx.step hp h0 Oa Oa Oa) y6 Oa (Ww aa Oa) Oa) ?_;rintro xD w ⟨_,I,xn,Z,rfl,qZ,au,x4,D⟩
   replace D:=Sat.unbundle (l1:= [_,_]) (l3:= []) D
   have yc:=fun k (U:0<=k) (W:k<I)=>D.iw 1 rfl U W
   refine⟨⟨fun _=>D.pk [2,4],D.pk [2,4]⟩,?_⟩
   refine(b_ 10 nU)<|lS<|ng<|iP<|lG ?_
   refine(zP)<|(zV (Zr (r:=k-1)))<|(zP)<|iq<|jm ⟨((o2++vg p wi (i+1) (upd a i k) (l-k*(p.L i+p.aV))).take 301),I,xn,Z,xD,k-1,rfl,Oa,Oa,?_,?_,?_,Oa,rfl,D.pk [2,0,1,3,4]⟩
   {
   rw [<-ad,X8 (k:=k) _ (by unfold least;split<;>omega),<-List.append_assoc,show k-1+1-least wi i=k-least wi i by omega];exact Wk}
   {
   exact x4}
   {
   exact qZ}}
   refine rU<|(zP)<|(zV (Zr (r:=k-1)))<|(zP)<|iq<|jm ⟨o2,u2,ae,f2,w2,k-1,rfl,Oa,Oa,?_,?_,?_,Oa,rfl,D⟩
   {
   rw [<-ad,ZkB (k:=k) Oa (by unfold least;rw [if_pos Oa])]}
   {
   exact y6}
   {
   exact ab}}
   refine oM<|(On)<|jk<|Oj ?_
   exact⟨_,_,_,_,rfl,ab,Oa,by rw [<-ad,show k= -1 by omega,Zm9 _ (by unfold least;split<;>omega),List.append_nil,WY (by have:=y6.1;omega)];exact y6,D.pk [1,2,4]⟩
end Go.Proofs.YtpnamgfdakfccaaGreat
namespace Go.Proofs.YtpnamgfdakfccaaGreat
open Go Go.RowKit Go.Proofs.Gw
def ZqP(p:cO)(wi u:Int)(f:Og)(e:Int):Prop:=(¬p.Ok/\e=1/\u=0)\/(p.Ok/\¬(0<=wi/\wi<p.m)/\e=2/\u=0)\/
  (p.Ok/\(0<=wi/\wi<p.m)/\300<(MX p wi).length/\e=9/\u=0)\/(p.Ok/\(0<=wi/\wi<p.m)/\(MX p wi).length<=300/\e=0/\Ls p.m u f (MX p wi))
theorem Zfe{p:cO}{wi u:Int}{f:Og}(h:Ls p.m u f (([]++vg p wi 0 (fun _=>0) (p.bP+p.aV)).take 301))(I:¬300<u):(MX p wi).length<=300/\Ls p.m u f (MX p wi):=by
 have h1:=h.1
 rw [List.nil_append,List.length_take] at h1
 have F:(MX p wi).length<=300:=by unfold MX;omega
 refine⟨F,?_⟩
 have D:=h
 rw [List.nil_append,List.take_of_length_le (by have:(vg p wi 0 (fun _=>0) (p.bP+p.aV)).length<=300:=F;omega)] at D
 exact D
theorem Znu:Zc Om 280=true:=Oc
theorem ZoC{x:Int}(w0:World):
   Calls Om 280 [.int Oi x].toArray w0 fun e w=>∃v,e= .returned v/\v=B (0<x)/\Sat w0 w []:=by
 refine iE Tryz.func280 Tryz.ntmps280 fun w h=> ?_
 refine fQ<|(zP)<|iT<|(Oo)<|jk<|Oj ?_
 exact⟨Zm Oa,h⟩
theorem ZoJ{v:Value}{n:Int}{f:Of}(w0:World)(F:Row w0 v 1 n (ints f)):
   Calls Om 147 [v,.func (.func 280) #[] #[]].toArray w0 fun e w=>∃v,e= .returned v/\∃r:Int,v= .int Oi r/\((r= -1/\∀k,0<=k->k<n->¬(0<f k))\/(0<=r/\r<n/\(0<f r)))/\Sat w0 w []:=by
 have hn:=F.fP.n0;have W:=F.fP.n1
 refine iE Tryz.func147 Tryz.ntmps147 fun w h=> ?_
 refine fQ<|(zP)<|l9<|(zP)<|(zV (iW Zb F.fP))<|(zP)<|nI<|ny (fun U M w=>∃(i:Int),U=((n-i).toNat)/\(0<=i)/\(i<=n)/\(∀k,0<=k->k<i->¬(0<f k))/\M= [(0,v),(1,.func (.func 280) #[] #[]),(7,.int Oi n),(8,.int Oi i)]/\Sat w0 w []) ⟨0,rfl,Oa,Oa,?_,rfl,h⟩ ?_
 {
 intro k N h1;omega}
 clear h w
 rintro U M w ⟨i,rfl,N,h1,O,rfl,h⟩
 refine fQ<|(zP)<|nG<|Zf ?_ ?_<;>intro hc
 {
 refine oC<|(On)<|iT<|(Oo)<|(zV (iy (kk:=i) Zb F.fP))<|(zV (iR (u:= .int Oi (f i)) dw (F.below h.below)))<|iJ (xc0 Znu) (ZoC (x:=(f i)) w) ?_;rintro _ w ⟨rfl,D⟩
 replace h:=h.cmp D;clear D
 refine ig<|Zf ?_ ?_<;>intro hc
 {
 refine fQ<|(On)<|sG<|Oj ?_
 exact⟨i,rfl,.inr ⟨by omega,Oa,‹0<f i›⟩,h⟩}
 refine rU<|(zV (Zg (r:=i+1)))<|(zP)<|iq<|jm ⟨i+1,rfl,Oa,Oa,?_,rfl,h⟩
 {
 intro k J Y;rcases Int.lt_or_eq_of_le (show k<=i by omega) with I|I;exact O k J I;rw [I];assumption}}
 refine oM<|(zP)<|jk<|Oj ?_
 exact⟨-1,rfl,.inl ⟨rfl,fun k N h1=>O k N Oa⟩,h⟩
theorem ZoX{v:Value}{n:Int}{f:Of}(w0:World)(J:Row w0 v 1 n (ints f)):
   Calls Om 90 [v,.func (.func 280) #[] #[]].toArray w0 fun e w=>∃v,e= .returned v/\v=B (∃k,0<=k/\k<n/\0<f k)/\Sat w0 w []:=by
 refine iE Tryz.func90 Tryz.ntmps90 fun w F=> ?_
 refine fQ<|(zP)<|iT<|(On)<|iJ (xc0 WP) (ZoJ (n:=n) (f:=f) w (J.below F.below)) ?_;rintro _ w ⟨W,rfl,I,D⟩
 replace F:=F.cmp D;clear D
 refine(On)<|jk<|Oj ?_
 exact⟨Zm (by
  rcases I with⟨h1,h2⟩|⟨h1,h2,h3⟩
  · exact⟨fun h=>Oa,fun⟨k,U,O,N⟩=>absurd N (h2 k U O)⟩
  · exact⟨fun _=>⟨_,h1,h2,h3⟩,fun _=>h1⟩),F⟩
end Go.Proofs.YtpnamgfdakfccaaGreat
namespace Go.Proofs.Gw
open Go Go.RowKit
noncomputable def Frame.cd(p:Prop)(F G:Frame):Frame:= @ite _ p (Classical.propDecidable p) F G
theorem Xc{p:Prop}{F G:Frame}(h:p):Frame.cd p F G=F:=if_pos h
theorem WW{p:Prop}{F G:Frame}(h:¬p):Frame.cd p F G=G:=if_neg h
structure BX where
  v:Value
  n:Int
  f:Of
theorem V4{f:Of}{i x:Int}(h:f i=x):upd f i x=f:=by
 funext k;unfold upd;split
 · rename_i e;rw [e,h]
 · rfl
theorem XE(f:Of)(i x y:Int):upd (ints (upd f i x)) i (.int Oi y)=ints (upd f i y):=by
 funext k;unfold upd ints;dsimp only;split<;>rfl
end Go.Proofs.Gw
namespace Go.Proofs.YtpnamgfdakfccaaGreat
open Go Go.RowKit Go.Proofs.Gw
theorem Zf9{vL vD:Value}{p:cO}{wi:Int}(w0:World)(h:oO w0 vL vD p)(F:p.Ok):
   Calls Om 222 [.agg #[vL,vD,.int Oi p.bP,.int Oi p.aV],.int Oi wi].toArray w0 fun e w=>∃v,e= .returned v/\∃O N g5 g6 W,v= .func (.func 278) #[] #[Or g5,Or g6,Or N,Or O]/\iK W (p.m+1)/\Sat w0 w [.blk O [vL,vD,.int Oi p.bP,.int Oi p.aV],.blk N [.int Oi wi],.blk g5 [.int Oi p.m],.blk g6 [W],.own W 1 3 (p.m+1) (ints (XD p))]:=by
 obtain⟨hm,af,hd,hd1,hs,hk⟩:=h.Oq
 have ac:=F.m1;have qM:=F.m2;have ad:=F.d;have ab:=F.s1;have aa:=F.s2;have ah:=F.k1;have ag:=F.k2
 refine iE Tryz.func222 Tryz.ntmps222 fun w D=> ?_
 refine fQ<|iG (nS (cs:= [_,_,_,_]) D) ?_;rintro _ w ⟨g1,rfl,D⟩
 refine iG (nS (cs:= [_]) D) ?_;rintro _ w ⟨O,rfl,D⟩
 refine(zP)<|iT<|(zV (h_ 0 lu))<|(zV (g_ 0 dV D))<|(zV (iW Zb h.L.fP))<|iG (oh (cs:= [_]) Zq D) ?_;rintro _ w ⟨N,rfl,D⟩
 refine lJ (xsb 2 dw D) ?_;clear D;rintro w D
 refine iT<|(zV (g_ 2 dw D))<|(zV (Zg (r:=p.m+1)))<|iG (uF Zb Zq D) ?_;rintro v1 w ⟨D,I⟩
 refine iG (oh (cs:= [_]) ZQ D) ?_;rintro _ w ⟨g4,rfl,D⟩
 refine lJ (xsb 4 dV D (hv:=I.one)) ?_;clear D;rintro w D
 refine l9<|(zV (g_ 2 dw D))<|(zV (Zr (r:=p.m-1)))<|(zP)<|nI<|ny (fun mm M w=>∃(g:Of) (i:Int),mm=((i+1).toNat)/\(-1<=i)/\(i<p.m)/\(∀k,i<k->k<=p.m->g k=XD p k)/\M= [(2,Or g1),(3,Or O),(4,(Value.nilFunc)),(5,Or N),(6,Or g4),(7,.int Oi i)]/\Sat w0 w [.blk g1 [vL,vD,.int Oi p.bP,.int Oi p.aV],.blk O [.int Oi wi],.blk N [.int Oi p.m],.own v1 1 3 (p.m+1) (ints g),.blk g4 [v1]]) ⟨(fun _=>0),p.m-1,rfl,Oa,Oa,?_,rfl,D⟩ ?_
 {
 intro k k0 Y;rw [o9 Oa]}
 clear D w
 rintro mm M w ⟨g,i,rfl,h0,h1,U,rfl,D⟩
 refine lW<|fQ<|(On)<|ig<|Zf ?_ ?_<;>intro hc
 {
 refine nX<|iP<|lW<|o7<|lg [0,1,2,3,4] [0,1,2,4] 18 nP D ?_;clear D;intro w D
 refine(iQ 0 (fun w D=>(g_ 3 dV D)))<|(b_ 1 gu)<|(iQ 2 (fun w D=>(g_ 3 dV D)))<|(b_ 3 gu)<|(b_ 4 (Zg (r:=i+1)))<|(b_ 5 (iy (kk:=i+1) Zb I))<|sQ 6 (fun w D=>(iR (u:= .int Oi (g (i+1))) dw (D.f_ 3 rfl))) ?_
 have Z:=F.all i Oa Oa;unfold cO.each at Z
 have ak:=MC F (i:=i+1) Oa
 have ai:=U (i+1) Oa Oa
 have ae:0<=p.D i*(p.L i+p.aV)/\p.D i*(p.L i+p.aV)<=2100000:=⟨Int.mul_nonneg Oa Oa,Int.le_trans (Int.mul_le_mul (show p.D i<=1000 by omega) (show p.L i+p.aV<=2100 by omega) Oa Oa) Oa⟩
 refine(b_ 7 (h_ 1 jF))<|(iQ 8 (fun w D=>(g_ 0 dV D)))<|(b_ 9 gu)<|(b_ 10 (iy (kk:=i) Zb h.D.fP))<|oH 11 (fun w D=>(iR (u:= .int Oi (p.D i)) dw (h.D.below D.below))) ?_
 have aj:=h.iD i
 refine(iQ 12 (fun w D=>(lH 0 iM D)))<|(b_ 13 gu)<|pK 14 (xc0 XT) (XV (p:=p) (i:=i) w (h.below D.below) F Oa Oa) ?_;rintro _ w ⟨rfl,J⟩
 replace D:=D.cmp J;clear J
 refine⟨⟨fun _=>D,D.pk [0,1,2,4]⟩,?_⟩
 refine ou 15 (Yf (r:=((p.D i)*(p.L i+p.aV))) (e:=rfl) (hr:=(by unfold I64;omega))) ?_
 refine(b_ 16 (Zg (r:=g (i+1)+((p.D i)*(p.L i+p.aV)))))<|(b_ 17 (iy (kk:=i) Zb I))<|nR 18 (rV 3 dw D (ZA _ _ _)) ?_;clear D;rintro w D
 refine⟨⟨fun h=>absurd h (by decide),D.pk [0,1,2,4]⟩,?_⟩
 refine lS<|ng<|iP<|lG ?_
 refine(zP)<|(zV (Zr (r:=i-1)))<|(zP)<|iq<|jm ⟨(upd g i (g (i+1)+((p.D i)*(p.L i+p.aV)))),i-1,rfl,Oa,Oa,?_,rfl,D⟩
 {
 intro k k0 Y;by_cases e:k=i
 · rw [e,Zp,Tc Oa h1,<-U (i+1) Oa Oa]
 · rw [upd_ne _ _ e];exact U k Oa Y}}
 refine oM<|(zV wX)<|(zP)<|jk<|Oj ?_
 have hi:i= -1:=Oa
 replace D:=D.nJ 3 rfl (d:=ints (XD p)) (fun k k0 Y=>by unfold ints;rw [U k Oa Oa])
 exact⟨_,_,_,_,_,rfl,I,D.pk [0,1,2,4,3]⟩
theorem RI:Zc Om 279=true:=Oc
theorem UR:ZF Om 339=true:=Oc
theorem ZkJ{vL vD:Value}{p:cO}(U:p.Ok){wi:Int}{St Tt:Type}(qc:St->List (Of))(Inv:St->Prop)(Stp:Tt->Prop)(t0:Tt){g2 g3 g5 g6:Nat}{vl:Value}(ak:iK vl (p.m+1)){lq:Nat}{C:St->Gw.Frame}{D:Tt->Gw.Frame}(N:Nat):∀{F:Gw.Frame} {s:St} {ga gy gv:Nat} {va:Value} {a:Of} {i l need:Int} {pre post:List (Of)} (w0 w:World) (I:Sat w0 w [.sem (C s),.blk g2 [vL,vD,.int Oi p.bP,.int Oi p.aV],.blk g3 [.int Oi wi],.blk g5 [.int Oi p.m],.blk g6 [vl],.own vl 1 3 (p.m+1) (ints (XD p)),.blk ga [va],.own va 1 3 p.m (ints a),.blk gy [.func (.yield lq) #[] #[]],.blk gv [.func (.func 279) #[] #[Or g6,Or g5,Or ga,Or gy,Or g3,Or g2,Or gv]],.sem F]) (h:oO w0 vL vD p) (Z:iK va p.m) (h0:0<=i) (h1:i<=p.m) (hx:wQ p i a l) (hn:tu p a i need) (hI:Inv s) (hh:qc s=pre) (hM:MX p wi=pre++(vg p wi i a l++post)) (hY:∀(s:St) (x:BX) (rest:Gw.Frame) (w:World),(fun(s:St) (x:BX) (rest:Gw.Frame)=>Inv s/\iK x.v x.n/\x.n=p.m/\∃r,MX p wi=qc s++x.f::r) s x rest->Sat w0 w (.sem (C s)::([.blk g2 [vL,vD,.int Oi p.bP,.int Oi p.aV],.blk g3 [.int Oi wi],.blk g5 [.int Oi p.m],.blk g6 [vl],.own vl 1 3 (p.m+1) (ints (XD p))]++((fun(x:BX)=> [.own x.v 1 3 x.n (ints x.f)]) x++ [.sem rest])))->G9 Om lq [x.v] w fun v w'=>(v= .bool true/\∃s',(fun(s:St) (x:BX) (s1:St)=>qc s1=qc s++ [x.f]/\Inv s1) s x s'/\Sat w0 w' (.sem (C s')::([.blk g2 [vL,vD,.int Oi p.bP,.int Oi p.aV],.blk g3 [.int Oi wi],.blk g5 [.int Oi p.m],.blk g6 [vl],.own vl 1 3 (p.m+1) (ints (XD p))]++ [.sem rest])))\/(v= .bool false/\∃t,Stp t/\Sat w0 w' (.sem (D t)::([.blk g2 [vL,vD,.int Oi p.bP,.int Oi p.aV],.blk g3 [.int Oi wi],.blk g5 [.int Oi p.m],.blk g6 [vl],.own vl 1 3 (p.m+1) (ints (XD p))]++ [.sem rest])))) (hN:(p.m-i).toNat<N),
   Calls Om 279 [.int Oi i,.int Oi l,.int Oi need,Or g6,Or g5,Or ga,Or gy,Or g3,Or g2,Or gv].toArray w fun e w=>∃v,e= .returned v/\∃(ok:Prop) (Y:St) (t2:Tt) (a2:Of),v=B ok/\(ok->a2=a/\Inv Y/\qc Y=pre++vg p wi i a l)/\(¬ok->Stp t2)/\Sat w0 w [.sem (Frame.cd ok (C Y) (D t2)),.blk g2 [vL,vD,.int Oi p.bP,.int Oi p.aV],.blk g3 [.int Oi wi],.blk g5 [.int Oi p.m],.blk g6 [vl],.own vl 1 3 (p.m+1) (ints (XD p)),.blk ga [va],.own va 1 3 p.m (ints a2),.blk gy [.func (.yield lq) #[] #[]],.blk gv [.func (.func 279) #[] #[Or g6,Or g5,Or ga,Or gy,Or g3,Or g2,Or gv]],.sem F]:=by
 induction N with
 |zero=>intros;omega
 | succ N ih=>
   intro F s ga gy gv va a i l need pre post w0 w I h Z h0 h1 hx hn hI hh hM hY hN
   have hm:=h.L.fP.n0;have aw:=h.L.fP.n1;have a1:=h.D.fP.n0;have jP:=h.D.fP.n1;have hs:=h.is;have hk:=h.ik
   have ar:=U.m1;have qM:=U.m2;have au:=U.d;have aq:=U.s1;have ap:=U.s2;have a0:=U.k1;have az:=U.k2
   have ax:=Qy U hx h0 h1;have ay:=hx.l0;have a3:=MC U h0;have av:=hn.top
   refine FI Tryz.func279 Tryz.ntmps279 ?_
   refine jw<|hrz ?_
   refine(zP)<|iq<|zh<|htn<|jw<|jw<|hrz ?_
   refine(zP)<|(zV (g_ 4 dV I))<|(zP)<|(zV (iy (kk:=i) Zb ak))<|(zV (iR (u:= .int Oi (XD p i)) dw (I.f_ 5 rfl)))<|(zV (Zr (r:=l-(XD p i))))<|(On)<|iq<|zh<|htn ?_
   refine Yv ?_ ?_<;>intro hc
   {
   refine jw<|hrz ?_
   refine(zP)<|iq<|zh<|htn<|hrt<|m_<|Oj ?_
   exact⟨True,s,t0,a,(ZV trivial).symm,fun _=>⟨rfl,hI,by first|rw [Ir U h0 h1 hx hn Oa,hh,List.append_nil]|rw [TD Oa ‹_›,hh,List.append_nil]⟩,fun O=>absurd trivial O,by rw [Xc trivial];exact I.pk [0,1,2,3,4,5,6,7,8,9,10]⟩}
   refine hsk<|htn<|jw<|jw<|hrz ?_
   refine(zP)<|(zV (g_ 3 dw I))<|(zP)<|iq<|zh<|htn ?_
   refine Yv ?_ ?_<;>intro hc
   {
   refine jw<|hrz ?_
   refine(zV (g_ 6 dV I))<|iJ (xc0 Ux) (ZoX (n:=p.m) (f:=a) w (I.f_ 7 rfl)) ?_;rintro _ w ⟨rfl,J⟩
   replace I:=I.cmp J;clear J
   refine(On)<|lX 14 ?_ ?_<;>intro hc
   {
   refine iq<|zh<|htn<|jw ?_
   refine hdr 8 nP I ?_;clear I;intro w I
   refine hd1 0 ?_
   refine hov gu ?_
   refine hd1 1 ?_
   refine hov gu ?_
   refine hd2 2 3 ?_ ?_
   {
   refine hof ?_
   refine hd1 3 ?_
   refine hof ?_
   refine hd1 4 ?_
   refine hof ?_
   refine hd1 5 ?_
   refine hof ?_
   refine hd1 6 ?_
   refine hov qj ?_
   refine hd1 7 ?_
   refine hov nU ?_
   refine hd0<|htn<|hrt<|m_<|Oj ?_
   exact⟨True,s,t0,a,(ZV trivial).symm,fun _=>⟨rfl,hI,by first|rw [Ir U h0 h1 hx hn Oa,hh,List.append_nil]|rw [TD Oa ‹_›,hh,List.append_nil]⟩,fun O=>absurd trivial O,by rw [Xc trivial];exact I.pk [0,1,2,3,4,5,6,7,8,9,10]⟩}
   {
   refine hof ?_
   refine hd2 2 4 ?_ ?_
   {
   refine hof ?_
   refine hd1 4 ?_
   refine hof ?_
   refine hd1 5 ?_
   refine hof ?_
   refine hd1 6 ?_
   refine hov qj ?_
   refine hd1 7 ?_
   refine hov nU ?_
   refine hd0<|htn<|hrt<|m_<|Oj ?_
   exact⟨True,s,t0,a,(ZV trivial).symm,fun _=>⟨rfl,hI,by first|rw [Ir U h0 h1 hx hn Oa,hh,List.append_nil]|rw [TD Oa ‹_›,hh,List.append_nil]⟩,fun O=>absurd trivial O,by rw [Xc trivial];exact I.pk [0,1,2,3,4,5,6,7,8,9,10]⟩}
   {
   refine hof ?_
   refine hd1 2 ?_
   refine hof ?_
   refine hd1 5 ?_
   refine hof ?_
   refine hd1 6 ?_
   refine hov qj ?_
   refine hd1 7 ?_
   refine hov nU ?_
   refine hd0<|htn<|hrt<|m_<|Oj ?_
   exact⟨True,s,t0,a,(ZV trivial).symm,fun _=>⟨rfl,hI,by first|rw [Ir U h0 h1 hx hn Oa,hh,List.append_nil]|rw [TD Oa ‹_›,hh,List.append_nil]⟩,fun O=>absurd trivial O,by rw [Xc trivial];exact I.pk [0,1,2,3,4,5,6,7,8,9,10]⟩}}}
   refine iq<|zh<|htn<|jw ?_
   refine hdr 8 nP I ?_;clear I;intro w I
   refine hd1 0 ?_
   refine hov gu ?_
   refine hd1 1 ?_
   refine hov gu ?_
   refine hd2 2 3 ?_ ?_
   {
   refine hov (g_ 8 uO I) ?_
   refine hd1 3 ?_
   refine hov (g_ 6 dV I) ?_
   refine hd1 4 ?_
   refine hoc (xc0 oD) (lU (n:=p.m) (f:=a) w (I.f_ 7 rfl) Oa) ?_;rintro ae w ⟨_,rfl,qb,J⟩
   replace I:=(I.comp J).n12;clear J
   refine hd1 5 ?_
   replace I:=I.pk [0,1,2,3,4,5,11,6,7,8,9,10]
   refine hoy (hY s ⟨ae,p.m,a⟩ _ w ⟨hI,qb,rfl,post,by rw [hM,Wt Oa hn (by rw [o9 Oa] at*;omega) (Od ‹_›),hh];rfl⟩ (Sat.bundle (l1:= [_,_,_,_,_,_,_]) I)) ?_;rintro _ w (⟨rfl,ag,qs,I⟩|⟨rfl,af,xe,I⟩)
   {
   replace I:=Sat.unbundle (l1:= [_,_,_,_,_,_]) (l3:= []) I
   refine hd1 6 ?_
   refine hov pY ?_
   refine hd1 7 ?_
   refine hov nU ?_
   refine hd0<|htn<|hrt<|m_<|Oj ?_
   exact⟨True,ag,t0,a,(ZV trivial).symm,fun _=>⟨rfl,qs.2,by rw [Wt Oa hn (by rw [o9 Oa] at*;omega) (Od ‹_›),qs.1,hh]⟩,fun O=>absurd trivial O,by rw [Xc trivial];exact I.pk [0,1,2,3,4,5,6,7,8,9,10]⟩}
   {
   replace I:=Sat.unbundle (l1:= [_,_,_,_,_,_]) (l3:= []) I
   refine hd1 6 ?_
   refine hov pY ?_
   refine hd1 7 ?_
   refine hov nU ?_
   refine hd0<|htn<|hrt<|m_<|Oj ?_
   exact⟨False,s,af,a,(ZB not_false).symm,fun O=>O.elim,fun _=>xe,by rw [WW not_false];exact I.pk [0,1,2,3,4,5,6,7,8,9,10]⟩}}
   {
   refine hov (g_ 6 dV I) ?_
   refine hd2 2 4 ?_ ?_
   {
   refine hov (g_ 8 uO I) ?_
   refine hd1 4 ?_
   refine hoc (xc0 oD) (lU (n:=p.m) (f:=a) w (I.f_ 7 rfl) Oa) ?_;rintro ae w ⟨_,rfl,qb,J⟩
   replace I:=(I.comp J).n12;clear J
   refine hd1 5 ?_
   replace I:=I.pk [0,1,2,3,4,5,11,6,7,8,9,10]
   refine hoy (hY s ⟨ae,p.m,a⟩ _ w ⟨hI,qb,rfl,post,by rw [hM,Wt Oa hn (by rw [o9 Oa] at*;omega) (Od ‹_›),hh];rfl⟩ (Sat.bundle (l1:= [_,_,_,_,_,_,_]) I)) ?_;rintro _ w (⟨rfl,ag,qs,I⟩|⟨rfl,af,xe,I⟩)
   {
   replace I:=Sat.unbundle (l1:= [_,_,_,_,_,_]) (l3:= []) I
   refine hd1 6 ?_
   refine hov pY ?_
   refine hd1 7 ?_
   refine hov nU ?_
   refine hd0<|htn<|hrt<|m_<|Oj ?_
   exact⟨True,ag,t0,a,(ZV trivial).symm,fun _=>⟨rfl,qs.2,by rw [Wt Oa hn (by rw [o9 Oa] at*;omega) (Od ‹_›),qs.1,hh]⟩,fun O=>absurd trivial O,by rw [Xc trivial];exact I.pk [0,1,2,3,4,5,6,7,8,9,10]⟩}
   {
   replace I:=Sat.unbundle (l1:= [_,_,_,_,_,_]) (l3:= []) I
   refine hd1 6 ?_
   refine hov pY ?_
   refine hd1 7 ?_
   refine hov nU ?_
   refine hd0<|htn<|hrt<|m_<|Oj ?_
   exact⟨False,s,af,a,(ZB not_false).symm,fun O=>O.elim,fun _=>xe,by rw [WW not_false];exact I.pk [0,1,2,3,4,5,6,7,8,9,10]⟩}}
   {
   refine hoc (xc0 oD) (lU (n:=p.m) (f:=a) w (I.f_ 7 rfl) Oa) ?_;rintro ae w ⟨_,rfl,qb,J⟩
   replace I:=(I.comp J).n12;clear J
   refine hd1 2 ?_
   refine hov (g_ 8 uO I) ?_
   refine hd1 5 ?_
   replace I:=I.pk [0,1,2,3,4,5,11,6,7,8,9,10]
   refine hoy (hY s ⟨ae,p.m,a⟩ _ w ⟨hI,qb,rfl,post,by rw [hM,Wt Oa hn (by rw [o9 Oa] at*;omega) (Od ‹_›),hh];rfl⟩ (Sat.bundle (l1:= [_,_,_,_,_,_,_]) I)) ?_;rintro _ w (⟨rfl,ag,qs,I⟩|⟨rfl,af,xe,I⟩)
   {
   replace I:=Sat.unbundle (l1:= [_,_,_,_,_,_]) (l3:= []) I
   refine hd1 6 ?_
   refine hov pY ?_
   refine hd1 7 ?_
   refine hov nU ?_
   refine hd0<|htn<|hrt<|m_<|Oj ?_
   exact⟨True,ag,t0,a,(ZV trivial).symm,fun _=>⟨rfl,qs.2,by rw [Wt Oa hn (by rw [o9 Oa] at*;omega) (Od ‹_›),qs.1,hh]⟩,fun O=>absurd trivial O,by rw [Xc trivial];exact I.pk [0,1,2,3,4,5,6,7,8,9,10]⟩}
   {
   replace I:=Sat.unbundle (l1:= [_,_,_,_,_,_]) (l3:= []) I
   refine hd1 6 ?_
   refine hov pY ?_
   refine hd1 7 ?_
   refine hov nU ?_
   refine hd0<|htn<|hrt<|m_<|Oj ?_
   exact⟨False,s,af,a,(ZB not_false).symm,fun O=>O.elim,fun _=>xe,by rw [WW not_false];exact I.pk [0,1,2,3,4,5,6,7,8,9,10]⟩}}}}
   refine hsk<|htn<|jw<|hrz ?_
   refine(zP)<|iq<|zh<|htn<|jw<|jw<|hrz ?_
   refine(zP)<|(zV (g_ 2 dw I))<|(zP)<|iq<|zh<|htn ?_
   refine Yv ?_ ?_<;>intro hc
   {
   refine hrz ?_
   refine(zP)<|iq<|zh<|htn<|jw<|jw ?_
   refine hdst [0,1,2,3,4,5,6,7,8,9,10] [0,1,2,3,4,5,6,7,8,9,10] 1000 nP I ?_;clear I;intro w I
   refine(b_ 0 (h_ 1 jF))<|(iQ 1 (fun w I=>(g_ 1 dV I)))<|(b_ 2 gu)<|(b_ 3 (iy (kk:=i) Zb h.D.fP))<|oH 4 (fun w I=>(iR (u:= .int Oi (p.D i)) dw (h.D.below I.below))) ?_
   have aj:=h.iD i
   have ai:=U.all i h0 Oa;unfold cO.each at ai
   have al:=Yw (a:=l) (b:=p.L i+p.aV) Oa Oa
   have am:min (p.D i) (Int.tdiv l (p.L i+p.aV))=most p i l:=rfl
   refine(b_ 5 gu)<|(iQ 6 (fun w I=>(lH 1 iM I)))<|(b_ 7 gu)<|pK 8 (xc0 XT) (XV (p:=p) (i:=i) w (h.below I.below) U Oa Oa) ?_;rintro _ w ⟨rfl,J⟩
   replace I:=I.cmp J;clear J
   refine⟨⟨fun _=>I,I⟩,?_⟩
   refine(b_ 9 (V3 (r:=(Int.tdiv l (p.L i+p.aV)))))<|(b_ 10 (TS (r:=(min (p.D i) (Int.tdiv l (p.L i+p.aV))))))<|(b_ 11 nU)<|lS<|zh<|htn<|hbk ?_
   have an:least wi i=1:=by unfold least;first|rw [if_pos Oa]|rw [if_neg Oa]
   rw [<-V4 (show a i=0 from hx.zero i Oa)] at I
   refine hlp (fun mm M w=>∃(Y:St) (z:Int) (k:Int),mm=((k+1-least wi i).toNat)/\(least wi i-1<=k\/k=most p i l)/\(k<=most p i l)/\(Inv Y)/\(MX p wi=qc Y++(dn (kid p wi i a l) (least wi i) (k+1-least wi i).toNat++post))/\M= [(0,.int Oi i),(1,.int Oi l),(2,.int Oi need),(5,Or ga),(8,Or g2),(9,Or gv),(15,.int Oi 1),(16,.int Oi k)]/\Sat w0 w [.sem (C Y),.blk g2 [vL,vD,.int Oi p.bP,.int Oi p.aV],.blk g3 [.int Oi wi],.blk g5 [.int Oi p.m],.blk g6 [vl],.own vl 1 3 (p.m+1) (ints (XD p)),.blk ga [va],.own va 1 3 p.m (ints (upd a i z)),.blk gy [.func (.yield lq) #[] #[]],.blk gv [.func (.func 279) #[] #[Or g6,Or g5,Or ga,Or gy,Or g3,Or g2,Or gv]],.sem F]) ⟨s,0,(min (p.D i) (Int.tdiv l (p.L i+p.aV))),rfl,Oa,Oa,?_,?_,rfl,I⟩ ?_
   {
   exact hI}
   {
   rw [hM,XS h0 Oa,hh];rfl}
   clear I w
   rintro mm M w ⟨Y,z,k,rfl,k0,k1,ad,W,rfl,I⟩
   refine jw<|jw<|hrz ?_
   refine(Oo)<|iq<|zh<|htn ?_
   refine Yv ?_ ?_<;>intro hc
   {
   refine hsk<|htn<|jw<|hbk<|jw<|hrz ?_
   refine(On)<|iq<|zh<|htn<|jw<|jw<|hrz ?_
   refine(zP)<|(zV (h_ 1 jF))<|(zV (g_ 1 dV I))<|(zP)<|(zV (iy (kk:=i) Zb h.D.fP))<|iI (iR (u:= .int Oi (p.D i)) dw (h.D.below I.below)) ?_
   have aj:=h.iD i
   refine(zP)<|iq<|zh<|htn ?_
   refine Yv ?_ ?_<;>intro hc
   {
   refine hrz ?_
   refine(zP)<|(zV (lH 1 iM I))<|(zP)<|iJ (xc0 XT) (XV (p:=p) (i:=i) w (h.below I.below) U Oa Oa) ?_;rintro _ w ⟨rfl,J⟩
   replace I:=I.cmp J;clear J
   refine(zV (TS (r:=(min need (p.L i+p.aV)))))<|(zP)<|iq<|zh<|htn<|jw<|hrz ?_
   refine(zV (g_ 6 dV I))<|(On)<|(zV (iy (kk:=i) Zb Z))<|lJ (rV 7 dw I (XE a i z k)) ?_;clear I;rintro w I
   refine iq<|zh<|htn<|jw ?_
   refine hdst [1,2,3,4,6,8,9,5] [1,2,3,4,6,8,9,5] 1000 nP I ?_;clear I;intro w I
   refine(iQ 0 (fun w I=>(g_ 6 UR I)))<|(b_ 1 gu)<|(b_ 2 (Zg (r:=i+1)))<|(b_ 3 gu)<|(b_ 4 gu)<|oH 5 (fun w I=>(lH 0 iM I)) ?_
   have ah:=XO U h0 Oa hx.l0 (k:=k) Oa Oa
   refine(b_ 6 gu)<|(b_ 10 gu)<|pK 7 (xc0 XT) (XV (p:=p) (i:=i) w (h.below I.below) U Oa Oa) ?_;rintro _ w ⟨rfl,J⟩
   replace I:=I.cmp J;clear J
   refine⟨⟨fun _=>I.pk [1,2,3,4,6,8,9,5],I.pk [1,2,3,4,6,8,9,5]⟩,?_⟩
   refine(b_ 8 (Yf (r:=(k*(p.L i+p.aV))) (e:=rfl)))<|(b_ 9 (Zr (r:=l-(k*(p.L i+p.aV)))))<|pK 11 (uU (vs:= [_,_,_]) RI) (ih (s:=Y) (i:=i+1) (a:=upd a i k) (l:=l-k*(p.L i+p.aV)) (need:=(min need (p.L i+p.aV))) (pre:=qc Y) (post:=dn (kid p wi i a l) (least wi i) (k-least wi i).toNat++post) w0 w (Sat.bundle (l1:= [_,_,_,_,_,_,_,_,_,_]) (I.pk [0,1,2,3,4,5,6,7,8,9,10])) h Z Oa Oa (hx.step U h0 Oa Oa Oa) (hn.yes h0 Oa) ad rfl (by rw [W,X8 (k:=k) _ Oa,List.append_assoc];rfl) hY Oa) ?_;rintro _ w ⟨qY,ab,aa,zz,rfl,yU,y8,I⟩
   replace I:=Sat.unbundle (l1:= [_,_,_,_,_,_,_,_,_,_]) (l3:= []) I
   refine⟨⟨fun _=>I.pk [1,2,3,4,6,8,9,5],I.pk [1,2,3,4,6,8,9,5]⟩,?_⟩
   refine(b_ 12 YL)<|lS<|zh<|htn ?_
   refine Yv ?_ ?_<;>intro hc
   {
   refine jw<|hrz ?_
   refine(zP)<|iq<|zh<|htn<|hrt<|og<|m_<|m_<|og<|m_<|Oj ?_
   have yD:=Od (fun ac=>ac ‹¬qY›)
   exact⟨False,s,aa,zz,(ZB not_false).symm,fun O=>O.elim,fun _=>y8 yD,by rw [WW not_false];rw [WW yD] at I;exact I.pk [0,1,2,3,4,5,6,7,8,9,10]⟩}
   refine hsk<|ng<|htn<|hrz ?_
   refine iI gu ?_
   obtain⟨rfl,zS,zT⟩:=yU (Od ‹¬¬qY›)
   rw [Xc (Od ‹¬¬qY›)] at I
   refine(zV (Zr (r:=k-1)))<|(zP)<|iq<|zh<|hlq ⟨ab,k,k-1,rfl,Oa,Oa,?_,?_,rfl,I⟩
   {
   exact zS}
   {
   rw [zT,W,X8 (k:=k) _ Oa,show k-1+1-least wi i=k-least wi i by omega,List.append_assoc,List.append_assoc];rfl}}
   refine hsk<|htn<|jw<|hrz ?_
   refine(zV (g_ 6 dV I))<|(On)<|(zV (iy (kk:=i) Zb Z))<|lJ (rV 7 dw I (XE a i z k)) ?_;clear I;rintro w I
   refine iq<|zh<|htn<|jw ?_
   refine hdst [1,2,3,4,6,8,9,5] [1,2,3,4,6,8,9,5] 1000 nP I ?_;clear I;intro w I
   refine(iQ 0 (fun w I=>(g_ 6 UR I)))<|(b_ 1 gu)<|(b_ 2 (Zg (r:=i+1)))<|(b_ 3 gu)<|(b_ 4 gu)<|oH 5 (fun w I=>(lH 0 iM I)) ?_
   have ah:=XO U h0 Oa hx.l0 (k:=k) Oa Oa
   refine(b_ 6 gu)<|(b_ 10 gu)<|pK 7 (xc0 XT) (XV (p:=p) (i:=i) w (h.below I.below) U Oa Oa) ?_;rintro _ w ⟨rfl,J⟩
   replace I:=I.cmp J;clear J
   refine⟨⟨fun _=>I.pk [1,2,3,4,6,8,9,5],I.pk [1,2,3,4,6,8,9,5]⟩,?_⟩
   refine(b_ 8 (Yf (r:=(k*(p.L i+p.aV))) (e:=rfl)))<|(b_ 9 (Zr (r:=l-(k*(p.L i+p.aV)))))<|pK 11 (uU (vs:= [_,_,_]) RI) (ih (s:=Y) (i:=i+1) (a:=upd a i k) (l:=l-k*(p.L i+p.aV)) (need:=need) (pre:=qc Y) (post:=dn (kid p wi i a l) (least wi i) (k-least wi i).toNat++post) w0 w (Sat.bundle (l1:= [_,_,_,_,_,_,_,_,_,_]) (I.pk [0,1,2,3,4,5,6,7,8,9,10])) h Z Oa Oa (hx.step U h0 Oa Oa Oa) (hn.no h0 Oa) ad rfl (by rw [W,X8 (k:=k) _ Oa,List.append_assoc];rfl) hY Oa) ?_;rintro _ w ⟨qY,ab,aa,zz,rfl,yU,y8,I⟩
   replace I:=Sat.unbundle (l1:= [_,_,_,_,_,_,_,_,_,_]) (l3:= []) I
   refine⟨⟨fun _=>I.pk [1,2,3,4,6,8,9,5],I.pk [1,2,3,4,6,8,9,5]⟩,?_⟩
   refine(b_ 12 YL)<|lS<|zh<|htn ?_
   refine Yv ?_ ?_<;>intro hc
   {
   refine jw<|hrz ?_
   refine(zP)<|iq<|zh<|htn<|hrt<|og<|m_<|m_<|og<|m_<|Oj ?_
   have yD:=Od (fun ac=>ac ‹¬qY›)
   exact⟨False,s,aa,zz,(ZB not_false).symm,fun O=>O.elim,fun _=>y8 yD,by rw [WW not_false];rw [WW yD] at I;exact I.pk [0,1,2,3,4,5,6,7,8,9,10]⟩}
   refine hsk<|ng<|htn<|hrz ?_
   refine iI gu ?_
   obtain⟨rfl,zS,zT⟩:=yU (Od ‹¬¬qY›)
   rw [Xc (Od ‹¬¬qY›)] at I
   refine(zV (Zr (r:=k-1)))<|(zP)<|iq<|zh<|hlq ⟨ab,k,k-1,rfl,Oa,Oa,?_,?_,rfl,I⟩
   {
   exact zS}
   {
   rw [zT,W,X8 (k:=k) _ Oa,show k-1+1-least wi i=k-least wi i by omega,List.append_assoc,List.append_assoc];rfl}}
   refine hxt<|n_<|n_<|rH<|htn<|jw<|hrz ?_
   refine(zV (g_ 6 dV I))<|(zP)<|(zV (iy (kk:=i) Zb Z))<|lJ (rV 7 dw I (XE a i z 0)) ?_;clear I;rintro w I
   refine iq<|zh<|htn<|jw<|hrz ?_
   refine(zP)<|iq<|zh<|htn<|hrt<|Oj ?_
   rw [V4 (show a i=0 from hx.zero i Oa)] at I
   have ao:k+1-least wi i=0:=Oa
   rw [show(k+1-least wi i).toNat=0 by omega] at W
   exact⟨True,Y,t0,a,(ZV trivial).symm,fun _=>⟨rfl,ad,List.append_cancel_right (by rw [<-W,hM,List.append_assoc];rfl)⟩,fun O=>absurd trivial O,by rw [Xc trivial];exact I.pk [0,1,2,3,4,5,6,7,8,9,10]⟩}
   refine hsk<|htn<|jw<|jw ?_
   refine hdst [0,1,2,3,4,5,6,7,8,9,10] [0,1,2,3,4,5,6,7,8,9,10] 1000 nP I ?_;clear I;intro w I
   refine(b_ 0 (h_ 1 jF))<|(iQ 1 (fun w I=>(g_ 1 dV I)))<|(b_ 2 gu)<|(b_ 3 (iy (kk:=i) Zb h.D.fP))<|oH 4 (fun w I=>(iR (u:= .int Oi (p.D i)) dw (h.D.below I.below))) ?_
   have aj:=h.iD i
   have ai:=U.all i h0 Oa;unfold cO.each at ai
   have al:=Yw (a:=l) (b:=p.L i+p.aV) Oa Oa
   have am:min (p.D i) (Int.tdiv l (p.L i+p.aV))=most p i l:=rfl
   refine(b_ 5 gu)<|(iQ 6 (fun w I=>(lH 1 iM I)))<|(b_ 7 gu)<|pK 8 (xc0 XT) (XV (p:=p) (i:=i) w (h.below I.below) U Oa Oa) ?_;rintro _ w ⟨rfl,J⟩
   replace I:=I.cmp J;clear J
   refine⟨⟨fun _=>I,I⟩,?_⟩
   refine(b_ 9 (V3 (r:=(Int.tdiv l (p.L i+p.aV)))))<|(b_ 10 (TS (r:=(min (p.D i) (Int.tdiv l (p.L i+p.aV))))))<|(b_ 11 nU)<|lS<|zh<|htn<|hbk ?_
   have an:least wi i=0:=by unfold least;first|rw [if_pos Oa]|rw [if_neg Oa]
   rw [<-V4 (show a i=0 from hx.zero i Oa)] at I
   refine hlp (fun mm M w=>∃(Y:St) (z:Int) (k:Int),mm=((k+1-least wi i).toNat)/\(least wi i-1<=k\/k=most p i l)/\(k<=most p i l)/\(Inv Y)/\(MX p wi=qc Y++(dn (kid p wi i a l) (least wi i) (k+1-least wi i).toNat++post))/\M= [(0,.int Oi i),(1,.int Oi l),(2,.int Oi need),(5,Or ga),(8,Or g2),(9,Or gv),(15,.int Oi 0),(16,.int Oi k)]/\Sat w0 w [.sem (C Y),.blk g2 [vL,vD,.int Oi p.bP,.int Oi p.aV],.blk g3 [.int Oi wi],.blk g5 [.int Oi p.m],.blk g6 [vl],.own vl 1 3 (p.m+1) (ints (XD p)),.blk ga [va],.own va 1 3 p.m (ints (upd a i z)),.blk gy [.func (.yield lq) #[] #[]],.blk gv [.func (.func 279) #[] #[Or g6,Or g5,Or ga,Or gy,Or g3,Or g2,Or gv]],.sem F]) ⟨s,0,(min (p.D i) (Int.tdiv l (p.L i+p.aV))),rfl,Oa,Oa,?_,?_,rfl,I⟩ ?_
   {
   exact hI}
   {
   rw [hM,XS h0 Oa,hh];rfl}
   clear I w
   rintro mm M w ⟨Y,z,k,rfl,k0,k1,ad,W,rfl,I⟩
   refine jw<|jw<|hrz ?_
   refine(Oo)<|iq<|zh<|htn ?_
   refine Yv ?_ ?_<;>intro hc
   {
   refine hsk<|htn<|jw<|hbk<|jw<|hrz ?_
   refine(On)<|iq<|zh<|htn<|jw<|jw<|hrz ?_
   refine(zP)<|(zV (h_ 1 jF))<|(zV (g_ 1 dV I))<|(zP)<|(zV (iy (kk:=i) Zb h.D.fP))<|iI (iR (u:= .int Oi (p.D i)) dw (h.D.below I.below)) ?_
   have aj:=h.iD i
   refine(zP)<|iq<|zh<|htn ?_
   refine Yv ?_ ?_<;>intro hc
   {
   refine hrz ?_
   refine(zP)<|(zV (lH 1 iM I))<|(zP)<|iJ (xc0 XT) (XV (p:=p) (i:=i) w (h.below I.below) U Oa Oa) ?_;rintro _ w ⟨rfl,J⟩
   replace I:=I.cmp J;clear J
   refine(zV (TS (r:=(min need (p.L i+p.aV)))))<|(zP)<|iq<|zh<|htn<|jw<|hrz ?_
   refine(zV (g_ 6 dV I))<|(On)<|(zV (iy (kk:=i) Zb Z))<|lJ (rV 7 dw I (XE a i z k)) ?_;clear I;rintro w I
   refine iq<|zh<|htn<|jw ?_
   refine hdst [1,2,3,4,6,8,9,5] [1,2,3,4,6,8,9,5] 1000 nP I ?_;clear I;intro w I
   refine(iQ 0 (fun w I=>(g_ 6 UR I)))<|(b_ 1 gu)<|(b_ 2 (Zg (r:=i+1)))<|(b_ 3 gu)<|(b_ 4 gu)<|oH 5 (fun w I=>(lH 0 iM I)) ?_
   have ah:=XO U h0 Oa hx.l0 (k:=k) Oa Oa
   refine(b_ 6 gu)<|(b_ 10 gu)<|pK 7 (xc0 XT) (XV (p:=p) (i:=i) w (h.below I.below) U Oa Oa) ?_;rintro _ w ⟨rfl,J⟩
   replace I:=I.cmp J;clear J
   refine⟨⟨fun _=>I.pk [1,2,3,4,6,8,9,5],I.pk [1,2,3,4,6,8,9,5]⟩,?_⟩
   refine(b_ 8 (Yf (r:=(k*(p.L i+p.aV))) (e:=rfl)))<|(b_ 9 (Zr (r:=l-(k*(p.L i+p.aV)))))<|pK 11 (uU (vs:= [_,_,_]) RI) (ih (s:=Y) (i:=i+1) (a:=upd a i k) (l:=l-k*(p.L i+p.aV)) (need:=(min need (p.L i+p.aV))) (pre:=qc Y) (post:=dn (kid p wi i a l) (least wi i) (k-least wi i).toNat++post) w0 w (Sat.bundle (l1:= [_,_,_,_,_,_,_,_,_,_]) (I.pk [0,1,2,3,4,5,6,7,8,9,10])) h Z Oa Oa (hx.step U h0 Oa Oa Oa) (hn.yes h0 Oa) ad rfl (by rw [W,X8 (k:=k) _ Oa,List.append_assoc];rfl) hY Oa) ?_;rintro _ w ⟨qY,ab,aa,zz,rfl,yU,y8,I⟩
   replace I:=Sat.unbundle (l1:= [_,_,_,_,_,_,_,_,_,_]) (l3:= []) I
   refine⟨⟨fun _=>I.pk [1,2,3,4,6,8,9,5],I.pk [1,2,3,4,6,8,9,5]⟩,?_⟩
   refine(b_ 12 YL)<|lS<|zh<|htn ?_
   refine Yv ?_ ?_<;>intro hc
   {
   refine jw<|hrz ?_
   refine(zP)<|iq<|zh<|htn<|hrt<|og<|m_<|m_<|og<|m_<|Oj ?_
   have yD:=Od (fun ac=>ac ‹¬qY›)
   exact⟨False,s,aa,zz,(ZB not_false).symm,fun O=>O.elim,fun _=>y8 yD,by rw [WW not_false];rw [WW yD] at I;exact I.pk [0,1,2,3,4,5,6,7,8,9,10]⟩}
   refine hsk<|ng<|htn<|hrz ?_
   refine iI gu ?_
   obtain⟨rfl,zS,zT⟩:=yU (Od ‹¬¬qY›)
   rw [Xc (Od ‹¬¬qY›)] at I
   refine(zV (Zr (r:=k-1)))<|(zP)<|iq<|zh<|hlq ⟨ab,k,k-1,rfl,Oa,Oa,?_,?_,rfl,I⟩
   {
   exact zS}
   {
   rw [zT,W,X8 (k:=k) _ Oa,show k-1+1-least wi i=k-least wi i by omega,List.append_assoc,List.append_assoc];rfl}}
   refine hsk<|htn<|jw<|hrz ?_
   refine(zV (g_ 6 dV I))<|(On)<|(zV (iy (kk:=i) Zb Z))<|lJ (rV 7 dw I (XE a i z k)) ?_;clear I;rintro w I
   refine iq<|zh<|htn<|jw ?_
   refine hdst [1,2,3,4,6,8,9,5] [1,2,3,4,6,8,9,5] 1000 nP I ?_;clear I;intro w I
   refine(iQ 0 (fun w I=>(g_ 6 UR I)))<|(b_ 1 gu)<|(b_ 2 (Zg (r:=i+1)))<|(b_ 3 gu)<|(b_ 4 gu)<|oH 5 (fun w I=>(lH 0 iM I)) ?_
   have ah:=XO U h0 Oa hx.l0 (k:=k) Oa Oa
   refine(b_ 6 gu)<|(b_ 10 gu)<|pK 7 (xc0 XT) (XV (p:=p) (i:=i) w (h.below I.below) U Oa Oa) ?_;rintro _ w ⟨rfl,J⟩
   replace I:=I.cmp J;clear J
   refine⟨⟨fun _=>I.pk [1,2,3,4,6,8,9,5],I.pk [1,2,3,4,6,8,9,5]⟩,?_⟩
   refine(b_ 8 (Yf (r:=(k*(p.L i+p.aV))) (e:=rfl)))<|(b_ 9 (Zr (r:=l-(k*(p.L i+p.aV)))))<|pK 11 (uU (vs:= [_,_,_]) RI) (ih (s:=Y) (i:=i+1) (a:=upd a i k) (l:=l-k*(p.L i+p.aV)) (need:=need) (pre:=qc Y) (post:=dn (kid p wi i a l) (least wi i) (k-least wi i).toNat++post) w0 w (Sat.bundle (l1:= [_,_,_,_,_,_,_,_,_,_]) (I.pk [0,1,2,3,4,5,6,7,8,9,10])) h Z Oa Oa (hx.step U h0 Oa Oa Oa) (hn.no h0 Oa) ad rfl (by rw [W,X8 (k:=k) _ Oa,List.append_assoc];rfl) hY Oa) ?_;rintro _ w ⟨qY,ab,aa,zz,rfl,yU,y8,I⟩
   replace I:=Sat.unbundle (l1:= [_,_,_,_,_,_,_,_,_,_]) (l3:= []) I
   refine⟨⟨fun _=>I.pk [1,2,3,4,6,8,9,5],I.pk [1,2,3,4,6,8,9,5]⟩,?_⟩
   refine(b_ 12 YL)<|lS<|zh<|htn ?_
   refine Yv ?_ ?_<;>intro hc
   {
   refine jw<|hrz ?_
   refine(zP)<|iq<|zh<|htn<|hrt<|og<|m_<|m_<|og<|m_<|Oj ?_
   have yD:=Od (fun ac=>ac ‹¬qY›)
   exact⟨False,s,aa,zz,(ZB not_false).symm,fun O=>O.elim,fun _=>y8 yD,by rw [WW not_false];rw [WW yD] at I;exact I.pk [0,1,2,3,4,5,6,7,8,9,10]⟩}
   refine hsk<|ng<|htn<|hrz ?_
   refine iI gu ?_
   obtain⟨rfl,zS,zT⟩:=yU (Od ‹¬¬qY›)
   rw [Xc (Od ‹¬¬qY›)] at I
   refine(zV (Zr (r:=k-1)))<|(zP)<|iq<|zh<|hlq ⟨ab,k,k-1,rfl,Oa,Oa,?_,?_,rfl,I⟩
   {
   exact zS}
   {
   rw [zT,W,X8 (k:=k) _ Oa,show k-1+1-least wi i=k-least wi i by omega,List.append_assoc,List.append_assoc];rfl}}
   refine hxt<|n_<|n_<|rH<|htn<|jw<|hrz ?_
   refine(zV (g_ 6 dV I))<|(zP)<|(zV (iy (kk:=i) Zb Z))<|lJ (rV 7 dw I (XE a i z 0)) ?_;clear I;rintro w I
   refine iq<|zh<|htn<|jw<|hrz ?_
   refine(zP)<|iq<|zh<|htn<|hrt<|Oj ?_
   rw [V4 (show a i=0 from hx.zero i Oa)] at I
   have ao:k+1-least wi i=0:=Oa
   rw [show(k+1-least wi i).toNat=0 by omega] at W
   exact⟨True,Y,t0,a,(ZV trivial).symm,fun _=>⟨rfl,ad,List.append_cancel_right (by rw [<-W,hM,List.append_assoc];rfl)⟩,fun O=>absurd trivial O,by rw [Xc trivial];exact I.pk [0,1,2,3,4,5,6,7,8,9,10]⟩
theorem Zm1:ZN Om 339=some (.nilFunc,1,8):=Oc
theorem ZoD{vL vD:Value}{p:cO}{wi:Int}{St Tt:Type}(J:St->List (Of))(Inv:St->Prop)(Stp:Tt->Prop)(t0:Tt)(O:St)(aa:J O= [])(ab:Inv O){g2 g3 g5 g6:Nat}{U:Value}(w0:World)(Z:iK U (p.m+1))(I:p.Ok)(h:oO w0 vL vD p):Np (St:=St) (X:=BX) (Tt:=Tt) Om w0 278 [Or g5,Or g6,Or g3,Or g2] [.blk g2 [vL,vD,.int Oi p.bP,.int Oi p.aV],.blk g3 [.int Oi wi],.blk g5 [.int Oi p.m],.blk g6 [U],.own U 1 3 (p.m+1) (ints (XD p))] (fun x=> [x.v]) (fun x=> [.own x.v 1 3 x.n (ints x.f)]) (fun(s:St) (x:BX) (rest:Gw.Frame)=>Inv s/\iK x.v x.n/\x.n=p.m/\∃r,MX p wi=J s++x.f::r) (fun(s:St) (x:BX) (s1:St)=>J s1=J s++ [x.f]/\Inv s1) (fun _ _ t=>Stp t) (O) (fun s rest=>Inv s/\J s=MX p wi) (fun t _=>Stp t):=by
 intro l C D w F hY
 have hm:=h.L.fP.n0;have ag:=h.L.fP.n1;have aj:=h.D.fP.n0;have jP:=h.D.fP.n1;have hs:=h.is;have hk:=h.ik
 have ae:=I.m1;have qM:=I.m2;have af:=I.d;have ad:=I.s1;have ac:=I.s2;have ai:=I.k1;have ah:=I.k2
 refine FI Tryz.func278 Tryz.ntmps278 ?_
 refine jw<|hrz ?_
 refine iG (nS (cs:= [_]) F) ?_;rintro _ w ⟨g7,rfl,F⟩
 replace F:=F.n7
 refine iq<|zh<|htn<|jw<|hrz ?_
 refine iI (g_ 3 dw F) ?_
 refine iG (uF Zb Zq F) ?_;rintro v1 w ⟨F,N⟩
 replace F:=F.n8
 refine iG (oh (cs:= [_]) ZQ F) ?_;rintro _ w ⟨g8,rfl,F⟩
 replace F:=F.n9
 refine lJ (xsb 8 dV F (hv:=N.one)) ?_;clear F;rintro w F
 replace F:=F.n9
 refine iq<|zh<|htn<|jw<|hrz ?_
 refine iG (oh (cs:= [_]) Zm1 F) ?_;rintro _ w ⟨g9,rfl,F⟩
 replace F:=F.n10
 refine iq<|zh<|htn<|jw<|hrz ?_
 refine iI wX ?_
 refine lJ (xsb 9 UR F) ?_;clear F;rintro w F
 replace F:=F.n10
 refine iq<|zh<|htn<|hrz ?_
 refine iI (g_ 9 UR F) ?_
 refine iI (h_ 2 o_) ?_
 refine iI (g_ 1 dw F) ?_
 refine iI (h_ 3 nZ) ?_
 refine iI (g_ 1 dw F) ?_
 refine iI (Zg (r:=p.bP+p.aV)) ?_
 refine iI (h_ 2 o_) ?_
 refine iI (g_ 1 dw F) ?_
 refine iI (h_ 3 nZ) ?_
 refine iI (g_ 1 dw F) ?_
 refine iI (Zg (r:=p.bP+p.aV)) ?_
 refine iI (Zg (r:=p.bP+p.aV+1)) ?_
 refine iJ (uU (vs:= [_,_,_]) RI) (ZkJ I J Inv Stp t0 Z _ (s:=O) (i:=0) (a:=fun _=>0) (l:=p.bP+p.aV) (need:=p.bP+p.aV+1) (pre:= []) (post:= []) w0 w (Sat.bundle (l1:= [_,_,_,_,_,_,_,_,_,_]) (l2:= []) (F.pk [0,1,2,3,4,5,8,7,6,9])) h N Oa Oa (wQ.start I) (tu.start p) ab aa (by rw [List.nil_append,List.append_nil];rfl) hY (Nat.lt_succ_self _)) ?_;rintro _ w ⟨qY,Y,W,zz,rfl,yU,y8,F⟩
 replace F:=Sat.unbundle (l1:= [_,_,_,_,_,_,_,_,_,_]) (l3:= []) F
 replace F:=F.n10
 refine iq<|zh<|XK ⟨_,rfl,?_⟩
 by_cases hok:qY
 {
 obtain⟨_,hi,hh⟩:=yU hok
 rw [Xc hok] at F
 exact .inl ⟨Y,_,⟨hi,by rw [hh,List.nil_append];rfl⟩,Sat.bundle (l1:= [_,_,_,_,_,_]) F⟩}
 {
 rw [WW hok] at F
 exact .inr ⟨W,_,y8 hok,Sat.bundle (l1:= [_,_,_,_,_,_]) F⟩}
theorem ZnN:Zc Om 222=true:=Oc
theorem Znv:Zc Om 278=true:=Oc
theorem OY:ZN Om 35=some (.int Oi 0,1,8):=Oc
structure Jk where
  v:Value
  n:Int
  vv:Ov
  f:Og
  l:List (Of)
def Zrh(p:cO)(s:Jk):Prop:=iK s.v s.n/\Ls p.m s.n s.f s.l/\s.n<=300
def Zpi(p:cO)(wi u:Int)(f:Og)(e:Int):Prop:=(300<(MX p wi).length/\e=9/\u=0)\/((MX p wi).length<=300/\e=0/\Ls p.m u f (MX p wi))
theorem ZiI{vL vD:Value}{p:cO}{wi:Int}(w0:World)(h:oO w0 vL vD p)(J:p.Ok):
   Calls Om 143 [.agg #[vL,vD,.int Oi p.bP,.int Oi p.aV],.int Oi wi].toArray w0 fun e w=>∃v,e= .returned v/\∃r u vv f e,v= .tuple #[r,.int Oi e]/\Zpi p wi u f e/\iK r u/\Sat w0 w [.own r 1 22 u vv,.sem (Frame.rows 3 u vv (fun _=>p.m) f)]:=by
 obtain⟨hm,am,hd,hd1,hs,hk⟩:=h.Oq
 have ak:=J.m1;have qM:=J.m2;have al:=J.d;have aj:=J.s1;have ai:=J.s2;have ao:=J.k1;have an:=J.k2
 refine GK Tryz.func143 Tryz.ntmps143 fun w D=> ?_
 refine jw<|hrz ?_
 refine iG (nS (cs:= [_,_,_,_]) D) ?_;rintro _ w ⟨g1,rfl,D⟩
 refine iG (oh (cs:= [_]) J6 D) ?_;rintro _ w ⟨g2,rfl,D⟩
 refine iG (oh (cs:= [_]) OY D) ?_;rintro _ w ⟨g3,rfl,D⟩
 refine iq<|zh<|htn<|jw<|hrz ?_
 refine iG (oh (cs:= [_]) J6 D) ?_;rintro _ w ⟨g4,rfl,D⟩
 refine iq<|zh<|htn<|jw<|jw<|hrz ?_
 refine(zV (lH 0 iM D))<|(zP)<|iJ (xc0 ZnN) (Zf9 (p:=p) (wi:=wi) w (h.below D.below) J) ?_;rintro _ w ⟨g5,g6,g7,g8,af,rfl,gW,Z⟩
 replace D:=(D.comp Z).n9;clear Z
 refine iq<|zh<|htn<|hbk ?_
 replace D:=D.fU 1 22 (fun _=>Oh)
 replace D:=D.iF 3 (fun _=>Oh) (fun _=>p.m) (fun _ _=>0)
 refine NZ (St:=Jk) (X:=BX) (Tt:=Unit) (fun s=> [.blk g1 [vL,vD,.int Oi p.bP,.int Oi p.aV],.blk g2 [Oh],.blk g3 [.int Oi 0],.blk g4 [s.v],.own s.v 1 22 s.n s.vv,.sem (Frame.rows 3 s.n s.vv (fun _=>p.m) s.f)]) (fun t=> [.blk g2 [Oh],.blk g3 [.int Oi 9]]) (fun _=> .ret) (⟨Oh,0,fun _=> Oh,fun _ _=>0, []⟩:Jk) (fun x M es=>M= [(0,.agg #[vL,vD,.int Oi p.bP,.int Oi p.aV]),(1,.int Oi wi),(2,Or g1),(4,Or g2),(5,Or g3),(6,Or g4),(8,.agg #[vL,vD,.int Oi p.bP,.int Oi p.aV]),(9,.int Oi wi),(10,.func (.func 278) #[] #[Or g7,Or g8,Or g6,Or g5]),(11,x.v),(7,x.v)]/\es= [.own x.v 1 3 x.n (ints x.f)]) (ZoD (wi:=wi) (fun s=>s.l) (Zrh p) (fun(_:Unit)=>300<(MX p wi).length) () (⟨Oh,0,fun _=> Oh,fun _ _=>0, []⟩:Jk) rfl ⟨d_,Ls.nil,by show(0:Int)<=300;omega⟩ w0 gW J h) (D.pk [0,1,2,3,9,10,4,5,6,7,8]) Znv (fun _=>rfl) (fun _=> .inl rfl) ?_ ?_ ?_ ?_
 {
 intro lq s x rest w qe qG ab D
 refine hrz ?_
 refine(zP)<|iq<|zh<|FH ⟨rfl,rfl⟩ D}
 {
 rintro lq s x _ _ rest w qe ⟨rfl,rfl⟩ qG ab D
 obtain⟨⟨F,I,ad⟩,U,ag,r9,ae⟩:=qe
 have ac:=fun k (O:0<=k) (N:k<s.n)=>D.iw 5 rfl O N
 have aa:=F.n0
 have xd:=I.1
 refine hbk<|jw<|jw<|hrz ?_
 refine(zV (g_ 3 Zz D))<|(zV (iW Zk F))<|(zP)<|iq<|zh<|htn ?_
 refine Yv ?_ ?_<;>intro hc
 {
 refine jw<|hrz ?_
 refine lJ (xsb 1 Zz D) ?_;clear D;rintro w D
 refine lJ (xsb 2 oz D) ?_;clear D;rintro w D
 refine iq<|zh<|htn<|hrt<|m_<|og<|FK () (by show 300<(MX p wi).length;rw [ae,List.length_append,List.length_cons];omega) rfl (D.pk [1,2,6,7,8,9,10,11])}
 refine hsk<|htn<|hrz ?_
 refine(zV (g_ 3 Zz D))<|(zP)<|iG (pO (n:=1) (len:=1) (pv:= [(0,x.v)]) (cs:= [x.v]) (c:=(fun _=>x.v)) Zk ZQ D (hf:=by have hz:=U;revert hz;generalize x.v=z;rintro⟨_,_,_,_,rfl,_⟩;show _=_;kernel_rfl)) ?_;rintro v1 w ⟨D,ah⟩
 refine iG (pz 4 (r:=s.n+1) Zk ZQ D (D.f_ 13 rfl) (YA _ _ _) (h1:=fun _ _ _=>U.one)) ?_;rintro v2 w ⟨D,W⟩
 replace D:=Sat.merge (l1:= [_,_,_,_,_]) (l2:= [_,_,_,_,_,_]) (l3:= [_]) D Oa
 have q9:=fun k (O:0<=k) (N:k<s.n+1)=>D.iw 5 rfl O N
 refine lJ (xsb 3 Zz D (hv:=W.one)) ?_;clear D;rintro w D
 refine iq<|zh<|ng ?_
 replace D:=D.oP (xk:=(lD s.vv s.n x.v)) (vT:=fun _=>p.m) (f':=(lD s.f s.n x.f)) 5 rfl (fun k O N=>⟨rfl,by unfold lD;split<;>(try dsimp only)<;>omega,fun _ _ _=>rfl⟩)
 refine D6 ⟨v2,s.n+1,lD s.vv s.n x.v,lD s.f s.n x.f,s.l++ [x.f]⟩ ⟨rfl,W,I.snoc fun _ _ _=>rfl,by show s.n+1<=300;omega⟩ (D.pk [0,1,2,3,4,5,6,7,8,9,10,11])}
 {
 intro Dk s rest w qr D
 obtain⟨⟨F,I,ad⟩,Y⟩:=qr
 have ac:=fun k (O:0<=k) (N:k<s.n)=>D.iw 5 rfl O N
 have aa:=F.n0
 have xd:=I.1
 refine ng<|htn<|jw<|hrz ?_
 refine(zV (g_ 3 Zz D))<|lJ (xsb 1 Zz D (hv:=F.one)) ?_;clear D;rintro w D
 refine lJ (xsb 2 oz D) ?_;clear D;rintro w D
 refine iq<|zh<|htn<|hrt<|VG 12 D fun w D=>NS Zz oz (D.lM 1 rfl rfl) (D.lM 2 rfl rfl) ⟨_,rfl,?_⟩
 exact⟨_,_,_,_,0,rfl,.inr ⟨by rw [<-Y];omega,rfl,by rw [<-Y];exact I⟩,F,D.pk [4,5]⟩}
 {
 intro Dk t rest w qr D
 show Ge _ _ _ .ret _ _
 refine og<|m_<|VG 8 D fun w D=>NS Zz oz (D.lM 0 rfl rfl) (D.lM 1 rfl rfl) ⟨_,rfl,?_⟩
 exact⟨_,0,_,_,_,rfl,.inl ⟨qr,rfl,rfl⟩,d_,((D.sub (.cons _ (.cons _ (.cons _ (.cons _ (.cons _ (.cons _ (.cons _ (.cons _ (.cons _ .slnil)))))))))).fU 1 22 (fun _=>Oh)).iF 3 (fun _=>Oh) (fun _=>p.m) (fun _ _=>0)⟩}
theorem Zoe:Zc Om 143=true:=Oc
theorem ZkS{vL vD:Value}{p:cO}{wi:Int}(w0:World)(h:oO w0 vL vD p):
   Calls Om 71 [.agg #[vL,vD,.int Oi p.bP,.int Oi p.aV],.int Oi wi].toArray w0 fun e w=>∃v,e= .returned v/\∃r u vv f e,v= .tuple #[r,.int Oi e]/\ZqP p wi u f e/\iK r u/\Sat w0 w [.own r 1 22 u vv,.sem (Frame.rows 3 u vv (fun _=>p.m) f)]:=by
 obtain⟨hm,ad,hd,hd1,hs,hk⟩:=h.Oq
 refine iE Tryz.func71 Tryz.ntmps71 fun w D=> ?_
 refine fQ<|iG (nS (cs:= [_,_,_,_]) D) ?_;rintro _ w ⟨g1,rfl,D⟩
 refine(On)<|ig<|lW<|o7<|fQ<|(zV (lH 0 iM D))<|iJ (xc0 XU) (Yd (p:=p) w (h.below D.below)) ?_;rintro _ w ⟨rfl,I⟩
 replace D:=D.cmp I;clear I
 refine(On)<|ig<|Zf ?_ ?_<;>intro hc
 {
 refine fQ<|(On)<|XI<|rD ⟨_,rfl,?_⟩
 exact⟨_,0,_,_,_,rfl,.inl ⟨‹¬p.Ok›,rfl,rfl⟩,d_,((D.sub (.cons _ .slnil)).fU 1 22 (fun _=>Oh)).iF 3 (fun _=>Oh) (fun _=>p.m) (fun _ _=>0)⟩}
 refine fQ<|zs2 ?_
 have F:p.Ok:=by first|assumption|exact Od ‹_›
 have ab:=F.m1;have qM:=F.m2;have ac:=F.d;have aa:=F.s1;have Z:=F.s2;have af:=F.k1;have ae:=F.k2
 refine(zP)<|lX 13 ?_ ?_<;>intro hc
 {
 iterate 5 refine oq ?_
 refine(On)<|ig<|rW<|fQ ?_
 refine(On)<|XI<|rD ⟨_,rfl,?_⟩
 exact⟨_,0,_,_,_,rfl,.inr (.inl ⟨F,Oa,rfl,rfl⟩),d_,((D.sub (.cons _ .slnil)).fU 1 22 (fun _=>Oh)).iF 3 (fun _=>Oh) (fun _=>p.m) (fun _ _=>0)⟩}
 refine(zP)<|(zV (h_ 0 lu))<|(zV (g_ 0 dV D))<|(zV (iW Zb h.L.fP))<|(Oo)<|ig<|Zf ?_ ?_<;>intro hc
 {
 refine fQ<|(On)<|XI<|rD ⟨_,rfl,?_⟩
 exact⟨_,0,_,_,_,rfl,.inr (.inl ⟨F,Oa,rfl,rfl⟩),d_,((D.sub (.cons _ .slnil)).fU 1 22 (fun _=>Oh)).iF 3 (fun _=>Oh) (fun _=>p.m) (fun _ _=>0)⟩}
 refine nX<|ng<|iP<|fQ<|(zV (lH 0 iM D))<|(zP)<|iJ (xc0 Zoe) (ZiI (p:=p) (wi:=wi) w (h.below D.below) F) ?_;rintro _ w ⟨xD,J,O,ag,ah,rfl,N,U,I⟩
 replace D:=(D.comp I).n3;clear I
 have yc:∀k,0<=k->k<J->iK (O k) p.m:=fun k Y W=>D.iw 2 rfl Y W
 refine qE ?_
 refine jk<|rD ⟨_,rfl,?_⟩
 exact⟨_,_,_,_,_,rfl,(by rcases N with⟨h8,h9⟩|⟨h8,h9,h7⟩;exact .inr (.inr (.inl ⟨F,Oa,h8,h9⟩));exact .inr (.inr (.inr ⟨F,Oa,h8,h9,h7⟩))),U,D.pk [1,2]⟩
end Go.Proofs.YtpnamgfdakfccaaGreat
namespace Go.Proofs.Gw
open Go Go.RowKit
variable {i j k:Int}
def Gh{α:Type}(x y:α):Int->α:=fun j=>if j=0 then x else y
def ZT(vv:Ov)(s k b:Int):Ov:=fun j=>if j%5=0 then vv (2*(j/5)) else if j%5=1 then vv (2*(j/5)+1) else if j%5=2 then .int Oi s else if j%5=3 then .int Oi k else .int Oi b
theorem Zkm(vv:Ov)(s k b:Int)(h:j=5*i):ZT vv s k b j=vv (2*i):=by
 unfold ZT;rw [if_pos Oa,show j/5=i by omega]
theorem Zkl(vv:Ov)(s k b:Int)(h:j=5*i+1):ZT vv s k b j=vv (2*i+1):=by
 unfold ZT;rw [if_neg Oa,if_pos Oa,show j/5=i by omega]
theorem Zkk(vv:Ov)(s k b:Int)(h:j=5*i+2):ZT vv s k b j= .int Oi s:=by
 unfold ZT;rw [if_neg Oa,if_neg Oa,if_pos Oa]
theorem Zkj(vv:Ov)(s k b:Int)(h:j=5*i+3):ZT vv s k b j= .int Oi k:=by
 unfold ZT;rw [if_neg Oa,if_neg Oa,if_neg Oa,if_pos Oa]
theorem Zki(vv:Ov)(s k b:Int)(h:j=5*i+4):ZT vv s k b j= .int Oi b:=by
 unfold ZT;rw [if_neg Oa,if_neg Oa,if_neg Oa,if_neg Oa]
theorem ZfL(vv:Ov)(s k b:Int){q:Int}(h:q=5*i):∀(j:Nat) u, [vv (2*i),vv (2*i+1),Value.int Oi s,.int Oi k,.int Oi b][j]? =some u->ZT vv s k b (q+j)=u:=fun j u D=>by
 rcases j with _|_|_|_|_|j
 · cases D;exact Zkm vv s k b Oa
 · cases D;exact Zkl vv s k b Oa
 · cases D;exact Zkk vv s k b (i:=i) Oa
 · cases D;exact Zkj vv s k b (i:=i) Oa
 · cases D;exact Zki vv s k b (i:=i) Oa
 · simp at D
theorem ZdF{vv:Ov}{s b:Int}(h:∀i,(vv i).oneCell'=true)(j:Int):(ZT vv s k b j).oneCell'=true:=by
 unfold ZT
 split
 · exact h _
 {
 split
 · exact h _
 {
 split
 · rfl
 · split<;>rfl}}
theorem ZjO{x y:Value}(D:x.oneCell'=true)(h:y.oneCell'=true)(i:Int):(Gh x y i).oneCell'=true:=by
 unfold Gh;split
 · exact D
 · exact h
theorem ZdY(vv:Ov)(s k b n:Int)(x y:Value):cat (n*5) (ZT vv s k b) (ZT (Gh x y) s k b)=ZT (lD (lD vv (2*n) x) (2*n+1) y) s k b:=by
 funext j
 unfold cat ZT lD Gh
 by_cases h:j<n*5
 {
 simp only [if_pos h]
 have h1:2*(j/5)<2*n:=Oa
 have I:2*(j/5)+1<2*n:=Oa
 have F:2*(j/5)<2*n+1:=Oa
 have J:2*(j/5)+1<2*n+1:=Oa
 simp only [if_pos h1,if_pos I,if_pos F,if_pos J]}
 {
 simp only [if_neg h]
 have O:(j-n*5)%5=j%5:=Oa
 have N:(j-n*5)/5=j/5-n:=Oa
 rw [O,N]
 have h1:¬2*(j/5)<2*n:=Oa
 have I:¬2*(j/5)+1<2*n+1:=Oa
 have F:¬2*(j/5-n)+1=0:=Oa
 simp only [if_neg h1,if_neg I,if_neg F]
 by_cases h5:2*(j/5)<2*n+1
 · have D:2*(j/5-n)=0:=Oa
   simp only [if_pos h5,if_pos D]
 · have D:¬2*(j/5-n)=0:=Oa
   simp only [if_neg h5,if_neg D]}
theorem Sat.Aj{w w0:World}{l:List iO}{E:TypeId}{n m:Int}{vv:Ov}{ln:Of}{f:Og}(i:Nat)(h:Sat w0 w l)(hi:l[i]? =some (.sem (Frame.rows E n vv ln f)))(e:n=m):Sat w0 w (l.set i (.sem (Frame.rows E m vv ln f))):=by
 subst e
 rw [YE hi,<-Z3 hi];exact h
def wJ(p:cO)(X:List (Of)):Og:=fun k=>if k%2=0 then p.L else fun j=>p.D j-Yi X (k/2) j
theorem NU(p:cO)(X:List (Of))(h:k=2*i):wJ p X k=p.L:=by unfold wJ;rw [if_pos Oa]
theorem JF(p:cO)(X:List (Of))(h:k=2*i+1):wJ p X k=fun j=>p.D j-Yi X i j:=by unfold wJ;rw [if_neg Oa,show k/2=i by omega]
theorem ZfK{p:cO}(hd:p.d=p.m){X:List (Of)}{x:Of}(O:0<=i)(F:∀j,0<=j->j<p.m->x j=Yi X i j)(vv:Ov):∀k,0<=k->k<2*i+2->vv k=vv k/\lD (lD (fun _=>p.m) (2*i) p.m) (2*i+1) p.d k=(fun _=>p.m) k/\
   ∀j,0<=j->j<lD (lD (fun _=>p.m) (2*i) p.m) (2*i+1) p.d k->lD (lD (wJ p X) (2*i) p.L) (2*i+1) (fun j=>p.D j-x j) k j=wJ p X k j:=fun k N J=>by
 refine⟨rfl,by unfold lD;split<;>(try split)<;>first|rfl|exact hd,fun j D h=> ?_⟩
 have I:lD (lD (fun _=>p.m) (2*i) p.m) (2*i+1) p.d k=p.m:=by unfold lD;split<;>(try split)<;>first|rfl|exact hd
 rw [I] at h
 by_cases e1:k<2*i
 · rw [Zl Oa,Zl e1]
 {
 by_cases e2:k<2*i+1
 · rw [Zl e2,Zo e1,NU p X (i:=i) Oa]
 {
 rw [Zo e2,JF p X (i:=i) Oa]
 show p.D j-x j=p.D j-Yi X i j
 rw [F j D h]}}
end Go.Proofs.Gw
namespace Go.Proofs.YtpnamgfdakfccaaGreat
open Go Go.RowKit Go.Proofs.Gw
variable {b wi:Int}
theorem OG:Zc Om 28=true:=Oc
theorem pU:Zw Om 39 0=some 0:=Oc
theorem sU:Zw Om 39 1=some 4:=Oc
theorem Xz:ZC Om 39=some 5:=Oc
def YB(p:cO)(b:Int):Prop:=p.Ok/\0<=b/\b<=1000
def ZS(p:cO)(b wi:Int):Prop:=YB p b/\1<=b/\(0<=wi/\wi<p.m)/\p.D wi≠0/\(MX p wi).length<=300
noncomputable def Zn(p:cO)(b wi:Int):Int:= @ite _ (ZS p b wi) (Classical.propDecidable _) ((MX p wi).length:Int) 0
theorem YT{p:cO}(h:ZS p b wi):Zn p b wi=(MX p wi).length:=if_pos h
theorem Vu{p:cO}(h:¬ZS p b wi):Zn p b wi=0:=if_neg h
theorem ZgV{p:cO}(N:p.Ok){u:Int}{f:Og}(h:Ls p.m u f (MX p wi)){i:Int}(I:0<=i)(J:i<u):∀k,0<=k->k<p.m->0<=f i k/\f i k<=p.D k:=fun k F D=>by
 rw [h.2 i I J k F D]
 exact(Ja N (Ui I (by have:=h.1;omega))).1.rng k F D
def To(p:cO)(b n:Int)(l:Of):Prop:=YB p b/\2<=n/\vH p (n-1) (fun k=>l (k+1)) (l 0)=0/\b<Xe p (n-1) (fun k=>l (k+1)) (l 0)
theorem PU{vL vD:Value}{p:cO}(w0:World)(h:oO w0 vL vD p):
   Calls Om 28 [.agg #[vL,vD,.int Oi p.bP,.int Oi p.aV,.int Oi b]].toArray w0 fun e w=>∃v,e= .returned v/\v=B (YB p b)/\Sat w0 w []:=by
 obtain⟨O,J,hd,hd1,N,U⟩:=h.Oq
 refine iE Tryz.func28 Tryz.ntmps28 fun w D=> ?_
 refine fQ<|iG (nS (cs:= [_,_,_,_,_]) D) ?_;rintro _ w ⟨W,rfl,D⟩
 refine(zP)<|iT<|(zV (h_ 0 pU))<|(zV (C_ 0 (ds:= [vL,vD,.int Oi p.bP,.int Oi p.aV]) iM D))<|iJ (xc0 XU) (Yd (p:=p) w (h.below D.below)) ?_;rintro _ w ⟨rfl,F⟩
 replace D:=D.cmp F;clear F
 refine(zP)<|lX 6 ?_ ?_<;>intro hc
 {
 refine(zV (h_ 4 sU))<|(zV (g_ 0 dw D))<|(Oo)<|lX 11 ?_ ?_<;>intro hc
 {
 refine(zV (h_ 4 sU))<|(zV (g_ 0 dw D))<|(Oo)<|jk<|Oj ?_
 exact⟨Zm ⟨fun I=>⟨by first|assumption|exact Od ‹_›,Oa,I⟩,fun I=>I.2.2⟩,D.nl⟩}
 iterate 3 refine oq ?_
 refine(On)<|jk<|Oj ?_
 exact⟨Zi (by rintro⟨h1,h2,h3⟩;first|omega|exact absurd h1 ‹¬p.Ok›),D.nl⟩}
 iterate 3 refine oq ?_
 refine zs2 ?_
 iterate 3 refine oq ?_
 refine(On)<|jk<|Oj ?_
 exact⟨Zi (by rintro⟨h1,h2,h3⟩;first|omega|exact absurd h1 ‹¬p.Ok›),D.nl⟩
end Go.Proofs.YtpnamgfdakfccaaGreat
namespace Go.Proofs.YtpnamgfdakfccaaGreat
open Go Go.RowKit Go.Proofs.Gw
theorem II:ZN Om 39=some (.agg #[Oh,Oh,.int Oi 0,.int Oi 0,.int Oi 0],5,72):=Oc
theorem ZoE{vL vD:Value}{p:cO}{b:Int}{vA:Value}{n:Int}{x:Of}(w0:World)(h:oO w0 vL vD p)(U:p.Ok)(hb:0<=b/\b<=1000)(hA:Row w0 vA 1 n (ints x))(ad:n=p.m)(hx:∀k,0<=k->k<p.m->0<=x k/\x k<=p.D k):
   Calls Om 72 [.agg #[vL,vD,.int Oi p.bP,.int Oi p.aV,.int Oi b],vA].toArray w0 fun e w=>∃v,e= .returned v/\∃r1 r2,v= .agg #[r1,r2,.int Oi p.bP,.int Oi p.aV,.int Oi (b-1)]/\iK r1 p.m/\iK r2 p.d/\Sat w0 w [.own r1 1 3 p.m (ints p.L),.own r2 1 3 p.d (ints fun k=>p.D k-x k)]:=by
 subst ad
 obtain⟨hm,ai,hd,hd1,hs,hk⟩:=h.Oq
 have ag:=U.m1;have qM:=U.m2;have ah:=U.d;have af:=U.s1;have ae:=U.s2;have ak:=U.k1;have aj:=U.k2
 refine iE Tryz.func72 Tryz.ntmps72 fun w D=> ?_
 refine fQ<|iG (nS (cs:= [_,_,_,_,_]) D) ?_;rintro _ w ⟨g1,rfl,D⟩
 refine iG (oh (cs:= [_,_,_,_,_]) II D) ?_;rintro _ w ⟨g2,rfl,D⟩
 refine iT<|(zV (h_ 0 pU))<|(zV (C_ 0 (ds:= [vL,vD,.int Oi p.bP,.int Oi p.aV]) iM D))<|iG (oh (cs:= [_,_,_,_]) OV D) ?_;rintro _ w ⟨g3,rfl,D⟩
 refine lJ (nD 2 iM D (hd:=(Za h.L.fP.one (Za h.D.fP.one (Za rfl (Za rfl Zj)))))) ?_;clear D;rintro w D
 refine nG<|lg [0,1,2] [0,1,2] 1000 nP D ?_;clear D;intro w D
 refine(b_ 0 (h_ 0 lu))<|(iQ 1 (fun w D=>(g_ 2 dV D)))<|(b_ 2 (iW Zb h.L.fP))<|(b_ 4 (h_ 1 jF))<|(iQ 5 (fun w D=>(g_ 2 dV D)))<|(b_ 6 (iW Zb h.D.fP))<|Xw (r:= [3,7]) ((ZY ?_ (ZY ?_ Xv)))
 {
 refine tC (uF Zb Zq D) ?_;rintro Y w ⟨D,I⟩
 refine⟨⟨fun _=>D.pk [0,1,2],D.pk [0,1,2]⟩,?_⟩
 refine(b_ 8 nU)<|oZ 7 (uF Zb Zq D) ?_;rintro W w ⟨D,F⟩
 refine⟨⟨fun _=>D.pk [0,1,2],D.pk [0,1,2]⟩,?_⟩
 refine(b_ 9 nU)<|lS<|iP<|fQ ?_
 refine(zP)<|(zV (h_ 0 lu))<|(zV (g_ 2 dV D))<|DZ rfl rfl rfl (Uv 3 rfl Zb rfl rfl D rfl (h.L.below D.below) (fun _ _ _=>rfl)) ?_;rintro _ w ⟨rfl,D⟩
 refine iT<|(zP)<|(zV (h_ 1 jF))<|(zV (g_ 2 dV D))<|DZ rfl rfl rfl (Uv 4 rfl Zb rfl rfl D rfl (h.D.below D.below) (fun _ _ _=>rfl)) ?_;rintro _ w ⟨rfl,D⟩
 refine l9<|(zP)<|(zV (iW Zb hA.fP))<|(zP)<|nI<|ny (fun mm M w=>∃(N:Of) (i:Int),mm=((p.m-i).toNat)/\(0<=i)/\(i<=p.m)/\(∀k,0<=k->k<p.m->N k=if k<i then p.D k-x k else p.D k)/\M= [(2,Or g1),(4,Or g2),(5,Or g3),(6,Y),(7,W),(28,vA),(29,.int Oi p.m),(30,.int Oi i)]/\Sat w0 w [.blk g1 [vL,vD,.int Oi p.bP,.int Oi p.aV,.int Oi b],.blk g2 [Oh,Oh,.int Oi 0,.int Oi 0,.int Oi 0],.blk g3 [vL,vD,.int Oi p.bP,.int Oi p.aV],.own Y 1 3 p.m (ints p.L),.own W 1 3 p.d (ints N)]) ⟨p.D,0,rfl,Oa,Oa,?_,rfl,D⟩ ?_
 {
 intro k O Z;rw [if_neg Oa]}
 clear D w
 rintro mm M w ⟨N,i,rfl,h0,h1,J,rfl,D⟩
 refine fQ<|(zP)<|nG<|Zf ?_ ?_<;>intro hc
 {
 refine oC<|(zP)<|(zV (iy (kk:=i) Zb hA.fP))<|iI (iR (u:= .int Oi (x i)) dw (hA.below D.below)) ?_
 have ac:=hx i h0 Oa;have ab:=U.all i h0 Oa;unfold cO.each at ab;have aa:=J i h0 Oa;rw [if_neg Oa] at aa
 refine(On)<|ig<|lG<|(On)<|(zV (iy (kk:=i) Zb F))<|(zV (iR (u:= .int Oi (N i)) dw (D.f_ 4 rfl)))<|(zP)<|(zV (Zr (r:=N i-(x i))))<|(zV (iy (kk:=i) Zb F))<|lJ (rV 4 dw D (ZA _ _ _)) ?_;clear D;rintro w D
 refine nT<|(zV (Zg (r:=i+1)))<|(zP)<|iq<|jm ⟨(upd N i (N i-(x i))),i+1,rfl,Oa,Oa,?_,rfl,D⟩
 {
 intro k O Z;unfold upd;by_cases e:k=i
 · rw [if_pos e,if_pos Oa,e];omega
 · rw [if_neg e,J k O Z];by_cases e2:k<i
   · rw [if_pos e2,if_pos Oa]
   · rw [if_neg e2,if_neg Oa]}}
 refine oM<|(On)<|(zV (h_ 0 lu))<|lJ (xsb 2 dV D (hv:=I.one)) ?_;clear D;rintro w D
 refine(zV (h_ 1 jF))<|lJ (xsb 2 dV D (hv:=F.one)) ?_;clear D;rintro w D
 refine iT<|(zV (lH 2 iM D))<|(zV (h_ 4 sU))<|(zV (g_ 0 dw D))<|(zV (Zr (r:=b-1)))<|iI (lF (v:= .agg #[Y,W,.int Oi p.bP,.int Oi p.aV,.int Oi (b-1)]) (hr:=by obtain⟨_,_,_,_,rfl,_⟩:=I;obtain⟨_,_,_,_,rfl,_⟩:=F;kernel_rfl)) ?_
 refine lJ (nD 1 Xz D (hd:=(Za I.one (Za F.one (Za rfl (Za rfl (Za rfl Zj))))))) ?_;clear D;rintro w D
 refine jk<|Jl 1 Xz D ⟨_,rfl,?_⟩
 replace D:=D.nJ 4 rfl (d:=ints fun k=>p.D k-x k) (fun k O Z=>by unfold ints;rw [J k O Oa,if_pos Oa])
 exact⟨_,_,rfl,I,F,D.pk [3,4]⟩}
 refine tC (uF Zb Zq D) ?_;rintro Y w ⟨D,I⟩
 refine⟨⟨fun _=>D.pk [0,1,2],D.pk [0,1,2]⟩,?_⟩
 refine oZ 3 (uF Zb Zq D) ?_;rintro W w ⟨D,F⟩
 refine⟨⟨fun _=>D.pk [0,1,2],D.pk [0,1,2]⟩,?_⟩
 refine(b_ 8 nU)<|(b_ 9 nU)<|lS<|iP<|fQ ?_
 refine(zP)<|(zV (h_ 0 lu))<|(zV (g_ 2 dV D))<|DZ rfl rfl rfl (Uv 4 rfl Zb rfl rfl D rfl (h.L.below D.below) (fun _ _ _=>rfl)) ?_;rintro _ w ⟨rfl,D⟩
 refine iT<|(zP)<|(zV (h_ 1 jF))<|(zV (g_ 2 dV D))<|DZ rfl rfl rfl (Uv 3 rfl Zb rfl rfl D rfl (h.D.below D.below) (fun _ _ _=>rfl)) ?_;rintro _ w ⟨rfl,D⟩
 refine l9<|(zP)<|(zV (iW Zb hA.fP))<|(zP)<|nI<|ny (fun mm M w=>∃(N:Of) (i:Int),mm=((p.m-i).toNat)/\(0<=i)/\(i<=p.m)/\(∀k,0<=k->k<p.m->N k=if k<i then p.D k-x k else p.D k)/\M= [(2,Or g1),(4,Or g2),(5,Or g3),(6,W),(7,Y),(28,vA),(29,.int Oi p.m),(30,.int Oi i)]/\Sat w0 w [.blk g1 [vL,vD,.int Oi p.bP,.int Oi p.aV,.int Oi b],.blk g2 [Oh,Oh,.int Oi 0,.int Oi 0,.int Oi 0],.blk g3 [vL,vD,.int Oi p.bP,.int Oi p.aV],.own Y 1 3 p.d (ints N),.own W 1 3 p.m (ints p.L)]) ⟨p.D,0,rfl,Oa,Oa,?_,rfl,D⟩ ?_
 {
 intro k O Z;rw [if_neg Oa]}
 clear D w
 rintro mm M w ⟨N,i,rfl,h0,h1,J,rfl,D⟩
 refine fQ<|(zP)<|nG<|Zf ?_ ?_<;>intro hc
 {
 refine oC<|(zP)<|(zV (iy (kk:=i) Zb hA.fP))<|iI (iR (u:= .int Oi (x i)) dw (hA.below D.below)) ?_
 have ac:=hx i h0 Oa;have ab:=U.all i h0 Oa;unfold cO.each at ab;have aa:=J i h0 Oa;rw [if_neg Oa] at aa
 refine(On)<|ig<|lG<|(On)<|(zV (iy (kk:=i) Zb I))<|(zV (iR (u:= .int Oi (N i)) dw (D.f_ 3 rfl)))<|(zP)<|(zV (Zr (r:=N i-(x i))))<|(zV (iy (kk:=i) Zb I))<|lJ (rV 3 dw D (ZA _ _ _)) ?_;clear D;rintro w D
 refine nT<|(zV (Zg (r:=i+1)))<|(zP)<|iq<|jm ⟨(upd N i (N i-(x i))),i+1,rfl,Oa,Oa,?_,rfl,D⟩
 {
 intro k O Z;unfold upd;by_cases e:k=i
 · rw [if_pos e,if_pos Oa,e];omega
 {
 rw [if_neg e,J k O Z];by_cases e2:k<i
 · rw [if_pos e2,if_pos Oa]
 · rw [if_neg e2,if_neg Oa]}}}
 refine oM<|(On)<|(zV (h_ 0 lu))<|lJ (xsb 2 dV D (hv:=F.one)) ?_;clear D;rintro w D
 refine(zV (h_ 1 jF))<|lJ (xsb 2 dV D (hv:=I.one)) ?_;clear D;rintro w D
 refine iT<|(zV (lH 2 iM D))<|(zV (h_ 4 sU))<|(zV (g_ 0 dw D))<|(zV (Zr (r:=b-1)))<|iI (lF (v:= .agg #[W,Y,.int Oi p.bP,.int Oi p.aV,.int Oi (b-1)]) (hr:=by obtain⟨_,_,_,_,rfl,_⟩:=F;obtain⟨_,_,_,_,rfl,_⟩:=I;kernel_rfl)) ?_
 refine lJ (nD 1 Xz D (hd:=(Za F.one (Za I.one (Za rfl (Za rfl (Za rfl Zj))))))) ?_;clear D;rintro w D
 refine jk<|Jl 1 Xz D ⟨_,rfl,?_⟩
 replace D:=D.nJ 3 rfl (d:=ints fun k=>p.D k-x k) (fun k O Z=>by unfold ints;rw [J k O Oa,if_pos Oa])
 exact⟨_,_,rfl,F,I,D.pk [4,3]⟩
theorem Zqd:Zc Om 71=true:=Oc
theorem Zqc:Zc Om 72=true:=Oc
theorem VO:Zy Om 143=some (39,5):=Oc
theorem ZkP{vL vD:Value}{p:cO}{b:Int}{wi:Int}(w0:World)(h:oO w0 vL vD p):
   Calls Om 30 [.agg #[vL,vD,.int Oi p.bP,.int Oi p.aV,.int Oi b],.int Oi wi].toArray w0 fun e w=>∃v,e= .returned v/\∃r vv,v= .tuple #[r,B (ZS p b wi)]/\iK r (Zn p b wi)/\Sat w0 w [.own r 5 39 (Zn p b wi) (ZT vv p.bP p.aV (b-1)),.sem (Frame.rows 3 (2*Zn p b wi) vv (fun _=>p.m) (wJ p (MX p wi)))]:=by
 obtain⟨hm,an,hd,hd1,hs,hk⟩:=h.Oq
 refine iE Tryz.func30 Tryz.ntmps30 fun w D=> ?_
 refine fQ<|iG (nS (cs:= [_,_,_,_,_]) D) ?_;rintro _ w ⟨F,rfl,D⟩
 refine(On)<|l9<|(zV (lH 0 Xz D))<|iJ (xc0 OG) (PU (p:=p) (b:=b) w (h.below D.below)) ?_;rintro _ w ⟨rfl,N⟩
 replace D:=D.cmp N;clear N
 refine(On)<|lX 14 ?_ ?_<;>intro hc;rotate_left
 refine(zV (h_ 4 sU))<|iI (g_ 0 dw D) ?_
 have aa:YB p b:=by first|assumption|exact Od ‹_›
 have U:=aa.1;have ag:=aa.2
 have am:=U.m1;have qM:=U.m2;have af:=U.d;have ak:=U.s1;have aj:=U.s2;have ap:=U.k1;have ao:=U.k2
 refine(Oo)<|lX 19 ?_ ?_<;>intro hc;rotate_left
 refine qE ?_
 refine lX 23 ?_ ?_<;>intro hc;rotate_left
 refine(zP)<|(zV (h_ 0 pU))<|(zV (h_ 0 lu))<|(zV (g_ 0 dV D))<|(zV (iW Zb h.L.fP))<|(Oo)<|lX 31 ?_ ?_<;>intro hc;rotate_left
 refine(zV (h_ 0 pU))<|(zV (h_ 1 jF))<|(zV (g_ 0 dV D))<|(zP)<|(zV (iy (kk:=wi) Zb h.D.fP))<|iI (iR (u:= .int Oi (p.D wi)) dw (h.D.below D.below)) ?_
 have aq:=h.iD wi
 refine(On)<|ig<|Zf ?_ ?_<;>intro hc
 {
 refine fQ<|(On)<|j_<|rD ⟨_,rfl,?_⟩
 have J:¬ZS p b wi:=by
   rintro⟨⟨Y,q2,q3⟩,q4,⟨q5,q6⟩,q7,q8⟩
   first|omega|exact absurd (show YB p b from⟨Y,q2,q3⟩) ‹¬YB p b›|(rcases zB with⟨F,_⟩|⟨_,F,_⟩|⟨_,_,F,_⟩|⟨_,_,_,F,_⟩;exact absurd Y F;exact absurd ⟨q5,q6⟩ F;omega;omega)
 rw [Vu J]
 exact⟨_,(fun _=>Oh),by rw [ZB J],d_,((D.sub (.cons _ .slnil)).fU 5 39 (ZT (fun _=>Oh) p.bP p.aV (b-1))).iF 3 (fun _=>Oh) (fun _=>p.m) (wJ p (MX p wi))⟩}
 refine ZX<|(zV (h_ 0 pU))<|(zV (C_ 0 (ds:= [vL,vD,.int Oi p.bP,.int Oi p.aV]) iM D))<|(zP)<|iJ (xc0 Zqd) (ZkS (p:=p) (wi:=wi) w (h.below D.below)) ?_;rintro _ w ⟨xD,I,xn,W,ar,rfl,zB,qZ,N⟩
 replace D:=(D.comp N).n3;clear N
 have yc:∀k,0<=k->k<I->iK (xn k) p.m:=fun k k0 Z=>D.iw 2 rfl k0 Z
 refine uK ?_
 refine l9<|(On)<|ig<|Zf ?_ ?_<;>intro hc
 {
 refine fQ<|(On)<|j_<|rD ⟨_,rfl,?_⟩
 have J:¬ZS p b wi:=by
   rintro⟨⟨Y,q2,q3⟩,q4,⟨q5,q6⟩,q7,q8⟩
   first|omega|exact absurd (show YB p b from⟨Y,q2,q3⟩) ‹¬YB p b›|(rcases zB with⟨F,_⟩|⟨_,F,_⟩|⟨_,_,F,_⟩|⟨_,_,_,F,_⟩;exact absurd Y F;exact absurd ⟨q5,q6⟩ F;omega;omega)
 rw [Vu J]
 exact⟨_,(fun _=>Oh),by rw [ZB J],d_,((D.sub (.cons _ (.cons _ (.cons _ .slnil)))).fU 5 39 (ZT (fun _=>Oh) p.bP p.aV (b-1))).iF 3 (fun _=>Oh) (fun _=>p.m) (wJ p (MX p wi))⟩}
 refine ZX<|(zP)<|l9<|(zP)<|(zV (iW Zk qZ))<|iI gu ?_
 have O:Ls p.m I W (MX p wi)/\(MX p wi).length<=300:=by rcases zB with⟨_,F,_⟩|⟨_,_,F,_⟩|⟨_,_,_,F,_⟩|⟨_,_,g2,_,F⟩;omega;omega;omega;exact⟨F,g2⟩
 have jz:=O.2
 replace O:=O.1
 have ad:=qZ.n0;have ae:=O.1
 refine nI ?_
 replace D:=(D.fU 5 39 (ZT (fun _=>Oh) p.bP p.aV (b-1))).iF 3 (fun _=>Oh) (fun _=>p.m) (wJ p (MX p wi))
 replace D:=D.Aj 4 rfl (show(0:Int)=2*0 from rfl)
 refine ny (fun mm M w=>∃(i:Int) (vv:Ov) (wG:Value),mm=((I-i).toNat)/\(0<=i)/\(i<=I)/\(iK wG i)/\M= [(2,Or F),(4,Oh),(5,.bool false),(8,wG),(49,xD),(50,.int Oi I),(51,.int Oi i)]/\Sat w0 w [.blk F [vL,vD,.int Oi p.bP,.int Oi p.aV,.int Oi b],.own xD 1 22 I xn,.sem (Frame.rows 3 I xn (fun _=>p.m) W),.own wG 5 39 i (ZT vv p.bP p.aV (b-1)),.sem (Frame.rows 3 (2*i) vv (fun _=>p.m) (wJ p (MX p wi)))]) ⟨0,(fun _=>Oh),Oh,rfl,Oa,Oa,?_,rfl,D⟩ ?_
 {
 exact d_}
 clear D w
 rintro mm M w ⟨i,vv,wG,rfl,h0,h1,ab,rfl,D⟩
 have al:∀k,0<=k->k<2*i->iK (vv k) p.m:=fun k k0 Z=>D.iw 4 rfl k0 Z
 refine fQ<|(zP)<|nG<|Zf ?_ ?_<;>intro hc
 {
 refine oC<|(zV (iy (kk:=i) Zk qZ))<|(zV (iR (u:=(xn i)) dV (D.f_ 1 rfl)))<|(zP)<|ig<|lG<|(zP)<|(zV (lH 0 Xz D))<|(zP)<|iJ (xc0 Zqc) (ZoE (p:=p) (b:=b) (x:=(W i)) w (h.below D.below) U ag (show Row _ _ 1 p.m _ from(D.lI (k:=i) 2 rfl Oa Oa)) rfl (ZgV U O h0 Oa)) ?_;rintro _ w ⟨aJ,aK,rfl,co,cq,N⟩
 replace D:=(D.comp N).n7;clear N
 refine iG (pO (n:=1) (len:=1) (pv:= [(0,.agg #[aJ,aK,.int Oi p.bP,.int Oi p.aV,.int Oi (b-1)])]) (cs:= [aJ,aK,.int Oi p.bP,.int Oi p.aV,.int Oi (b-1)]) (c:=ZT (Gh aJ aK) p.bP p.aV (b-1)) VO II D (hf:=by obtain⟨_,_,_,_,rfl,_⟩:=co;obtain⟨_,_,_,_,rfl,_⟩:=cq;kernel_rfl)) ?_;rintro v1 w ⟨D,ai⟩
 refine iG (pz 3 (r:=i+1) VO II D (D.f_ 7 rfl) (ZdY _ _ _ _ _ _ _) (h1:=fun k _ _=>ZdF (ZjO co.one cq.one) k)) ?_;rintro v2 w ⟨D,ac⟩
 replace D:=Sat.merge (l1:= [_,_,_,_]) (l2:= []) (l3:= [_,_]) D Oa
 replace D:=D.Aj 4 rfl (show _=2*i+1 by omega)
 have q9:=fun k (k0:0<=k) (Z:k<2*i+1)=>D.iw 4 rfl k0 Z
 replace D:=Sat.merge (l1:= [_,_,_,_]) (l2:= []) (l3:= [_]) D Oa
 replace D:=D.Aj 4 rfl (show _=2*i+2 by omega)
 have xV:=fun k (k0:0<=k) (Z:k<2*i+2)=>D.iw 4 rfl k0 Z
 replace D:=D.oP (xk:=(lD (lD vv (2*i) aJ) (2*i+1) aK)) (vT:=fun _=>p.m) (f':=(wJ p (MX p wi))) 4 rfl (ZfK af h0 (O.2 i h0 Oa) _)
 replace D:=D.Aj 4 rfl (show 2*i+2=2*(i+1) by omega)
 refine(zP)<|nT<|(zV (Zg (r:=i+1)))<|iI gu ?_
 have O:Ls p.m I W (MX p wi)/\(MX p wi).length<=300:=by rcases zB with⟨_,F,_⟩|⟨_,_,F,_⟩|⟨_,_,_,F,_⟩|⟨_,_,g2,_,F⟩;omega;omega;omega;exact⟨F,g2⟩
 have jz:=O.2
 replace O:=O.1
 have ad:=qZ.n0;have ae:=O.1
 refine iq<|jm ⟨i+1,(lD (lD vv (2*i) aJ) (2*i+1) aK),v2,rfl,Oa,Oa,?_,rfl,D.pk [0,1,2,3,4]⟩
 {
 exact ac}}
 refine oM<|(Oo)<|jk<|rD ⟨_,rfl,?_⟩
 have ah:i=((MX p wi).length:Int):=by have:=O.1;omega
 have eT:ZS p b wi:=⟨aa,Oa,Oa,Oa,by have:=O.1;omega⟩
 rw [YT eT]
 subst ah
 exact⟨_,_,by rw [ZV eT],ab,D.pk [3,4]⟩
 all_goals
  refine pR ?_
  refine ig<|rW<|fQ ?_
  refine pR ?_
  refine j_<|rD ⟨_,rfl,?_⟩
  have J:¬ZS p b wi:=by
    rintro⟨⟨Y,q2,q3⟩,q4,⟨q5,q6⟩,q7,q8⟩
    first|omega|exact absurd (show YB p b from⟨Y,q2,q3⟩) ‹¬YB p b›|(rcases zB with⟨F,_⟩|⟨_,F,_⟩|⟨_,_,F,_⟩|⟨_,_,_,F,_⟩;exact absurd Y F;exact absurd ⟨q5,q6⟩ F;omega;omega)
  rw [Vu J]
  exact⟨_,(fun _=>Oh),by rw [ZB J],d_,((D.sub (.cons _ .slnil)).fU 5 39 (ZT (fun _=>Oh) p.bP p.aV (b-1))).iF 3 (fun _=>Oh) (fun _=>p.m) (wJ p (MX p wi))⟩
end Go.Proofs.YtpnamgfdakfccaaGreat
namespace Go.Proofs.Gw
open Go Go.RowKit
variable {i:Int} {w:World}
inductive Tr where
  |nil
  |mk (s:Int) (vK:Value) (n:Int) (kid:Int->Tr) (vL:Value) (nl:Int) (l:Of)
def Tr.s:Tr->Int| .nil=>0| .mk s _ _ _ _ _ _=>s
def Tr.vK:Tr->Value| .nil=> Oh| .mk _ v _ _ _ _ _=>v
def Tr.n:Tr->Int| .nil=>0| .mk _ _ n _ _ _ _=>n
def Tr.kid:Tr->Int->Tr| .nil=>fun _=> .nil| .mk _ _ _ k _ _ _=>k
def Tr.vL:Tr->Value| .nil=> Oh| .mk _ _ _ _ v _ _=>v
def Tr.nl:Tr->Int| .nil=>0| .mk _ _ _ _ _ n _=>n
def Tr.l:Tr->Int->Int| .nil=>fun _=>0| .mk _ _ _ _ _ _ l=>l
theorem Tr.ind{P:Tr->Prop}(h:∀t,(∀i,0<=i->i<t.n->P (t.kid i))->P t):∀t,P t
 | .nil=>h .nil fun i I F=>by have D:i<0:=F;omega
 | .mk s vK n kid vL nl l=>h (.mk s vK n kid vL nl l) fun i _ _=>Tr.ind h (kid i)
def X9(S:Of)(K L:Ov):Ov:=fun j=>if j%3=0 then .int Oi (S (j/3)) else if j%3=1 then K (j/3) else L (j/3)
abbrev YU(kid:Int->Tr):Ov:=X9 (fun i=>(kid i).s) (fun i=>(kid i).vK) (fun i=>(kid i).vL)
theorem Zfh(S:Of)(K L:Ov){q:Int}(h:q=3*i):∀(j:Nat) u, [Value.int Oi (S i),K i,L i][j]? =some u->X9 S K L (q+j)=u:=fun j u D=>by
 rcases j with _|_|_|j
 · cases D;unfold X9;rw [if_pos Oa];congr 2;omega
 · cases D;unfold X9;rw [if_neg Oa,if_pos Oa];congr 1;omega
 · cases D;unfold X9;rw [if_neg Oa,if_neg Oa];congr 1;omega
 · simp at D
theorem UX(kid:Int->Tr){q:Int}(h:q=3*i):∀(j:Nat) u, [Value.int Oi (kid i).s,(kid i).vK,(kid i).vL][j]? =some u->YU kid (q+j)=u:=Zfh (fun i=>(kid i).s) (fun i=>(kid i).vK) (fun i=>(kid i).vL) h
theorem Zdq{S:Of}{K L:Ov}(D:∀i,(K i).oneCell'=true)(h:∀i,(L i).oneCell'=true)(j:Int):(X9 S K L j).oneCell'=true:=by
 unfold X9
 split
 · rfl
 {
 split
 · exact D _
 · exact h _}
theorem ZdX(kid:Int->Tr)(n:Int)(t:Tr):cat (n*3) (YU kid) (X9 (fun _=>t.s) (fun _=>t.vK) (fun _=>t.vL))=YU (lD kid n t):=by
 funext j
 unfold cat YU X9 lD
 by_cases h:j<n*3
 {
 have h1:j/3<n:=Oa
 simp only [if_pos h,if_pos h1]}
 {
 have h1:¬j/3<n:=Oa
 have e:(j-n*3)%3=j%3:=Oa
 simp only [if_neg h,if_neg h1,e]}
def uJ(w:World):Tr->Prop
  | .nil=>True
  | .mk s vK n kid vL nl l=>(Row w vK 3 n (YU kid)/\56*n<=140737488351232)/\∀i,0<=i->i<n->uJ w (kid i)
def o8(w:World):Tr->Prop
  | .nil=>True
  | .mk s vK n kid vL nl l=>(FY w vL nl l/\UE vL/\(-9223372036854775808<=s/\s<=9223372036854775807))/\∀i,0<=i->i<n->o8 w (kid i)
theorem uJ.row{t:Tr}(h:uJ w t):Row w t.vK 3 t.n (YU t.kid):=by
 cases t with
 |nil=>exact Tz _ _ _
 |mk=>exact h.1.1
theorem uJ.sub{t:Tr}(h:uJ w t)(F:0<=i)(D:i<t.n):uJ w (t.kid i):=by
 cases t with
 |nil=>exact trivial
 |mk=>exact h.2 i F D
theorem o8.leaf{t:Tr}(h:o8 w t):FY w t.vL t.nl t.l:=by
 cases t with
 |nil=>exact⟨Tz _ _ _,fun k=>by show _<=(0:Int)/\(0:Int)<=_;omega⟩
 |mk=>exact h.1.1
theorem o8.sub{t:Tr}(h:o8 w t)(F:0<=i)(D:i<t.n):o8 w (t.kid i):=by
 cases t with
 |nil=>exact trivial
 |mk=>exact h.2 i F D
theorem uJ.below{w w':World}(D:Below w.heap.size w w'):∀{t:Tr},uJ w t->uJ w' t
 | .nil,_=>trivial
 | .mk s vK n kid vL nl l,h=>⟨⟨h.1.1.below D,h.1.2⟩,fun i I F=>uJ.below D (h.2 i I F)⟩
theorem o8.below{w w':World}(D:Below w.heap.size w w'):∀{t:Tr},o8 w t->o8 w' t
 | .nil,_=>trivial
 | .mk s vK n kid vL nl l,h=>⟨⟨h.1.1.below D,h.1.2.1,h.1.2.2⟩,fun i I F=>o8.below D (h.2 i I F)⟩
def UJ(f:Of):Nat->Int
  |0=>1
  |k+1=>IntKind.i64.wrap (UJ f k+f k)
def VW(f:Of):Nat->Int
  |0=>0
  |k+1=>max (VW f k) (f k)
theorem Ki(f:Of)(h:0<=i):UJ f (i+1).toNat=IntKind.i64.wrap (UJ f i.toNat+f i):=by
 rw [show(i+1).toNat=i.toNat+1 by omega]
 simp only [UJ]
 rw [show((i.toNat:Nat):Int)=i by omega]
theorem KE(f:Of)(h:0<=i):VW f (i+1).toNat=max (VW f i.toNat) (f i):=by
 rw [show(i+1).toNat=i.toNat+1 by omega]
 simp only [VW]
 rw [show((i.toNat:Nat):Int)=i by omega]
theorem TY{f g:Of}:∀{k:Nat},(∀i,0<=i->i<(k:Int)->f i=g i)->UJ f k=UJ g k
 |0,_=>rfl
 |k+1,h=>by simp only [UJ];rw [TY (k:=k) fun i a b=>h i a Oa,h k Oa Oa]
theorem Rq{f g:Of}:∀{k:Nat},(∀i,0<=i->i<(k:Int)->f i=g i)->VW f k=VW g k
 |0,_=>rfl
 |k+1,h=>by simp only [VW];rw [Rq (k:=k) fun i a b=>h i a Oa,h k Oa Oa]
def Tr.nodes:Tr->Int| .nil=>1| .mk _ _ n kid _ _ _=>UJ (fun i=>(kid i).nodes) n.toNat
def Tr.depth:Tr->Int| .nil=>IntKind.i64.wrap (0+1)| .mk _ _ n kid _ _ _=>IntKind.i64.wrap (VW (fun i=>(kid i).depth) n.toNat+1)
theorem Tr.Cm(t:Tr):t.nodes=UJ (fun i=>(t.kid i).nodes) t.n.toNat:=by cases t<;>rfl
theorem Tr.CO(t:Tr):t.depth=IntKind.i64.wrap (VW (fun i=>(t.kid i).depth) t.n.toNat+1):=by cases t<;>rfl
theorem Ou{P:Program}{L:List (Nat×Value)}{w:World}{o:Oper}{x y:Operand}{T T':TypeId}{m n:Int}(I:o.op= .binOp .add T x y T':=by exact rfl)(F:iZ L x=some (.int Oi m):=by exact rfl)(D:iZ L y=some (.int Oi n):=by exact rfl):Runs P L w o (.value (.int Oi (IntKind.i64.wrap (m+n)))) w:=fun ρ h=>by
 simp [execOp,I,h _ _ F,h _ _ D,go_sem,Op.intArith]
def ZO(x:Int):Prop:= -1073741824<=x/\x<=1073741824
def FW(t:Tr):Prop:=ZO t.s/\t.n<=100/\t.nl<=40/\(t.n=0\/t.nl=0)/\(t.n=0->t.s=0)/\∀k,0<=k->k<t.nl->ZO (t.l k)
def Tr.ok:Tr->Prop| .nil=>FW .nil| .mk s vK n kid vL nl l=>FW (.mk s vK n kid vL nl l)/\∀i,0<=i->i<n->(kid i).ok
theorem Tr.Ci(t:Tr):t.ok↔FW t/\∀i,0<=i->i<t.n->(t.kid i).ok:=by
 cases t with
 |nil=>exact⟨fun h=>⟨h,fun i I F=>by have D:i<0:=F;omega⟩,fun h=>h.1⟩
 |mk=>rfl
def V1(t:Tr):Prop:=t.ok/\t.nodes<=2000/\t.depth<=40
def Frame.all(n:Int)(F:Int->Frame):Frame where
  holds w:=(∀i,0<=i->i<n->(F i).holds w)/\∀i j,0<=i->i<n->0<=j->j<n->i≠j->∀g,(F i).has g->¬(F j).has g
  has g:=∃i,0<=i/\i<n/\(F i).has g
  keep h hk:=⟨fun i i0 i1=>(F i).keep (h.1 i i0 i1) fun g hg=>hk g ⟨i,i0,i1,hg⟩,h.2⟩
  lt h hg:=by obtain⟨i,i0,i1,hg⟩:=hg;exact(F i).lt (h.1 i i0 i1) hg
def Tr.frame(E:TypeId):Tr->Frame| .nil=>Frame.rG []| .mk s vK n kid vL nl l=>Frame.rG [.own vK 3 E n (YU kid),.sem (Frame.all n fun i=>(kid i).frame E)]
theorem Sat.CQ{w0:World}{l:List iO}(h:Sat w0 w l)(F:Int->Frame):Sat w0 w (l++ [.sem (Frame.all 0 F)]):=by
 refine h.comp (m:= [.sem (Frame.all 0 F)]) ⟨Below.refl _ _,?_,?_,List.pairwise_singleton _ _⟩
 · intro e D;obtain rfl:=List.mem_singleton.1 D;exact⟨fun i J I=>Oa,fun i j J I=>Oa⟩
 · intro e D g N;obtain rfl:=List.mem_singleton.1 D;obtain⟨i,J,I,_⟩:=N;omega
theorem Sat.DI{w0:World}{l1 l2 l3:List iO}{n:Int}{F:Int->Frame}{G:Frame}(h:Sat w0 w (l1++ .sem (Frame.all n F)::(l2++ .sem G::l3)))(hn:0<=n){H:Int->Frame}(hH:∀i,0<=i->i<n->H i=F i)(hG:H n=G):Sat w0 w (l1++ .sem (Frame.all (n+1) H)::(l2++l3)):=by
 have hs:=List.pairwise_append.1 h.sep
 have Y:=List.pairwise_cons.1 hs.2.1
 have W:=List.pairwise_append.1 Y.2
 have ab:=List.pairwise_cons.1 W.2.1
 have hF:=h.holds (.sem (Frame.all n F)) (by simp)
 have hg:=h.holds (.sem G) (by simp)
 have ac:∀k,(∃i,0<=i/\i<n/\(F i).has k)->¬G.has k:=fun k U N=>Y.1 (.sem G) (by simp) k U N
 have aa:∀i,0<=i->i<n+1->H i=F i/\i<n\/H i=G/\i=n:=fun i O i1=>by
   by_cases e:i<n
   · exact .inl ⟨hH i O e,e⟩
   · obtain rfl:i=n:=Oa
     exact .inr ⟨hG,rfl⟩
 have dL:∀k,(Frame.all (n+1) H).has k->(Frame.all n F).has k\/G.has k:=fun k ⟨i,O,i1,U⟩=>by
   rcases aa i O i1 with⟨e,e1⟩|⟨e,e1⟩
   · rw [e] at U;exact .inl ⟨i,O,e1,U⟩
   · rw [e] at U;exact .inr U
 refine⟨h.below,fun e D=> ?_,fun e D g I=> ?_,List.pairwise_append.2 ⟨hs.1,List.pairwise_cons.2 ⟨fun e D g I J=> ?_,List.pairwise_append.2 ⟨W.1,ab.2,fun d hd e D=>W.2.2 d hd e (by simp [D])⟩⟩,fun d hd e D=> ?_⟩⟩
 {
 rcases List.mem_append.1 D with D|D
 · exact h.holds e (by simp [D])
 {
 rcases List.mem_cons.1 D with rfl|D
 {
 refine⟨fun i O i1=> ?_,fun i j O i1 j0 j1 ad k U N=> ?_⟩
 · rcases aa i O i1 with⟨e,e1⟩|⟨e,e1⟩
   · rw [e];exact hF.1 i O e1
   · rw [e];exact hg
 {
 rcases aa i O i1 with⟨e,e1⟩|⟨e,e1⟩<;>rcases aa j j0 j1 with⟨d,d1⟩|⟨d,d1⟩<;>rw [e] at U<;>rw [d] at N
 · exact hF.2 i j O e1 j0 d1 ad k U N
 · exact ac k ⟨i,O,e1,U⟩ N
 · exact ac k ⟨j,j0,d1,N⟩ U
 · omega}}
 · rcases List.mem_append.1 D with D|D
   · exact h.holds e (by simp [D])
   · exact h.holds e (by simp [D])}}
 {
 rcases List.mem_append.1 D with D|D
 · exact h.new e (by simp [D]) g I
 {
 rcases List.mem_cons.1 D with rfl|D
 · rcases dL g I with I|I
   · exact h.new (.sem (Frame.all n F)) (by simp) g I
   · exact h.new (.sem G) (by simp) g I
 · rcases List.mem_append.1 D with D|D
   · exact h.new e (by simp [D]) g I
   · exact h.new e (by simp [D]) g I}}
 {
 rcases dL g I with I|I
 {
 rcases List.mem_append.1 D with D|D
 · exact Y.1 e (by simp [D]) g I J
 · exact Y.1 e (by simp [D]) g I J}
 {
 rcases List.mem_append.1 D with D|D
 · exact W.2.2 e D (.sem G) (by simp) g J I
 · exact ab.1 e D g I J}}
 {
 intro g Z J
 rcases List.mem_cons.1 D with rfl|D
 {
 rcases dL g J with J|J
 · exact hs.2.2 d hd (.sem (Frame.all n F)) (by simp) g Z J
 · exact hs.2.2 d hd (.sem G) (by simp) g Z J}
 {
 rcases List.mem_append.1 D with D|D
 · exact hs.2.2 d hd e (by simp [D]) g Z J
 · exact hs.2.2 d hd e (by simp [D]) g Z J}}
end Go.Proofs.Gw
namespace Go.Proofs.YtpnamgfdakfccaaGreat
open Go Go.RowKit Go.Proofs.Gw
theorem Pg:Zc Om 140=true:=Oc
theorem Zip:Zc Om 141=true:=Oc
theorem VI:ZN Om 32=some (.agg #[.int Oi 0,Oh,Oh],3,56):=Oc
theorem rO:Zw Om 32 1=some 1:=Oc
theorem Ug:ZF Om 30=true:=Oc
theorem WU:Zy Om 30=some (32,3):=Oc
theorem lT:ZC Om 32=some 3:=Oc
theorem ZkV:∀(t:Tr) (w0:World) (D:uJ w0 t) (J:o8 w0 t),
   Calls Om 140 [.agg #[.int Oi t.s,t.vK,t.vL]].toArray w0 fun e w=>∃v,e= .returned v/\v= .int Oi t.nodes/\Sat w0 w []:=by
 refine Tr.ind fun t O=> ?_
 intro w0 D J
 have hn:=D.row.fP.n0;have U:=D.row.fP.n1
 refine iE Tryz.func140 Tryz.ntmps140 fun w h=> ?_
 refine fQ<|iG (nS (cs:= [_,_,_]) h) ?_;rintro _ w ⟨Y,rfl,h⟩
 refine(zP)<|iT<|(zP)<|l9<|(zV (h_ 1 rO))<|(zV (g_ 0 Ug h))<|(zV (iW WU (D).row.fP))<|(zP)<|nI<|ny (fun N M w=>∃(s:Int) (i:Int),N=((t.n-i).toNat)/\(0<=i)/\(i<=t.n)/\(s=UJ (fun i=>(t.kid i).nodes) i.toNat)/\M= [(2,.int Oi 0),(3,.int Oi s),(7,t.vK),(8,.int Oi t.n),(9,.int Oi i)]/\Sat w0 w [.blk Y [.int Oi t.s,t.vK,t.vL]]) ⟨1,0,rfl,Oa,Oa,?_,rfl,h⟩ ?_
 {
 rfl}
 clear h w
 rintro N M w ⟨s,i,rfl,W,h1,F,rfl,h⟩
 refine fQ<|(zP)<|nG<|Zf ?_ ?_<;>intro hc
 {
 refine oC<|(zV (iy (kk:=3*i) WU (D).row.fP))<|(zV (uT (cs:= [.int Oi ((t.kid i).s),(t.kid i).vK,(t.kid i).vL]) lT ((D).row.below h.below) (UX (q:=3*i) (i:=i) _ Oa)))<|iG (oh (cs:= [_,_,_]) VI h) ?_;rintro _ w ⟨Z,rfl,h⟩
 refine lJ (nD 1 lT h (hd:=(Za rfl (Za ((D).sub (i:=i) Oa Oa).row.fP.one (Za ((J).sub (i:=i) Oa Oa).leaf.row.fP.one Zj))))) ?_;clear h;rintro w h
 refine ig<|lG<|(zP)<|(zV (lH 1 lT h))<|iJ (xc0 Pg) (O i Oa Oa w (uJ.below h.below ((D).sub (i:=i) Oa Oa)) (o8.below h.below ((J).sub (i:=i) Oa Oa))) ?_;rintro _ w ⟨rfl,I⟩
 replace h:=h.cmp I;clear I
 refine(zV Ou)<|(zP)<|nT<|(zV (Zg (r:=i+1)))<|(zP)<|iq<|jm ⟨(IntKind.i64.wrap (s+((t.kid i).nodes))),i+1,rfl,Oa,Oa,?_,rfl,h.pk [0]⟩
 {
 rw [Ki _ W,<-F]}}
 refine oM<|(On)<|jk<|Oj ?_
 obtain rfl:i=t.n:=Oa
 exact⟨by rw [t.Cm,<-F],h.nl⟩
theorem Zk8:∀(t:Tr) (w0:World) (D:uJ w0 t) (J:o8 w0 t),
   Calls Om 141 [.agg #[.int Oi t.s,t.vK,t.vL]].toArray w0 fun e w=>∃v,e= .returned v/\v= .int Oi t.depth/\Sat w0 w []:=by
 refine Tr.ind fun t O=> ?_
 intro w0 D J
 have hn:=D.row.fP.n0;have U:=D.row.fP.n1
 refine iE Tryz.func141 Tryz.ntmps141 fun w h=> ?_
 refine fQ<|iG (nS (cs:= [_,_,_]) h) ?_;rintro _ w ⟨Y,rfl,h⟩
 refine(zP)<|iT<|(zP)<|l9<|(zV (h_ 1 rO))<|(zV (g_ 0 Ug h))<|(zV (iW WU (D).row.fP))<|(zP)<|nI<|ny (fun N M w=>∃(s:Int) (i:Int),N=((t.n-i).toNat)/\(0<=i)/\(i<=t.n)/\(s=VW (fun i=>(t.kid i).depth) i.toNat)/\M= [(2,.int Oi 0),(3,.int Oi s),(7,t.vK),(8,.int Oi t.n),(9,.int Oi i)]/\Sat w0 w [.blk Y [.int Oi t.s,t.vK,t.vL]]) ⟨0,0,rfl,Oa,Oa,?_,rfl,h⟩ ?_
 {
 rfl}
 clear h w
 rintro N M w ⟨s,i,rfl,W,h1,F,rfl,h⟩
 refine fQ<|(zP)<|nG<|Zf ?_ ?_<;>intro hc
 {
 refine oC<|(zV (iy (kk:=3*i) WU (D).row.fP))<|(zV (uT (cs:= [.int Oi ((t.kid i).s),(t.kid i).vK,(t.kid i).vL]) lT ((D).row.below h.below) (UX (q:=3*i) (i:=i) _ Oa)))<|iG (oh (cs:= [_,_,_]) VI h) ?_;rintro _ w ⟨Z,rfl,h⟩
 refine lJ (nD 1 lT h (hd:=(Za rfl (Za ((D).sub (i:=i) Oa Oa).row.fP.one (Za ((J).sub (i:=i) Oa Oa).leaf.row.fP.one Zj))))) ?_;clear h;rintro w h
 refine ig<|lG<|(zP)<|(zV (lH 1 lT h))<|iJ (xc0 Zip) (O i Oa Oa w (uJ.below h.below ((D).sub (i:=i) Oa Oa)) (o8.below h.below ((J).sub (i:=i) Oa Oa))) ?_;rintro _ w ⟨rfl,I⟩
 replace h:=h.cmp I;clear I
 refine(zV (FB (r:=(max s ((t.kid i).depth)))))<|(zP)<|nT<|(zV (Zg (r:=i+1)))<|(zP)<|iq<|jm ⟨(max s ((t.kid i).depth)),i+1,rfl,Oa,Oa,?_,rfl,h.pk [0]⟩
 {
 rw [KE _ W,<-F]}}
 refine oM<|(zP)<|(zV Ou)<|(zP)<|jk<|Oj ?_
 obtain rfl:i=t.n:=Oa
 exact⟨by rw [t.CO,<-F],h.nl⟩
theorem PK:Zc Om 274=true:=Oc
theorem Znx:Zc Om 275=true:=Oc
theorem Bz:Zw Om 32 0=some 0:=Oc
theorem uZ:Zw Om 32 2=some 2:=Oc
theorem Zad{x:Int}(w0:World):
   Calls Om 274 [.int Oi x].toArray w0 fun e w=>∃v,e= .returned v/\v=B (ZO x)/\Sat w0 w []:=by
 refine iE Tryz.func274 Tryz.ntmps274 fun w h=> ?_
 refine fQ<|(zP)<|iT<|(Oo)<|lX 5 ?_ ?_<;>intro hc
 {
 refine qE ?_
 refine jk<|Oj ?_
 exact⟨Zm (by unfold ZO;omega),h⟩}
 refine(zO)<|(zO)<|(On)<|jk<|Oj ?_
 exact⟨Zi (by unfold ZO;omega),h⟩
theorem Zoz{x:Int}(w0:World):
   Calls Om 275 [.int Oi x].toArray w0 fun e w=>∃v,e= .returned v/\v=B (¬ZO x)/\Sat w0 w []:=by
 refine iE Tryz.func275 Tryz.ntmps275 fun w D=> ?_
 refine fQ<|(zP)<|iT<|(zP)<|iJ (xc0 PK) (Zad (x:=x) w) ?_;rintro _ w ⟨rfl,h⟩
 replace D:=D.cmp h;clear h
 refine(On)<|jk<|Oj ?_
 exact⟨rfl,D⟩
theorem ZoF{v:Value}{n:Int}{f:Of}(w0:World)(F:Row w0 v 1 n (ints f)):
   Calls Om 147 [v,.func (.func 275) #[] #[]].toArray w0 fun e w=>∃v,e= .returned v/\∃r:Int,v= .int Oi r/\((r= -1/\∀k,0<=k->k<n->¬(¬ZO (f k)))\/(0<=r/\r<n/\(¬ZO (f r))))/\Sat w0 w []:=by
 have hn:=F.fP.n0;have W:=F.fP.n1
 refine iE Tryz.func147 Tryz.ntmps147 fun w h=> ?_
 refine fQ<|(zP)<|l9<|(zP)<|(zV (iW Zb F.fP))<|(zP)<|nI<|ny (fun U M w=>∃(i:Int),U=((n-i).toNat)/\(0<=i)/\(i<=n)/\(∀k,0<=k->k<i->¬(¬ZO (f k)))/\M= [(0,v),(1,.func (.func 275) #[] #[]),(7,.int Oi n),(8,.int Oi i)]/\Sat w0 w []) ⟨0,rfl,Oa,Oa,?_,rfl,h⟩ ?_
 {
 intro k N h1;omega}
 clear h w
 rintro U M w ⟨i,rfl,N,h1,O,rfl,h⟩
 refine fQ<|(zP)<|nG<|Zf ?_ ?_<;>intro hc
 {
 refine oC<|(On)<|iT<|(Oo)<|(zV (iy (kk:=i) Zb F.fP))<|(zV (iR (u:= .int Oi (f i)) dw (F.below h.below)))<|iJ (xc0 Znx) (Zoz (x:=(f i)) w) ?_;rintro _ w ⟨rfl,D⟩
 replace h:=h.cmp D;clear D
 refine ig<|Zf ?_ ?_<;>intro hc
 {
 refine fQ<|(On)<|sG<|Oj ?_
 exact⟨i,rfl,.inr ⟨by omega,Oa,‹¬ZO (f i)›⟩,h⟩}
 refine rU<|(zV (Zg (r:=i+1)))<|(zP)<|iq<|jm ⟨i+1,rfl,Oa,Oa,?_,rfl,h⟩
 {
 intro k J Y;rcases Int.lt_or_eq_of_le (show k<=i by omega) with I|I;exact O k J I;rw [I];assumption}}
 refine oM<|(zP)<|jk<|Oj ?_
 exact⟨-1,rfl,.inl ⟨rfl,fun k N h1=>O k N Oa⟩,h⟩
theorem ZoV{v:Value}{n:Int}{f:Of}(w0:World)(J:Row w0 v 1 n (ints f)):
   Calls Om 90 [v,.func (.func 275) #[] #[]].toArray w0 fun e w=>∃v,e= .returned v/\v=B (∃k,0<=k/\k<n/\¬ZO (f k))/\Sat w0 w []:=by
 refine iE Tryz.func90 Tryz.ntmps90 fun w F=> ?_
 refine fQ<|(zP)<|iT<|(On)<|iJ (xc0 WP) (ZoF (n:=n) (f:=f) w (J.below F.below)) ?_;rintro _ w ⟨W,rfl,I,D⟩
 replace F:=F.cmp D;clear D
 refine(On)<|jk<|Oj ?_
 exact⟨Zm (by
  rcases I with⟨h1,h2⟩|⟨h1,h2,h3⟩
  · exact⟨fun h=>Oa,fun⟨k,U,O,N⟩=>absurd N (h2 k U O)⟩
  · exact⟨fun _=>⟨_,h1,h2,h3⟩,fun _=>h1⟩),F⟩
theorem Zoy{t:Tr}(w0:World)(hK:uJ w0 t)(W:o8 w0 t):
   Calls Om 219 [.agg #[.int Oi t.s,t.vK,t.vL]].toArray w0 fun e w=>∃v,e= .returned v/\v=B (FW t)/\Sat w0 w []:=by
 have hn:=hK.row.fP.n0;have aa:=hK.row.fP.n1;have hln:=W.leaf.row.fP.n0;have jB:=W.leaf.row.fP.n1
 refine iE Tryz.func219 Tryz.ntmps219 fun w h=> ?_
 refine fQ<|iG (nS (cs:= [_,_,_]) h) ?_;rintro _ w ⟨g1,rfl,h⟩
 refine(zP)<|l9<|(zV (h_ 1 rO))<|(zV (g_ 0 Ug h))<|(zV (iW WU (hK).row.fP))<|(zP)<|ig<|Zf ?_ ?_<;>intro hc
 {
 refine fQ<|(zV (h_ 2 uZ))<|(zV (g_ 0 dV h))<|(zV (iW Zb (W).leaf.row.fP))<|(On)<|lX 11 ?_ ?_<;>intro hc
 {
 refine(zV (h_ 1 rO))<|(zV (g_ 0 Ug h))<|(zV (iW WU (hK).row.fP))<|(Oo)<|lX 17 ?_ ?_<;>intro hc
 {
 refine(zV (h_ 0 Bz))<|(zV (g_ 0 dw h))<|iJ (xc0 PK) (Zad (x:=t.s) w) ?_;rintro _ w ⟨rfl,J⟩
 replace h:=h.cmp J;clear J
 refine(On)<|j_<|Oj ?_
 exact⟨Zm ⟨fun U=>⟨by first|assumption|(unfold ZO;omega),Oa,Oa,Oa,fun h0=>Oa,fun k F D=>by first|omega|exact Classical.byContradiction fun h9=>absurd (show∃k,0<=k/\k<t.nl/\¬ZO (t.l k) from⟨k,F,D,h9⟩) (by assumption)⟩,fun U=>by obtain⟨h1,h2,Z,Y,O,N⟩:=U;first|exact h1|exact fun⟨k,F,D,I⟩=>I (N k F D)|omega⟩,h.nl⟩}
 iterate 3 refine oq ?_
 refine(On)<|j_<|Oj ?_
 exact⟨Zi (by rintro⟨h1,h2,Z,Y,O,N⟩;first|omega|(have:=O Oa;omega)|exact absurd h1 ‹¬ZO t.s›|(obtain⟨k,F,D,I⟩:=‹∃k,0<=k/\k<t.nl/\¬ZO (t.l k)›;exact I (N k F D))),h.nl⟩}
 iterate 4 refine oq ?_
 refine zs2 ?_
 iterate 3 refine oq ?_
 refine(On)<|j_<|Oj ?_
 exact⟨Zi (by rintro⟨h1,h2,Z,Y,O,N⟩;first|omega|(have:=O Oa;omega)|exact absurd h1 ‹¬ZO t.s›|(obtain⟨k,F,D,I⟩:=‹∃k,0<=k/\k<t.nl/\¬ZO (t.l k)›;exact I (N k F D))),h.nl⟩}
 refine ZX<|(zV (h_ 0 Bz))<|(zV (g_ 0 dw h))<|(On)<|lX 25 ?_ ?_<;>intro hc
 {
 refine(zV (h_ 2 uZ))<|(zV (g_ 0 dV h))<|(zV (iW Zb (W).leaf.row.fP))<|(Oo)<|lX 31 ?_ ?_<;>intro hc
 {
 refine(zV (h_ 2 uZ))<|(zV (g_ 0 dV h))<|iJ (xc0 Ux) (ZoV (n:=t.nl) (f:=t.l) w ((W).leaf.row.below h.below)) ?_;rintro _ w ⟨rfl,J⟩
 replace h:=h.cmp J;clear J
 refine(Oo)<|jk<|Oj ?_
 exact⟨Zm ⟨fun U=>⟨by first|assumption|(unfold ZO;omega),Oa,Oa,Oa,fun h0=>Oa,fun k F D=>by first|omega|exact Classical.byContradiction fun h9=>absurd (show∃k,0<=k/\k<t.nl/\¬ZO (t.l k) from⟨k,F,D,h9⟩) (by assumption)⟩,fun U=>by obtain⟨h1,h2,Z,Y,O,N⟩:=U;first|exact h1|exact fun⟨k,F,D,I⟩=>I (N k F D)|omega⟩,h.nl⟩}
 iterate 4 refine oq ?_
 refine(On)<|jk<|Oj ?_
 exact⟨Zi (by rintro⟨h1,h2,Z,Y,O,N⟩;first|omega|(have:=O Oa;omega)|exact absurd h1 ‹¬ZO t.s›|(obtain⟨k,F,D,I⟩:=‹∃k,0<=k/\k<t.nl/\¬ZO (t.l k)›;exact I (N k F D))),h.nl⟩}
 iterate 4 refine oq ?_
 refine zs2 ?_
 iterate 4 refine oq ?_
 refine(On)<|jk<|Oj ?_
 exact⟨Zi (by rintro⟨h1,h2,Z,Y,O,N⟩;first|omega|(have:=O Oa;omega)|exact absurd h1 ‹¬ZO t.s›|(obtain⟨k,F,D,I⟩:=‹∃k,0<=k/\k<t.nl/\¬ZO (t.l k)›;exact I (N k F D))),h.nl⟩
theorem Ph:Zc Om 142=true:=Oc
theorem ZnQ:Zc Om 219=true:=Oc
theorem ZnP:Zc Om 220=true:=Oc
theorem ZnO:Zc Om 221=true:=Oc
theorem Znw:Zc Om 276=true:=Oc
theorem ZqM{t:Tr}(w0:World)(J:uJ w0 t)(I:o8 w0 t)(F:∀(w0:World),uJ w0 t->o8 w0 t->Calls Om 142 [.agg #[.int Oi t.s,t.vK,t.vL]].toArray w0 fun e w=>∃v,e= .returned v/\v=B t.ok/\Sat w0 w []):
   Calls Om 221 [.agg #[.int Oi t.s,t.vK,t.vL]].toArray w0 fun e w=>∃v,e= .returned v/\v=B (¬t.ok)/\Sat w0 w []:=by
 refine iE Tryz.func221 Tryz.ntmps221 fun w h=> ?_
 refine fQ<|iG (nS (cs:= [_,_,_]) h) ?_;rintro _ w ⟨N,rfl,h⟩
 refine(zP)<|iT<|(zV (lH 0 lT h))<|iJ (xc0 Ph) (F w (uJ.below h.below (J)) (o8.below h.below (I))) ?_;rintro _ w ⟨rfl,D⟩
 replace h:=h.cmp D;clear D
 refine(On)<|jk<|Oj ?_
 exact⟨rfl,h.nl⟩
theorem ZoN{t:Tr}(w0:World)(D:uJ w0 t)(N:o8 w0 t)(I:∀i,0<=i->i<t.n->∀(w0:World),uJ w0 (t.kid i)->o8 w0 (t.kid i)->Calls Om 142 [.agg #[.int Oi (t.kid i).s,(t.kid i).vK,(t.kid i).vL]].toArray w0 fun e w=>∃v,e= .returned v/\v=B (t.kid i).ok/\Sat w0 w []):
   Calls Om 276 [t.vK,.func (.func 221) #[] #[]].toArray w0 fun e w=>∃v,e= .returned v/\∃r:Int,v= .int Oi r/\((r= -1/\∀k,0<=k->k<t.n->(t.kid k).ok)\/(0<=r/\r<t.n/\¬(t.kid r).ok))/\Sat w0 w []:=by
 have hn:=D.row.fP.n0;have Z:=D.row.fP.n1;have hln:=N.leaf.row.fP.n0;have jB:=N.leaf.row.fP.n1
 refine iE Tryz.func276 Tryz.ntmps276 fun w h=> ?_
 refine fQ<|(zP)<|l9<|(zP)<|(zV (iW WU (D).row.fP))<|(zP)<|nI<|ny (fun W M w=>∃(i:Int),W=((t.n-i).toNat)/\(0<=i)/\(i<=t.n)/\(∀k,0<=k->k<i->(t.kid k).ok)/\M= [(0,t.vK),(1,.func (.func 221) #[] #[]),(7,.int Oi t.n),(8,.int Oi i)]/\Sat w0 w []) ⟨0,rfl,Oa,Oa,?_,rfl,h⟩ ?_
 {
 intro k O h1;omega}
 clear h w
 rintro W M w ⟨i,rfl,O,h1,U,rfl,h⟩
 refine fQ<|(zP)<|nG<|Zf ?_ ?_<;>intro hc
 {
 refine oC<|(On)<|iT<|(Oo)<|(zV (iy (kk:=3*i) WU (D).row.fP))<|(zV (uT (cs:= [.int Oi ((t.kid i).s),(t.kid i).vK,(t.kid i).vL]) lT ((D).row.below h.below) (UX (q:=3*i) (i:=i) _ Oa)))<|iJ (xc0 ZnO) (ZqM (t:=(t.kid i)) w (uJ.below h.below ((D).sub (i:=i) Oa Oa)) (o8.below h.below ((N).sub (i:=i) Oa Oa)) (I i Oa Oa)) ?_;rintro _ w ⟨rfl,F⟩
 replace h:=h.cmp F;clear F
 refine ig<|Zf ?_ ?_<;>intro hc
 {
 refine fQ<|(On)<|sG<|Oj ?_
 exact⟨i,rfl,.inr ⟨by omega,Oa,‹¬(t.kid i).ok›⟩,h⟩}
 refine rU<|(zV (Zg (r:=i+1)))<|(zP)<|iq<|jm ⟨i+1,rfl,Oa,Oa,?_,rfl,h⟩
 {
 intro k Y k1;rcases Int.lt_or_eq_of_le (show k<=i by omega) with J|J
 · exact U k Y J
 · rw [J];exact Od ‹_›}}
 refine oM<|(zP)<|jk<|Oj ?_
 exact⟨-1,rfl,.inl ⟨rfl,fun k O h1=>U k O Oa⟩,h⟩
theorem Zo0{t:Tr}(w0:World)(O:uJ w0 t)(N:o8 w0 t)(I:∀i,0<=i->i<t.n->∀(w0:World),uJ w0 (t.kid i)->o8 w0 (t.kid i)->Calls Om 142 [.agg #[.int Oi (t.kid i).s,(t.kid i).vK,(t.kid i).vL]].toArray w0 fun e w=>∃v,e= .returned v/\v=B (t.kid i).ok/\Sat w0 w []):
   Calls Om 220 [t.vK,.func (.func 221) #[] #[]].toArray w0 fun e w=>∃v,e= .returned v/\v=B (∃k,0<=k/\k<t.n/\¬(t.kid k).ok)/\Sat w0 w []:=by
 refine iE Tryz.func220 Tryz.ntmps220 fun w F=> ?_
 refine fQ<|(zP)<|iT<|(On)<|iJ (xc0 Znw) (ZoN (t:=t) w (uJ.below F.below (O)) (o8.below F.below (N)) I) ?_;rintro _ w ⟨Z,rfl,J,D⟩
 replace F:=F.cmp D;clear D
 refine(On)<|jk<|Oj ?_
 exact⟨Zm (by
  rcases J with⟨h1,h2⟩|⟨h1,h2,h3⟩
  · exact⟨fun h=>Oa,fun⟨k,Y,W,U⟩=>absurd (h2 k Y W) U⟩
  · exact⟨fun _=>⟨_,h1,h2,h3⟩,fun _=>h1⟩),F⟩
theorem Zlk:∀(t:Tr) (w0:World) (U:uJ w0 t) (O:o8 w0 t),
   Calls Om 142 [.agg #[.int Oi t.s,t.vK,t.vL]].toArray w0 fun e w=>∃v,e= .returned v/\v=B t.ok/\Sat w0 w []:=by
 refine Tr.ind fun t W=> ?_
 intro w0 U O
 refine iE Tryz.func142 Tryz.ntmps142 fun w h=> ?_
 refine fQ<|iG (nS (cs:= [_,_,_]) h) ?_;rintro _ w ⟨g1,rfl,h⟩
 refine(zP)<|iT<|(zV (lH 0 lT h))<|iJ (xc0 ZnQ) (Zoy (t:=t) w (uJ.below h.below (U)) (o8.below h.below (O))) ?_;rintro _ w ⟨rfl,D⟩
 replace h:=h.cmp D;clear D
 refine(zP)<|lX 5 ?_ ?_<;>intro hc
 {
 refine(zV (h_ 1 rO))<|(zV (g_ 0 Ug h))<|iJ (xc0 ZnP) (Zo0 (t:=t) w (uJ.below h.below (U)) (o8.below h.below (O)) W) ?_;rintro _ w ⟨rfl,D⟩
 replace h:=h.cmp D;clear D
 refine(Oo)<|jk<|Oj ?_
 exact⟨Zm (by rw [t.Ci];exact⟨fun N=>⟨‹FW t›,fun k I F=>Classical.byContradiction fun Y=>N ⟨k,I,F,Y⟩⟩,fun N ⟨k,I,F,J⟩=>J (N.2 k I F)⟩),h.nl⟩}
 iterate 4 refine oq ?_
 refine(On)<|jk<|Oj ?_
 exact⟨Zi (by rw [t.Ci];rintro⟨h1,Z⟩;first|exact absurd h1 ‹¬FW t›|(obtain⟨k,I,F,J⟩:=‹∃k,0<=k/\k<t.n/\¬(t.kid k).ok›;exact J (Z k I F))),h.nl⟩
theorem Zf4{t:Tr}(w0:World)(J:uJ w0 t)(I:o8 w0 t):
   Calls Om 69 [.agg #[.int Oi t.s,t.vK,t.vL]].toArray w0 fun e w=>∃v,e= .returned v/\v=B (V1 t)/\Sat w0 w []:=by
 refine iE Tryz.func69 Tryz.ntmps69 fun w h=> ?_
 refine fQ<|iG (nS (cs:= [_,_,_]) h) ?_;rintro _ w ⟨U,rfl,h⟩
 refine(zP)<|iT<|(zV (lH 0 lT h))<|iJ (xc0 Pg) (ZkV t w (uJ.below h.below (J)) (o8.below h.below (I))) ?_;rintro _ w ⟨rfl,D⟩
 replace h:=h.cmp D;clear D
 refine(On)<|lX 6 ?_ ?_<;>intro hc
 {
 refine(zV (lH 0 lT h))<|iJ (xc0 Zip) (Zk8 t w (uJ.below h.below (J)) (o8.below h.below (I))) ?_;rintro _ w ⟨rfl,D⟩
 replace h:=h.cmp D;clear D
 refine(Oo)<|lX 11 ?_ ?_<;>intro hc
 {
 refine(zV (lH 0 lT h))<|iJ (xc0 Ph) (Zlk t w (uJ.below h.below (J)) (o8.below h.below (I))) ?_;rintro _ w ⟨rfl,D⟩
 replace h:=h.cmp D;clear D
 refine(On)<|jk<|Oj ?_
 exact⟨Zm ⟨fun F=>⟨by first|exact F|assumption,Oa,Oa⟩,fun F=>by obtain⟨h1,O,N⟩:=F;first|exact h1|omega⟩,h.nl⟩}
 refine(zO)<|(zO)<|(On)<|jk<|Oj ?_
 exact⟨Zi (by rintro⟨h1,O,N⟩;first|omega|exact absurd h1 ‹¬t.ok›),h.nl⟩}
 iterate 3 refine oq ?_
 refine(On)<|(zO)<|oq ?_
 refine(On)<|jk<|Oj ?_
 exact⟨Zi (by rintro⟨h1,O,N⟩;first|omega|exact absurd h1 ‹¬t.ok›),h.nl⟩
variable {b:Int}
noncomputable def Z9(p:cO)(wi i:Int):cO:=p.with fun j=>p.D j-Yi (MX p wi) i j
def fw(f:Int->Option (List Int)):Nat->Int->Option (List Int)
  |0,_=>none
  | c+1,i=>match f i with
    |some l=>some (i::l)
    |none=>fw f c (i+1)
theorem SN{f:Int->Option (List Int)}:∀{c:Nat} {i:Int},fw f c i=none->∀k,i<=k->k<i+c->f k=none
 |0,i,_,k,h1,h2=>Oa
 | c+1,i,h,k,h1,h2=>by
   unfold fw at h
   cases hf:f i with
   |some m=>rw [hf] at h;cases h
   | none=>
     rw [hf] at h
     by_cases e:k=i
     · rw [e];exact hf
     · exact SN h k Oa Oa
noncomputable def AX:Tr->cO->Int->Option (List Int)
  | .nil,p,b=> @ite _ (To p b 0 (fun _=>0)) (Classical.propDecidable _) none (some [])
  | .mk s vK n kid vL nl l,p,b=>if n=0 then @ite _ (To p b nl l) (Classical.propDecidable _) none (some []) else
    @ite _ (ZS p b s/\Zn p b s=n) (Classical.propDecidable _) (fw (fun i=>AX (kid i) (Z9 p s i) (b-1)) n.toNat 0) (some [])
theorem Sl{t:Tr}{p:cO}(h:t.n=0):AX t p b= @ite _ (To p b t.nl t.l) (Classical.propDecidable _) none (some []):=by
 cases t with
 |nil=>rfl
 |mk s vK n kid vL nl l=>exact if_pos h
theorem ZbK{t:Tr}{p:cO}(h:t.n=0)(D:To p b t.nl t.l):AX t p b=none:=by rw [Sl h,if_pos D]
theorem Zdh{t:Tr}{p:cO}(h:t.n=0)(D:¬To p b t.nl t.l):AX t p b=some []:=by rw [Sl h,if_neg D]
noncomputable def N7(t:Tr)(p:cO)(b:Int)(i:Int):Option (List Int):=AX (t.kid i) (Z9 p t.s i) (b-1)
theorem Sj{t:Tr}{p:cO}(h:t.n≠0)(D:ZS p b t.s)(hn:Zn p b t.s=t.n):AX t p b=fw (N7 t p b) (t.n-0).toNat 0:=by
 cases t with
 |nil=>exact absurd rfl h
 | mk s vK n kid vL nl l=>
   have F:n≠0:=h
   show(if n=0 then _ else _)=_
   rw [if_neg F,if_pos (show ZS p b s/\Zn p b s=n from⟨D,hn⟩),Int.sub_zero]
   rfl
theorem ZlY{t:Tr}{p:cO}(h:t.n≠0)(D:¬(ZS p b t.s/\Zn p b t.s=t.n)):AX t p b=some []:=by
 cases t with
 |nil=>exact absurd rfl h
 | mk s vK n kid vL nl l=>
   have F:n≠0:=h
   show(if n=0 then _ else _)=_
   rw [if_neg F,if_neg (show¬(ZS p b s/\Zn p b s=n) from D)]
theorem Uj{p:cO}{wi i:Int}(h:ZS p b wi)(F:0<=i)(D:i<Zn p b wi):BP p wi (Yi (MX p wi) i)/\1<=Yi (MX p wi) i wi:=by
 rw [YT h] at D
 obtain⟨h1,I⟩:=Ja h.1.1 (Ui F D)
 exact⟨h1,I h.2.2.1.1 h.2.2.1.2⟩
theorem QO{w w':World}{vL vD:Value}{p:cO}{wi i:Int}{vv:Ov}(I:ZS p b wi)(h:oO w' vL vD p)(D:Row w (vv (2*i)) 1 p.m (ints (wJ p (MX p wi) (2*i))))(F:Row w (vv (2*i+1)) 1 p.m (ints (wJ p (MX p wi) (2*i+1))))(U:0<=i)(O:i<Zn p b wi):oO w (vv (2*i)) (vv (2*i+1)) (Z9 p wi i):=by
 have J:=I.1.1
 rw [NU p _ (i:=i) rfl] at D
 rw [JF p _ (i:=i) rfl] at F
 refine⟨D,?_,h.iL,fun k=> ?_,h.is,h.ik⟩
 {
 show Row w _ 1 p.d _
 rw [J.d];exact F}
 {
 obtain⟨N,_⟩:=Uj I U O
 show _<=p.D k-Yi (MX p wi) i k/\p.D k-Yi (MX p wi) i k<=_
 by_cases hk:0<=k/\k<p.m
 {
 have h1:=N.rng k hk.1 hk.2
 have W:=J.all k hk.1 hk.2
 unfold cO.each at W
 omega}
 {
 rw [N.zero k Oa]
 have:=h.iD k
 omega}}
def FU(i:Int)(f:Of):Of:=fun k=>if k<1 then i else f (k-1)
theorem Zf1(i:Int)(f:Of):cat ((1:Int)*(1:Nat)) (ints fun _=>i) (ints f)=ints (FU i f):=by
 funext j;simp only [cat,ints,FU];split<;>split<;>first|rfl|omega
end Go.Proofs.YtpnamgfdakfccaaGreat
namespace Go.Proofs.YtpnamgfdakfccaaGreat
open Go Go.RowKit Go.Proofs.Gw
theorem Zqq:Zc Om 30=true:=Oc
theorem Zc4{E:TypeId}{n:Int}{vv:Ov}{ln:Of}{f:Og}{w:World}{l:List iO}(h:(Frame.rG l).holds w)(i:Nat)(hi:l[i]? =some (.sem (Frame.rows E n vv ln f))){k:Int}(F:0<=k)(D:k<n):Row w (vv k) 1 (ln k) (ints (f k)):=((h.1 _ (List.mem_of_getElem? hi)).1 k F D).row
theorem Zlm{w:World}{l:List iO}{F:Gw.Frame}(h:(Frame.rG l).holds w)(i:Nat)(hi:l[i]? =some (.sem F)):F.holds w:=h.1 _ (List.mem_of_getElem? hi)
theorem Zqe:Zc Om 69=true:=Oc
def DL(t:Tr):Prop:=t.s=0/\t.nl=0/\t.n=0
theorem Zfq{p:cO}{u:Int}{ln cnt:Of}{pt:Og}(h:nM p u ln pt cnt):0<=jT (fun _=>1) cnt u.toNat/\jT (fun _=>1) cnt u.toNat<=1000000:=by
 have h1:∀n:Nat,(n:Int)<=u->0<=jT (fun _=>1) cnt n/\jT (fun _=>1) cnt n<=1000*n:=fun n=>by
   induction n with
   |zero=>intro _;simp [jT]
   | succ n ih=>
     intro hn
     have J:=ih Oa
     have I:=h.2.2 n Oa Oa
     simp only [jT];omega
 have F:=h.2.1
 by_cases hu:0<=u
 · have D:=h1 u.toNat Oa;omega
 · rw [show u.toNat=0 by omega];simp [jT]
end Go.Proofs.YtpnamgfdakfccaaGreat
namespace Go.Proofs.Gw
open Go Go.RowKit
variable {w:Int} {x:Of} {L:List (Of)}
def Xh(L:List (Of))(j:Int):Int:=match L with
  | []=>0
  |a::L=>a j+Xh L j
def vw(p:cO)(L:List (Of)):Prop:=∀a∈L,nN p p.m a
theorem Un(L M:List (Of))(j:Int):Xh (L++M) j=Xh L j+Xh M j:=by
 induction L with
 |nil=>simp [Xh]
 |cons a L ih=>simp only [List.cons_append,Xh,ih];omega
theorem vw.nn{p:cO}(h:vw p L){j:Int}(F:0<=j)(D:j<p.m):0<=Xh L j:=by
 induction L with
 |nil=>exact Int.le_refl _
 | cons a L ih=>
   have h1:=(h a (List.mem_cons_self ..)).all j F D
   have J:=ih fun b I=>h b (List.mem_cons_of_mem _ I)
   simp only [Xh];omega
theorem Zg8{j:Int}(h:1<=Xh L j):∃F a D,L=F++a::D/\1<=a j:=by
 induction L with
 |nil=>simp [Xh] at h
 | cons a L ih=>
   by_cases e:1<=a j
   · exact⟨[],a,L,rfl,e⟩
   {
   simp only [Xh] at h
   obtain⟨F,b,D,rfl,I⟩:=ih Oa
   exact⟨a::F,b,D,rfl,I⟩}
theorem VN(f:Of):∀n:Nat,Zd f (n+1)=f 0+Zd (fun i=>f (i+1)) n
 |0=>by simp [Zd]
 | n+1=>by
   have h:=VN f n
   show Zd f (n+1)+f ((n+1:Nat):Int)=f 0+(Zd (fun i=>f (i+1)) n+f ((n:Int)+1))
   rw [h,show((n+1:Nat):Int)=(n:Int)+1 by omega];omega
def EX(L:List (Of))(i:Int):Of:=L.getD i.toNat (fun _=>0)
theorem KJ(k:Int):∀L:List (Of),Wg (EX L) (fun _=>1) L.length k=Xh L k
 | []=>rfl
 | a::L=>by
   unfold Wg
   rw [List.length_cons,VN]
   have e:Zd (fun i=>EX (a::L) (i+1) k*1) L.length=Zd (fun i=>EX L i k*1) L.length:=Zh fun i F D=>by
     unfold EX;rw [show(i+1).toNat=i.toNat+1 by omega];rfl
   have h:=KJ k L
   unfold Wg at h
   rw [e,h]
   show(a k)*1+_=_
   simp [Xh]
theorem ZgU{i:Int}(D:0<=i)(h:i<L.length):EX L i∈L:=by
 unfold EX
 rw [List.getD_eq_getElem?_getD,List.getElem?_eq_getElem Oa]
 exact List.getElem_mem _
theorem Zi7{p:cO}{n b:Int}{y:Of}{q:Int}(h:vH p n y q=0)(U:b<=1000)(N:b<Xe p n y q)(O:vw p L)(hc:∀j,0<=j->j<p.m->p.D j<=Xh L j):b<L.length:=by
 by_cases hl:1000<L.length
 · omega
 {
 have hM:CW p L.length (fun _=>p.m) (EX L) (fun _=>1):=
   ⟨⟨(U5 h).1,Oa,fun i J I=>⟨O _ (ZgU J I),Oa,Oa⟩⟩,fun k F D=>by
     rw [show((L.length:Int)).toNat=L.length by omega,KJ];exact hc k F D⟩
 have h1:=Zfl h Oa hM
 rw [show((L.length:Int)).toNat=L.length by omega,W4] at h1
 omega}
def rep(c:Nat)(a:Of):List (Of):=List.replicate c a
theorem Rr(a:Of)(j:Int):∀c:Nat,Xh (rep c a) j=a j*c
 |0=>by simp [rep,Xh]
 | c+1=>by
   have h:=Rr a j c
   show a j+Xh (rep c a) j=_
   rw [h,Int.natCast_add,Int.mul_add];simp;omega
theorem Kt{p:cO}{len:Of}{pt:Og}{cnt:Of}:∀n:Nat,(∀i,0<=i->i<(n:Int)->nN p (len i) (pt i)/\0<=cnt i)->∃L,vw p L/\(∀j,Xh L j=Wg pt cnt n j)/\(L.length:Int)=Zd cnt n
 |0,_=>⟨[],fun a D=>absurd D (by simp),fun _=>rfl,rfl⟩
 | n+1,h=>by
   obtain⟨L,h1,O,N⟩:=Kt n fun i I U=>h i I Oa
   obtain⟨J,F⟩:=h n Oa Oa
   refine⟨L++rep (cnt n).toNat (pt n),fun a D=> ?_,fun j=> ?_,?_⟩
   {
   rcases List.mem_append.1 D with D|D
   · exact h1 a D
   · rw [(List.mem_replicate.1 D).2]
     have:=J;rw [this.eq] at this;exact this}
   · rw [Un,O,Rr,Int.toNat_of_nonneg F];rfl
   · rw [List.length_append,Int.natCast_add,N];unfold rep;rw [List.length_replicate,Int.toNat_of_nonneg F];rfl
theorem R9{p:cO}(D:p.Ok){x:Of}(F:∀i,0<=i->i<p.m->0<=x i):∀(k:Nat) {i:Int},0<=i->i+k<=p.m->ZD p x i.toNat<=ZD p x (i+k).toNat
 |0,i,_,_=>by simp
 | k+1,i,i0,h=>by
   have h1:=R9 D F k i0 Oa
   have J:ZD p x (i+k+1).toNat=ZD p x (i+k).toNat+x (i+k)*(p.L (i+k)+p.aV):=ZI _ Oa
   have I:=D.all (i+k) Oa Oa
   unfold cO.each at I
   have O:=D.k1
   have N:0<=x (i+k)*(p.L (i+k)+p.aV):=Int.mul_nonneg (F _ Oa Oa) Oa
   rw [show i+((k+1:Nat):Int)=i+k+1 by omega,J];omega
theorem SE{p:cO}(F:p.Ok){w:Int}{x:Of}(D:BP p w x):∀(j:Nat) {i l:Int} {a:Of},(p.m-i).toNat=j->0<=i->i<=p.m->wQ p i a l->(∀k,k<i->x k=a k)->(i<=w->w<p.m->1<=x w)->x∈vg p w i a l
 | 0,i,l,a,hj,h0,h1,h,he,hw=>by
   have hi:i=p.m:=Oa
   have e:x=a:=funext fun k=>by
     by_cases N:k<i
     · exact he k N
     · rw [h.zero k Oa,D.zero k Oa]
   subst e
   rw [Vz hi (by have:=h.left;rw [hi] at this;rw [this];exact D.Jq)]
   exact List.mem_singleton.2 rfl
 | j+1,i,l,a,hj,h0,h1,h,he,hw=>by
   rw [XS h0 Oa]
   have hr:=D.rng i h0 Oa
   have Z:=F.all i h0 Oa
   unfold cO.each at Z
   have N:=F.k1
   have hu:ZD p x (i+1).toNat=ZD p x i.toNat+x i*(p.L i+p.aV):=ZI _ h0
   have hm:=R9 F (fun k U O=>(D.rng k U O).1) (p.m-(i+1)).toNat (i:=i+1) Oa Oa
   rw [show i+1+((p.m-(i+1)).toNat:Int)=p.m by omega] at hm
   have ha:ZD p x i.toNat=ZD p a i.toNat:=Zh fun k U O=>by rw [he k Oa]
   have hl:=h.left
   have Y:=D.used
   have J:x i*(p.L i+p.aV)<=l:=Oa
   have h2:x i<=most p i l:=by
     unfold most
     have:x i<=l.tdiv (p.L i+p.aV):=by
       rw [Int.tdiv_eq_ediv_of_nonneg h.l0]
       exact(Int.le_ediv_iff_mul_le Oa).2 J
     omega
   have I:least w i<=x i:=by
     unfold least
     by_cases e:w=i
     · rw [if_pos e,<-e];exact hw Oa Oa
     · rw [if_neg e];exact hr.1
   refine Qp I Oa (SE F D j Oa Oa Oa (h.step F h0 Oa hr.1 h2) (fun k N=> ?_) fun q1 W=>hw Oa W)
   by_cases e:k=i
   · rw [e,Zp]
   · rw [upd_ne _ _ e];exact he k Oa
theorem O3{p:cO}(h:p.Ok)(D:BP p w x)(F:0<=w->w<p.m->1<=x w):x∈MX p w:=
 SE h D _ rfl (Int.le_refl 0) (by have:=h.m1;omega) (wQ.start h) (fun k I=>by rw [D.zero k Oa]) F
theorem TU{p:cO}{f:Of}{i:Int}(F:0<=i):∀{n:Nat},i<(n:Int)->ZD p (upd f i (f i+1)) n=ZD p f n+(p.L i+p.aV)
 |0,h=>Oa
 | n+1,h=>by
   show Zd _ (n+1)=Zd _ (n+1)+_
   simp only [Zd]
   by_cases e:i=n
   {
   subst e
   have:Zd (fun j=>upd f (n:Int) (f n+1) j*(p.L j+p.aV)) n=Zd (fun j=>f j*(p.L j+p.aV)) n:=Zh fun j J I=>by rw [upd_ne _ _ Oa]
   rw [this,Zp,Int.add_mul,Int.one_mul];omega}
   {
   have D:=TU (p:=p) (f:=f) F (n:=n) Oa
   unfold ZD at D
   rw [D,upd_ne _ _ (fun h=>e h.symm)];omega}
theorem KD{p:cO}(N:p.Ok):∀(c:Nat) {x:Of},(p.bP+p.aV-ZD p x p.m.toNat).toNat=c->(∀k,0<=k->k<p.m->0<=x k/\x k<=p.D k)->(∀k,k<0\/p.m<=k->x k=0)->ZD p x p.m.toNat<=p.bP+p.aV->(∃i,0<=i/\i<p.m/\0<x i)->∃z,BP p w z/\∀k,x k<=z k:=by
 intro c
 induction c using Nat.strongRecOn with
 | _ c ih=>
   intro x hc hr J Y F
   by_cases hm:∀i,0<=i->i<p.m->x i<p.D i->p.bP+p.aV-ZD p x p.m.toNat<p.L i+p.aV
   · exact⟨x,⟨hr,J,Y,F,hm⟩,fun k=>Int.le_refl _⟩
   {
   obtain⟨i,hi⟩:=Classical.not_forall.1 hm
   obtain⟨h,hi⟩:=Classical.not_forall.1 hi
   obtain⟨D,hi⟩:=Classical.not_forall.1 hi
   obtain⟨i2,i3⟩:=Classical.not_forall.1 hi
   have he:=TU (p:=p) (f:=x) h (n:=p.m.toNat) Oa
   have Z:=N.all i h D
   unfold cO.each at Z
   have O:=N.k1
   obtain⟨z,h1,h2⟩:=ih _ Oa (x:=upd x i (x i+1)) rfl (fun k W U=>by
       by_cases e:k=i
       · rw [e,Zp];have:=hr i h D;omega
       · rw [upd_ne _ _ e];exact hr k W U) (fun k O=>by rw [upd_ne _ _ Oa];exact J k O) Oa
     ⟨i,h,D,by rw [Zp];have:=hr i h D;omega⟩
   refine⟨z,h1,fun k=> ?_⟩
   have I:=h2 k
   by_cases e:k=i
   · rw [e,Zp] at I;rw [e];omega
   · rw [upd_ne _ _ e] at I;exact I}
theorem Zag{p:cO}{a:Of}(Y:nN p p.m a)(w0:0<=w)(N:w<p.m)(hw:1<=a w)(hd:1<=p.D w):∃i,0<=i/\i<((MX p w).length:Int)/\∀j,0<=j->j<p.m->min (a j) (p.D j)<=Yi (MX p w) i j:=by
 have I:=Y.ok
 obtain⟨x,F,W⟩:∃x:Of,(∀j,0<=j->j<p.m->x j=min (a j) (p.D j))/\∀j,j<0\/p.m<=j->x j=0:=
   ⟨fun j=>if 0<=j/\j<p.m then min (a j) (p.D j) else 0,fun j h J=>if_pos ⟨h,J⟩,fun j hj=>if_neg Oa⟩
 have hu:ZD p x p.m.toNat<=p.bP+p.aV:=by
   refine Int.le_trans (Yb fun j h J=> ?_) Y.used
   rw [F j h Oa]
   have D:=I.all j h Oa
   unfold cO.each at D
   have hk:=I.k1
   exact Int.mul_le_mul_of_nonneg_right Oa Oa
 obtain⟨z,h1,D⟩:=KD I (w:=w) _ rfl (fun k U O=>by
     rw [F k U O]
     have D:=I.all k U O
     unfold cO.each at D
     have:=Y.all k U O
     omega) W hu ⟨w,w0,N,by rw [F w w0 N];omega⟩
 have h3:z∈MX p w:=O3 I h1 fun _ _=>by
   have:=D w;rw [F w w0 N] at this;omega
 obtain⟨n,hn,e⟩:=List.mem_iff_getElem.1 h3
 refine⟨n,Oa,Oa,fun j h J=> ?_⟩
 have Z:=D j
 rw [F j h J] at Z
 unfold Yi
 rw [show((n:Int)).toNat=n by omega,List.getD_eq_getElem?_getD,List.getElem?_eq_getElem hn,Option.getD_some,e]
 exact Z
end Go.Proofs.Gw
namespace Go.Proofs.Gw
open Go Go.RowKit
theorem UK(f:Of){q y:Int}(D:0<=q):∀{n:Nat},q<n->Zd (upd f q y) n=Zd f n-f q+y
 |0,h=>Oa
 | n+1,h=>by
   simp only [Zd]
   by_cases e:q=n
   {
   subst e
   have:Zd (upd f (n:Int) y) n=Zd f n:=Zh fun j J I=>by rw [upd_ne _ _ Oa]
   rw [this,Zp];omega}
   · have F:=UK f D (y:=y) (n:=n) Oa
     rw [F,upd_ne _ _ (fun h=>e h.symm)];omega
theorem Kj{f:Of}:∀{n:Nat},1<=Zd f n->∃k,0<=k/\k<(n:Int)/\1<=f k
 |0,h=>by simp [Zd] at h
 | n+1,h=>by
   by_cases e:1<=f n
   · exact⟨n,Oa,Oa,e⟩
   {
   simp only [Zd] at h
   obtain⟨k,F,h1,D⟩:=Kj (f:=f) (n:=n) Oa
   exact⟨k,F,Oa,D⟩}
theorem Zjq{p:cO}{x y:Of}(h:∀j,0<=j->j<p.m->x j=y j):ZD p x p.m.toNat=ZD p y p.m.toNat:=Zh fun j D F=>by
 rw [h j D Oa]
theorem KV{p:cO}(D:p.Ok){a:Of}(h:∀j,0<=j->j<p.m->0<=a j)(O:ZD p a p.m.toNat<=p.bP+p.aV):nN p p.m a:=by
 refine⟨D,rfl,fun j F J=>⟨h j F J,?_⟩,O⟩
 have h1:=Xm (f:=fun i=>a i*(p.L i+p.aV)) (n:=p.m.toNat) F Oa (fun i N U=>by
   have I:=D.all i N Oa
   unfold cO.each at I
   exact Int.mul_nonneg (h i N Oa) (by have:=D.k1;omega))
 have I:=D.all j F J
 unfold cO.each at I
 have Y:=D.k1;have W:=D.s2
 apply Classical.byContradiction;intro hn
 have Z:2001*(p.L j+p.aV)<=a j*(p.L j+p.aV):=Int.mul_le_mul_of_nonneg_right Oa Oa
 unfold ZD at O
 omega
def ZL(p:cO):Int:=Zd p.D p.m.toNat
theorem Wq{p:cO}(D:p.Ok):0<=ZL p/\ZL p<=20000:=by
 have h:=W5 (f:=p.D) (A:=1000) (n:=p.m.toNat) (fun i F J=>by
   have I:=D.all i F Oa
   unfold cO.each at I
   omega)
 have:=D.m2
 unfold ZL;omega
end Go.Proofs.Gw
namespace Go.Proofs.YtpnamgfdakfccaaGreat
open Go Go.RowKit Go.Proofs.Gw
theorem _J{p:cO}{b wi i:Int}(h:ZS p b wi)(J:0<=i)(I:i<Zn p b wi):(Z9 p wi i).Ok:=by
 obtain⟨h1,_⟩:=Uj h J I
 refine Zj6 h.1.1 fun k F D=> ?_
 have N:=h1.rng k F (by rw [<-h.1.1.d];exact D)
 omega
theorem Zdn:∀(t:Tr) {p:cO} {b:Int},AX t p b=none->∀{L:List (Of)},vw p L->(∀j,0<=j->j<p.m->p.D j<=Xh L j)->b<L.length:=Tr.ind fun t ih p b h L Z hc=>by
 by_cases h0:t.n=0
 {
 by_cases hl:To p b t.nl t.l
 · obtain⟨h1,h2,h3,h4⟩:=hl
   exact Zi7 h3 h1.2.2 h4 Z hc
 · rw [Zdh h0 hl] at h;cases h}
 {
 by_cases hs:ZS p b t.s/\Zn p b t.s=t.n
 {
 rw [Sj h0 hs.1 hs.2] at h
 have hn:Zn p b t.s=(MX p t.s).length:=YT hs.1
 obtain⟨W,aa,⟨J,I⟩,hd,_⟩:=hs.1
 have hp:=W.1
 have he:=hp.all t.s J I
 unfold cO.each at he
 obtain⟨L1,a,L2,rfl,ha⟩:=Zg8 (j:=t.s) (Int.le_trans Oa (hc t.s J I))
 obtain⟨i,U,i1,hi⟩:=Zag (Z a (by simp)) J I ha Oa
 have hk:N7 t p b i=none:=SN h i U Oa
 have Y:=_J hs.1 U Oa
 have F:vw p (L1++L2):=fun x D=>Z x (by rcases List.mem_append.1 D with D|D<;>simp [D])
 have h5:=ih i U Oa hk (L:=L1++L2) (fun x D=>by
     obtain⟨_,g2,g3,g4⟩:=F x D
     exact⟨Y,rfl,g3,g4⟩) (fun j O N=>by
     have g1:=hc j O N
     have g2:=hi j O N
     have g3:=F.nn O N
     rw [Un,Xh] at g1
     rw [Un] at g3⊢
     show p.D j-Yi (MX p t.s) i j<=_
     omega)
 rw [List.length_append] at h5⊢
 rw [List.length_cons]
 omega}
 · rw [ZlY h0 hs] at h;cases h}
theorem Vr(f d:Of):∀n:Nat,jT f d n=Zd (fun k=>f k*d k) n
 |0=>rfl
 | n+1=>by
   have:=Vr f d n
   simp only [jT,Zd,this]
theorem Zfs{p:cO}{u:Int}{ln cnt:Of}{pt:Og}(h:nM p u ln pt cnt/\∀j,0<=j->j<p.m->p.D j<=ZJ u pt cnt j):∃L,vw p L/\(∀j,0<=j->j<p.m->p.D j<=Xh L j)/\(L.length:Int)=jT (fun _=>1) cnt u.toNat:=by
 obtain⟨⟨_,h1,N⟩,J⟩:=h
 obtain⟨L,W,U,O⟩:=Kt (p:=p) (len:=ln) (pt:=pt) (cnt:=cnt) u.toNat fun i I Y=>by
   have:=N i I Oa
   exact⟨this.2.2,Oa⟩
 refine⟨L,W,fun j F D=> ?_,?_⟩
 {
 have:=J j F D
 unfold ZJ at this
 rw [U];unfold Wg
 rw [Vr] at this;exact this}
 · rw [O,Vr];exact Zh fun i _ _=>by rw [Int.one_mul]
end Go.Proofs.YtpnamgfdakfccaaGreat
namespace Go.Proofs.Gw
open Go Go.RowKit
variable {w:Int} {f:Of}
def vJ(f:Of):Nat->Int->Int
  |0=>f
  |d+1=>fun s=>vJ f d s+vJ f d (s+1)
theorem RS{f:Of}(h:∀s,0<=f s):∀(d:Nat) (s:Int),0<=vJ f d s
 |0,s=>h s
 | d+1,s=>by
   have:=RS h d s;have:=RS h d (s+1)
   simp only [vJ];omega
theorem TP(f:Of)(a:Nat):∀(b:Nat),vJ (vJ f a) b=vJ f (a+b)
 |0=>rfl
 | b+1=>by
   funext s
   have:=TP f a b
   show vJ (vJ f a) b s+vJ (vJ f a) b (s+1)=vJ f (a+b) s+vJ f (a+b) (s+1)
   rw [this]
theorem MG{f:Of}(h:∀s,0<=f s)(s:Int):∀d:Nat,Zd (fun k=>f (s+k)) (d+1)<=vJ f d s
 |0=>by simp [Zd,vJ]
 | d+1=>by
   have h1:=MG h s d
   have J:f (s+1+d)<=vJ f d (s+1):=by
     have:=MG h (s+1) d
     have I:Zd (fun k=>f (s+1+k)) (d+1)=Zd (fun k=>f (s+1+k)) d+f (s+1+d):=rfl
     have F:0<=Zd (fun k=>f (s+1+k)) d:=Z8 fun i _ _=>h _
     omega
   have D:Zd (fun k=>f (s+k)) (d+1+1)=Zd (fun k=>f (s+k)) (d+1)+f (s+((d+1:Nat):Int)):=rfl
   have e:s+((d+1:Nat):Int)=s+1+d:=Oa
   rw [D,e]
   simp only [vJ];omega
def YX{α:Type}(f:α->Int)(l:List α):Int:=(l.map f).sum
theorem ZfB{α:Type}(f:α->Int)(l m:List α):YX f (l++m)=YX f l+YX f m:=by simp [YX]
theorem _v{α:Type}(f:α->Int)(F:Int->List α)(lo:Int):∀c:Nat,YX f (dn F lo c)=Zd (fun k=>YX f (F (lo+k))) c
 |0=>rfl
 | c+1=>by
   have:=_v f F lo c
   show YX f (F (lo+c)++dn F lo c)=Zd _ c+_
   rw [ZfB,this];exact Int.add_comm _ _
def tl(p:cO)(i:Int):Nat:=(ZL p-Zd p.D i.toNat).toNat
theorem Vo{p:cO}(D:p.Ok):∀(c:Nat) {i:Int},0<=i->i+c<=p.m->Zd p.D i.toNat<=Zd p.D (i+c).toNat
 |0,i,_,_=>by simp
 | c+1,i,i0,h=>by
   have h1:=Vo D c i0 Oa
   have I:=ZI p.D (i:=i+c) Oa
   have F:=D.all (i+c) Oa Oa
   unfold cO.each at F
   rw [show i+((c+1:Nat):Int)=i+c+1 by omega,I];omega
theorem Zjv{p:cO}(D:p.Ok){i:Int}(h:0<=i)(F:i<p.m):tl p i=tl p (i+1)+(p.D i).toNat:=by
 have N:=ZI p.D h
 have J:=Vo D (p.m-(i+1)).toNat (i:=i+1) Oa Oa
 rw [show i+1+((p.m-(i+1)).toNat:Int)=p.m by omega] at J
 have I:=D.all i h F
 unfold cO.each at I
 unfold tl ZL;omega
theorem Zl3(p:cO):tl p p.m=0:=by unfold tl ZL;omega
theorem Zju(p:cO):(tl p 0:Nat)=(ZL p).toNat:=by unfold tl;simp [Zd]
theorem VA{p:cO}(F:p.Ok){w:Int}{f:Of}(hf:∀s,0<=f s):∀(j:Nat) {i l:Int} {a:Of},(p.m-i).toNat=j->0<=i->i<=p.m->0<=l->
   (w<i->YX (fun x=>f (Zd x p.m.toNat)) (vg p w i a l)<=vJ f (tl p i) (Zd a i.toNat))/\
   (i<=w->w<p.m->1<=p.D w->YX (fun x=>f (Zd x p.m.toNat)) (vg p w i a l)<=vJ f (tl p i-1) (Zd a i.toNat+1))
 | 0,i,l,a,hj,h0,h1,hl=>by
   obtain rfl:i=p.m:=Oa
   refine⟨fun _=> ?_,fun g1 g2=>Oa⟩
   rw [Zl3]
   by_cases hm:DU p a l
   · rw [Vz rfl hm];simp [YX,vJ]
   · rw [UZ rfl hm];simpa [YX,vJ] using hf _
 | j+1,i,l,a,hj,h0,h1,hl=>by
   have he:=F.all i h0 Oa
   unfold cO.each at he
   have ab:=F.k1
   have ff:=Zjv F h0 (show i<p.m by omega)
   rw [XS h0 Oa,_v]
   have kO:most p i l<=p.D i:=by unfold most;omega
   have U:∀k,0<=k->k<=most p i l->0<=l-k*(p.L i+p.aV):=fun k N J=>by
     have:=(XO F h0 Oa hl N J).2.2;omega
   have Y:∀k,Zd (upd a i k) (i+1).toNat=Zd a i.toNat+k:=fun k=>by
     rw [ZI _ h0,Zp]
     rw [Zh (g:=a) fun q q0 q1=>by rw [upd_ne _ _ Oa]]
   have O:∀(g:Of) (c:Nat) (d:Nat) (s:Int),(∀s,0<=g s)->(c:Int)<=d+1->Zd (fun k=>g (s+k)) c<=vJ g d s:=fun g c d s Z hc=>by
     refine Int.le_trans ?_ (MG Z s d)
     have:∀n:Nat,c<=n->Zd (fun k=>g (s+k)) c<=Zd (fun k=>g (s+k)) n:=fun n=>by
       induction n with
       |zero=>intro h;rw [show c=0 by omega];exact Int.le_refl _
       | succ n ih=>
         intro h
         by_cases e:c=n+1
         · rw [e];exact Int.le_refl _
         · have:=ih Oa;have:=Z (s+n);simp only [Zd];omega
     exact this (d+1) Oa
   refine⟨fun hw=> ?_,fun hw W hD=> ?_⟩
   {
   have D:least w i=0:=by unfold least;rw [if_neg Oa]
   rw [D,Int.sub_zero]
   have I:Zd (fun k=>YX (fun x=>f (Zd x p.m.toNat)) (kid p w i a l (0+k))) (most p i l+1).toNat<=Zd (fun k=>vJ f (tl p (i+1)) (Zd a i.toNat+k)) (most p i l+1).toNat:=Yb fun k N J=>by
     have:=(VA F (w:=w) hf j (i:=i+1) (l:=l-(0+k)*(p.L i+p.aV)) (a:=upd a i (0+k)) Oa Oa Oa (U (0+k) Oa Oa)).1 Oa
     rw [Y,Int.zero_add] at this
     unfold kid;rw [Int.zero_add];exact this
   refine Int.le_trans I (Int.le_trans (O _ _ (p.D i).toNat _ (RS hf _) Oa) ?_)
   rw [TP,<-ff];exact Int.le_refl _}
   {
   by_cases e:w=i
   {
   subst e
   have D:least w w=1:=by unfold least;rw [if_pos rfl]
   rw [D]
   have I:Zd (fun k=>YX (fun x=>f (Zd x p.m.toNat)) (kid p w w a l (1+k))) (most p w l+1-1).toNat<=Zd (fun k=>vJ f (tl p (w+1)) (Zd a w.toNat+1+k)) (most p w l+1-1).toNat:=Yb fun k N J=>by
     have:=(VA F (w:=w) hf j (i:=w+1) (l:=l-(1+k)*(p.L w+p.aV)) (a:=upd a w (1+k)) Oa Oa Oa (U (1+k) Oa Oa)).1 Oa
     rw [Y,show Zd a w.toNat+(1+k)=Zd a w.toNat+1+k by omega] at this
     unfold kid;exact this
   refine Int.le_trans I (Int.le_trans (O _ _ ((p.D w).toNat-1) _ (RS hf _) Oa) ?_)
   rw [TP,show tl p (w+1)+((p.D w).toNat-1)=tl p w-1 by omega];exact Int.le_refl _}
   {
   have D:least w i=0:=by unfold least;rw [if_neg e]
   rw [D,Int.sub_zero]
   have aa:1<=tl p (i+1):=by
     have h7:=Vo F (w-(i+1)).toNat (i:=i+1) Oa Oa
     rw [show i+1+((w-(i+1)).toNat:Int)=w by omega] at h7
     have h8:=ZI p.D (i:=w) Oa
     have h9:=Vo F (p.m-(w+1)).toNat (i:=w+1) Oa Oa
     rw [show w+1+((p.m-(w+1)).toNat:Int)=p.m by omega] at h9
     unfold tl ZL;omega
   have I:Zd (fun k=>YX (fun x=>f (Zd x p.m.toNat)) (kid p w i a l (0+k))) (most p i l+1).toNat<=Zd (fun k=>vJ f (tl p (i+1)-1) (Zd a i.toNat+1+k)) (most p i l+1).toNat:=Yb fun k N J=>by
     have:=(VA F (w:=w) hf j (i:=i+1) (l:=l-(0+k)*(p.L i+p.aV)) (a:=upd a i (0+k)) Oa Oa Oa (U (0+k) Oa Oa)).2 Oa W hD
     rw [Y,Int.zero_add,show Zd a i.toNat+k+1=Zd a i.toNat+1+k by omega] at this
     unfold kid;rw [Int.zero_add];exact this
   refine Int.le_trans I (Int.le_trans (O _ _ (p.D i).toNat _ (RS hf _) Oa) ?_)
   rw [TP,show tl p (i+1)-1+(p.D i).toNat=tl p i-1 by omega];exact Int.le_refl _}}
theorem Y6{p:cO}(h:p.Ok)(w0:0<=w)(D:w<p.m)(F:1<=p.D w)(hf:∀s,0<=f s):YX (fun x=>f (Zd x p.m.toNat)) (MX p w)<=vJ f ((ZL p).toNat-1) 1:=by
 have:=(VA h hf _ (w:=w) (a:=fun _=>0) rfl (Int.le_refl 0) (by have:=h.m1;omega) (show 0<=p.bP+p.aV by have:=h.s1;have:=h.k1;omega)).2 w0 D F
 rw [Zju] at this
 simpa [MX,Zd] using this
def Gn(n:Int):Int:=if n<0 then 0 else [1,2,4,10,30,104,406].getD n.toNat 0
theorem Ox(n:Int):0<=Gn n:=by
 unfold Gn;split
 · omega
 {
 rw [List.getD_eq_getElem?_getD]
 cases h: [(1:Int),2,4,10,30,104,406][n.toNat]? with
 |none=>simp
 | some x=>
   have:=List.mem_of_getElem? h
   simp at this;simp;omega}
theorem six{P:Int->Prop}(h1:P 1)(J:P 2)(I:P 3)(F:P 4)(D:P 5)(h:P 6):∀n:Int,1<=n->n<=6->P n:=fun n a b=>by
 have:n=1\/n=2\/n=3\/n=4\/n=5\/n=6:=Oa
 rcases this with rfl|rfl|rfl|rfl|rfl|rfl<;>assumption
theorem ZqU:∀n:Int,1<=n->n<=6->1+vJ (fun s=>Gn (n-s)) (n.toNat-1) 1<=Gn n:=six (by decide) (by decide) (by decide) (by decide) (by decide) (by decide)
theorem I_:∀n:Int,0<=n->n<=6->1<=Gn n/\Gn n<=406:=fun n a b=>by
 by_cases e:n=0
 · subst e;decide
 · exact six (P:=fun n=>1<=Gn n/\Gn n<=406) (by decide) (by decide) (by decide) (by decide) (by decide) (by decide) n Oa b
theorem ZjV:∀n:Int,1<=n->n<=6->vJ (fun _=>1) (n.toNat-1) 1<=100:=six (by decide) (by decide) (by decide) (by decide) (by decide) (by decide)
theorem KH{α:Type}:∀l:List α,YX (fun _=>(1:Int)) l=l.length
 | []=>rfl
 |a::l=>by have:=KH l;simp only [YX,List.map_cons,List.sum_cons,List.length_cons] at*;omega
theorem O1{p:cO}(h:p.Ok)(w0:0<=w)(F:w<p.m)(N:1<=p.D w)(hn:ZL p<=6):((MX p w).length:Int)<=100/\1<=ZL p:=by
 have h1:1<=ZL p:=by
   have:=Xm (f:=p.D) (n:=p.m.toNat) w0 Oa (fun i I O=>by
     have J:=h.all i I Oa
     unfold cO.each at J;omega)
   unfold ZL;omega
 refine⟨?_,h1⟩
 have D:=Y6 h w0 F N (f:=fun _=>1) (fun _=>Oa)
 rw [KH] at D
 exact Int.le_trans D (ZjV _ h1 hn)
theorem KG(f:(Of)->Int):∀l:List (Of),Zd (fun k=>f (Yi l k)) l.length=YX f l
 | []=>rfl
 | a::l=>by
   rw [List.length_cons,VN]
   have e:Zd (fun i=>f (Yi (a::l) (i+1))) l.length=Zd (fun i=>f (Yi l i)) l.length:=Zh fun i D h=>by
     unfold Yi;rw [show(i+1).toNat=i.toNat+1 by omega];rfl
   rw [e,KG f l];simp [YX,Yi]
end Go.Proofs.Gw
namespace Go.Proofs.Gw
open Go Go.RowKit
variable {w:World}
def Tr.zJ(E T:TypeId):Tr->Frame| .nil=>Frame.rG []| .mk s vK n kid vL nl l=>Frame.rG [.own vK 3 E n (YU kid),.own vL 1 T nl (ints l),.sem (Frame.all n fun i=>(kid i).zJ E T)]
def Ta:Tr->Prop
  | .nil=>True
  | .mk s vK n kid vL nl l=>((-9223372036854775808<=s/\s<=9223372036854775807)/\56*n<=140737488351232/\∀k,-9223372036854775808<=l k/\l k<=9223372036854775807)/\∀i,0<=i->i<n->Ta (kid i)
theorem Tr.CG{E T:TypeId}:∀t:Tr,Ta t->(t.zJ E T).holds w->uJ w t/\o8 w t:=Tr.ind fun t N hr hf=>by
 cases t with
 |nil=>exact⟨trivial,trivial⟩
 | mk s vK n kid vL nl l=>
   have F:(Frame.rG [.own vK 3 E n (YU kid),.own vL 1 T nl (ints l),.sem (Frame.all n fun i=>(kid i).zJ E T)]).holds w:=hf
   have g1:=F.1 _ (List.mem_cons_self ..)
   have U:=F.1 _ (List.mem_cons_of_mem _ (List.mem_cons_self ..))
   have O:=F.1 (.sem _) (List.mem_cons_of_mem _ (List.mem_cons_of_mem _ (List.mem_cons_self ..)))
   have I:((-9223372036854775808<=s/\s<=9223372036854775807)/\56*n<=140737488351232/\∀k,-9223372036854775808<=l k/\l k<=9223372036854775807)/\∀i,0<=i->i<n->Ta (kid i):=hr
   obtain⟨⟨Z,Y,W⟩,J⟩:=I
   refine⟨⟨⟨g1.row,Y⟩,fun i D h=>(N i D h (J i D h) (O.1 i D h)).1⟩,⟨⟨U.row,W⟩,iO.holds.roomy U,Z⟩,fun i D h=>(N i D h (J i D h) (O.1 i D h)).2⟩
theorem Sat.Ed{w0:World}{l:List iO}{E T:TypeId}{v vL:Value}{n nl:Int}{kid:Int->Tr}{f:Of}(h:Sat w0 w (l++ [.own v 3 E n (YU kid),.own vL 1 T nl (ints f),.sem (Frame.all n fun i=>(kid i).zJ E T)]))(s:Int):Sat w0 w (l++ [.sem ((Tr.mk s v n kid vL nl f).zJ E T)]):=by
 exact h.bundle (l2:= [.own v 3 E n (YU kid),.own vL 1 T nl (ints f),.sem (Frame.all n fun i=>(kid i).zJ E T)])
theorem Sat.sJ{w0:World}{l:List iO}(h:Sat w0 w l)(E T:TypeId):Sat w0 w (l++ [.sem (Tr.nil.zJ E T)]):=by
 refine h.comp (m:= [.sem (Tr.nil.zJ E T)]) ⟨Below.refl _ _,?_,?_,List.pairwise_singleton _ _⟩
 · intro e D;obtain rfl:=List.mem_singleton.1 D;exact⟨fun e D=>(by cases D),List.Pairwise.nil⟩
 · intro e D g F;obtain rfl:=List.mem_singleton.1 D;obtain⟨e,D,_⟩:=F;cases D
end Go.Proofs.Gw
namespace Go.Proofs.YtpnamgfdakfccaaGreat
open Go Go.RowKit Go.Proofs.Gw
variable {C b c e i lf m wi:Int} {cnt ln tV qm:Of} {pt tN:Og}
def B_(p:cO)(u:Int)(ln:Of)(pt:Og)(cnt:Of):Prop:=nM p u ln pt cnt/\∀j,0<=j->j<p.m->p.D j<=ZJ u pt cnt j
def wH(u:Int)(cnt:Of):Int:=jT (fun _=>1) cnt u.toNat
def FQ(p:cO):Prop:=p.Ok/\∀j,0<=j->j<p.m->p.D j<=0
theorem VM(p:cO):jT (fun _=>1) p.D p.m.toNat=ZL p:=by
 rw [Vr];exact Zh fun i _ _=>by rw [Int.one_mul]
theorem _D{p:cO}(J:p.Ok)(h:1<=ZL p):∃w,0<=w/\w<p.m/\1<=p.D w:=by
 obtain⟨k,F,I,D⟩:=Kj (f:=p.D) (n:=p.m.toNat) h
 exact⟨k,F,Oa,D⟩
theorem yh.tot{p:cO}{out:Us}(h:yh p out e)(D:p.Ok):(e=0->ZL p<=1000)/\(ZL p<=1000->e=0):=by
 have hc:∀{l:Us} {e:Int},xQ p l e->(e=0->ZL p<=1000)/\(ZL p<=1000->e=0):=fun {l e} hf=>by
   have h1:=hf.1
   unfold Gz at h1
   rw [VM] at h1
   rcases h1 with⟨g,_⟩|⟨_,g1,g2⟩|⟨_,g1,g2⟩
   · exact absurd D g
   · exact⟨fun _=>Oa,fun _=>Oa⟩
   · exact⟨fun _=>Oa,fun _=>Oa⟩
 rcases h with⟨h1,h2,_⟩|⟨h1,l,h2,_⟩
 · exact hc h2
 · have:=hc h2;exact⟨fun _=>this.1 rfl,fun _=>h1⟩
theorem yh.meets{p:cO}{n:Int}(h:yh p (nY n ln pt cnt) e)(D:p.Ok)(W:e=0)(n0:0<=n):B_ p n ln pt cnt/\wH n cnt<=ZL p:=by
 have ht:=(yh.tot h D).1 W
 have F:Dt p (nY n ln pt cnt):=by
   rcases h with⟨h1,_⟩|⟨_,l,h2,u,ml,mf,s,ec,u0,hc,h3⟩
   · exact absurd W h1
   {
   have U:=h2.ex D rfl
   rcases h3 with⟨_,h4⟩|⟨_,h3⟩
   · rw [h4];exact U
   {
   rcases h3 with⟨h4,_⟩|⟨h4,_⟩|⟨_,x,f,y,g,F,hy,I⟩
   · omega
   · omega
   · rw [I];exact _T (_T U F.ex) hy.ex}}
 obtain⟨⟨g1,g2,O⟩,g4⟩:=F.sound D (by rw [VM];exact ht) n0
 refine⟨⟨⟨g1,g2,fun k N J=>⟨(O k N J).2.1,(O k N J).2.2,(O k N J).1⟩⟩,fun j Z Y=> ?_⟩,?_⟩
 {
 have:=g4 j Z Y
 rw [MO] at this
 unfold ZJ;omega}
 {
 have I:=F.few
 rw [VM,Ya _ n0] at I
 exact I}
def JA(p:cO)(b u:Int)(ln:Of)(pt:Og)(cnt:Of)(ok:Prop):Prop:=(ok->B_ p u ln pt cnt/\wH u cnt<=b)/\(ZL p<=b->ok)
theorem Zak{p:cO}{y z:Of}:∀(j:Nat),(∀i,0<=i->i<(j:Int)->y i=z i)->Tab p y j=Tab p z j
 |0,_=>rfl
 | j+1,h=>by
   funext c
   have:=Zak (p:=p) j fun i D F=>h i D Oa
   simp only [Tab]
   rw [this,h j Oa Oa]
theorem ZfY{p:cO}{n q:Int}{y z:Of}(hn:n=p.m->∀i,0<=i->i<p.m->y i=z i)(h:vH p n y q=0):vH p n z q=0/\Xe p n z q=Xe p n y q:=by
 obtain⟨J,hf,N,W⟩:=Gw.U5 h
 have D:=hn N
 have Y:=J.m1
 have h1:vH p n z q=0:=by
   refine JC J ⟨hf.1,hf.2.1,fun k I O=>by rw [<-D k I Oa];exact hf.2.2 k I O⟩ N ?_
   unfold VK at W⊢
   rw [<-Zak (y:=y) p.m.toNat fun i F U=>D i F Oa]
   omega
 refine⟨h1,?_⟩
 rw [Yl h1,Yl h]
 unfold Hr
 rw [WS,WS,Zh (f:=fun i=>p.D i*z i) (g:=fun i=>p.D i*y i) fun i F U=>by rw [D i F Oa]]
def Dj(m q:Int)(y:Of):Of:=fun k=>if 0<=k/\k<=m then FU q y k else 0
def Nk(p:cO)(b n:Int)(l:Of)(ok:Prop):Prop:=(ok->To p b n l/\n<=40/\∀k,ZO (l k))/\(b=0->1<=ZL p->ok)
def Ip(p:cO)(c:Ct)(m:Int):Prop:=m<0\/(vH p c.n c.y c.q=0/\m=Xe p c.n c.y c.q)
theorem VU{p:cO}{b c I:Ct}{D:Int}(h:Ip p b m)(F:(I,D)=Va p (b,m) c e):Ip p I D/\m<=D/\(e=0->vH p c.n c.y c.q=0->Xe p c.n c.y c.q<=D):=by
 by_cases hc:e=0/\vH p c.n c.y c.q=0/\m<Xe p c.n c.y c.q
 {
 rw [<-KA hc.1 hc.2.1 hc.2.2] at F
 obtain⟨rfl,rfl⟩:=Prod.mk.inj F
 exact⟨.inr ⟨hc.2.1,rfl⟩,Oa,fun _ _=>Int.le_refl _⟩}
 {
 rw [<-Uk hc] at F
 obtain⟨rfl,rfl⟩:=Prod.mk.inj F
 refine⟨h,Int.le_refl _,fun h1 J=> ?_⟩
 apply Classical.byContradiction;intro N
 exact hc ⟨h1,J,Oa⟩}
theorem KF{p:cO}(h:p.Ok):∀(j:Nat),(j:Int)<=p.m->∀c,0<=c->Tab p (fun k=>p.L k+p.aV) j c<=c
 |0,_,c,hc=>hc
 | j+1,hj,c,hc=>by
   have F:=h.all j Oa Oa
   unfold cO.each at F
   have I:=h.k1
   simp only [Tab]
   obtain⟨n,N,J,D⟩:=EZ (Tab p (fun k=>p.L k+p.aV) j) (p.L j+p.aV) (p.L j+p.aV) (p.D j).toNat c hc
   rw [D]
   have:=KF h j Oa (c-n*(p.L j+p.aV)) Oa
   omega
theorem QL{p:cO}(h:p.Ok):vH p (Um p).n (Um p).y (Um p).q=0:=by
 have h1:=h.s1;have U:=h.s2;have O:=h.k1;have N:=h.k2;have J:=h.m1
 refine JC h ⟨by show 1<=p.bP+p.aV;omega,by show p.bP+p.aV<=_;omega,fun k F D=> ?_⟩ rfl ?_
 {
 have I:=h.all k F D
 unfold cO.each at I
 show 0<=p.L k+p.aV/\p.L k+p.aV<=_
 omega}
 {
 have:=KF h p.m.toNat Oa (p.bP+p.aV) Oa
 show¬p.bP+p.aV<VK p fun k=>p.L k+p.aV
 unfold VK;omega}
theorem Zj1{p:cO}(D:p.Ok)(h:1<=ZL p):1<=Xe p (Um p).n (Um p).y (Um p).q:=by
 rw [Yl (QL D)]
 obtain⟨w,w0,J,I⟩:=_D D h
 have h1:=D.s1;have Y:=D.k1
 have W:1<=Tot p.D (Um p).y p.m.toNat:=by
   rw [WS]
   have:=Xm (f:=fun i=>p.D i*(p.L i+p.aV)) (n:=p.m.toNat) w0 Oa fun i N O=>by
     have F:=D.all i N Oa;unfold cO.each at F
     exact Int.mul_nonneg Oa Oa
   have F:=D.all w w0 J
   unfold cO.each at F
   have U:1*1<=p.D w*(p.L w+p.aV):=Int.mul_le_mul I Oa Oa Oa
   show 1<=Zd (fun i=>p.D i*(p.L i+p.aV)) p.m.toNat
   omega
 show 1<=(Tot p.D (Um p).y p.m.toNat+(p.bP+p.aV)-1).tdiv (p.bP+p.aV)
 rw [Int.tdiv_eq_ediv_of_nonneg Oa]
 exact(Int.le_ediv_iff_mul_le Oa).2 Oa
theorem Bo.good{p:cO}{c:Ct}(h:Bo p c m e)(I:p.Ok):e=0/\Ip p c m/\(1<=ZL p->1<=m):=by
 rcases h with⟨g,_⟩|⟨_,he,c1,e1,c2,e2,c3,e3,h1,h2,h3,h4⟩
 · exact absurd I g
 {
 refine⟨he,?_⟩
 obtain⟨W,N,F⟩:∃b m,(b,m)=Va p (Ct.wu,-1) c1 e1:=⟨_,_,rfl⟩
 rw [<-F] at h4
 obtain⟨Z,Y,D⟩:∃b m,(b,m)=Va p (W,N) c2 e2:=⟨_,_,rfl⟩
 rw [<-D] at h4
 have U:=VU (.inl Oa) F
 have J:=VU U.1 D
 have O:=VU J.1 h4
 refine⟨O.1,fun hn=> ?_⟩
 rcases h2 with⟨g,_⟩|⟨_,rfl,rfl⟩
 · exact absurd I g
 {
 have:=J.2.2 rfl (QL I)
 have:=Zj1 I hn
 omega}}
theorem Zj7{p:cO}{n:Int}{c:Ct}(D:YB p b)(h:Ip p c m)(hb:b<m)(hn:n=c.n+1):To p b n (Dj c.n c.q c.y)/\n<=40/\∀k,ZO (Dj c.n c.q c.y k):=by
 have Y:=D.2.1
 rcases h with h|⟨h1,h2⟩
 · omega
 {
 obtain⟨I,hf,he,_⟩:=Gw.U5 h1
 have W:=I.m1;have U:=I.m2
 have F:Dj c.n c.q c.y 0=c.q:=by unfold Dj FU;rw [if_pos ⟨by omega,Oa⟩,if_pos Oa]
 have N:∀k,0<=k->k<c.n->Dj c.n c.q c.y (k+1)=c.y k:=fun k k0 Z=>by
   unfold Dj FU;rw [if_pos ⟨by omega,Oa⟩,if_neg Oa,show k+1-1=k by omega]
 have J:=ZfY (z:=fun k=>Dj c.n c.q c.y (k+1)) (fun _ i O i1=>(N i O Oa).symm) h1
 refine⟨⟨D,Oa,?_,?_⟩,Oa,fun k=> ?_⟩
 · rw [F,show n-1=c.n by omega];exact J.1
 · rw [F,show n-1=c.n by omega,J.2];omega
 {
 unfold ZO
 by_cases hk:0<=k/\k<=c.n
 {
 by_cases hk0:k=0
 · rw [hk0,F];have:=hf.1;have:=hf.2.1;omega
 · have:=N (k-1) Oa Oa
   rw [show k-1+1=k by omega] at this
   rw [this];have:=hf.2.2 (k-1) Oa Oa;omega}
 · unfold Dj;rw [if_neg hk];omega}}
def Vk(p:cO)(b c:Int)(t:Tr)(u:Int)(ln:Of)(pt:Og)(cnt:Of)(ok:Prop)(lf:Int):Prop:=
  1<=c/\(ZL p<=6->c<=Gn (ZL p))/\(¬ok->DL t/\u=0/\(ZL p<=6->lf<0))/\
  (ok->(DL t/\B_ p u ln pt cnt/\wH u cnt<=b)\/(u=0/\AX t p b=none/\(0<t.n\/0<t.nl)/\(t.ok/\Ta t)/\(ZL p<=6->t.nodes=c/\t.depth<=ZL p+1)))
theorem Yo:DL Tr.nil:=⟨rfl,rfl,rfl⟩
theorem Ty{p:cO}(D:p.Ok):ZL p<=6->1<=Gn (ZL p):=fun h=>(I_ _ (Wq D).1 h).1
theorem ZjB{p:cO}(D:p.Ok)(h:lf<0):Vk p b 1 .nil 0 ln pt cnt False lf:=
 ⟨Int.le_refl _,Ty D,fun _=>⟨Yo,rfl,fun _=>h⟩,fun h=>h.elim⟩
theorem ZjD{p:cO}{u:Int}{ok:Prop}(D:p.Ok)(h:JA p b u ln pt cnt ok)(F:ok):Vk p b 1 .nil u ln pt cnt True lf:=
 ⟨Int.le_refl _,Ty D,fun h=>absurd trivial h,fun _=> .inl ⟨Yo,h.1 F⟩⟩
theorem ZgD{x:Int}(h:ZO x): -9223372036854775808<=x/\x<=9223372036854775807:=by unfold ZO at h;omega
theorem Zgy{p:cO}{nl:Int}{l:Of}{vK vL:Value}{kid:Int->Tr}{ok:Prop}(D:p.Ok)(h:Nk p b nl l ok)(N:ok):Vk p b 1 (.mk 0 vK 0 kid vL nl l) 0 ln pt cnt True lf:=by
 obtain⟨h1,O,F⟩:=h.1 N
 refine⟨Int.le_refl _,Ty D,fun h=>absurd trivial h,fun _=> .inr ⟨rfl,ZbK rfl h1,.inr ?_,⟨⟨⟨by show ZO 0;unfold ZO;omega,by show(0:Int)<=100;omega,O,.inl rfl,fun _=>rfl,fun k _ _=>F k⟩,fun i J I=>Oa⟩,⟨⟨by omega,Oa,fun k=>ZgD (F k)⟩,fun i J I=>Oa⟩⟩,fun hn=> ?_⟩⟩
 · have:=h1.2.1;show 0<nl;omega
 {
 have:=(Wq D).1
 refine⟨rfl,?_⟩
 show IntKind.i64.wrap (0+1)<=_
 have:IntKind.i64.wrap (0+1)=1:=by decide
 omega}
theorem Zb1{p:cO}{O nl:Int}{l:Of}{ok1 ok2:Prop}(D:YB p b)(h1:JA p b O tV tN qm ok1)(n1:¬ok1)(Y:Nk p b nl l ok2)(n2:¬ok2)(W:∀wi,ZS p b wi->100<Zn p b wi):Vk p b 1 .nil 0 ln pt cnt False lf:=by
 have F:=D.1
 refine⟨Int.le_refl _,Ty F,fun _=>⟨Yo,rfl,fun hn=> ?_⟩,fun h=>h.elim⟩
 exfalso
 have h4:¬ZL p<=b:=fun h=>n1 (h1.2 h)
 have U:=D.2.1
 have h5:b≠0:=fun h=>n2 (Y.2 h Oa)
 obtain⟨w,w0,I,N⟩:=_D F Oa
 have Z:=(O1 F w0 I N hn).1
 have J:ZS p b w:=⟨D,Oa,⟨w0,I⟩,Oa,Oa⟩
 have:=W w J
 rw [YT J] at this
 omega
theorem Vv{p:cO}(h:ZS p b wi)(I:0<=i)(F:i<Zn p b wi):ZL (Z9 p wi i)=ZL p-Zd (Yi (MX p wi) i) p.m.toNat/\1<=Zd (Yi (MX p wi) i) p.m.toNat:=by
 obtain⟨h1,O⟩:=Uj h I F
 have e:Zd (fun j=>p.D j-Yi (MX p wi) i j) p.m.toNat+Zd (Yi (MX p wi) i) p.m.toNat=Zd p.D p.m.toNat:=by
   rw [<-Vn];exact Zh fun j _ _=>Oa
 have N:=Xm (f:=Yi (MX p wi) i) (n:=p.m.toNat) h.2.2.1.1 (by have:=h.2.2.1.2;omega) fun j D J=>(h1.rng j D Oa).1
 refine⟨?_,Oa⟩
 show Zd (fun j=>p.D j-Yi (MX p wi) i j) p.m.toNat=Zd p.D p.m.toNat-_
 omega
theorem _O{p:cO}(h:ZS p b wi)(hn:ZL p<=6):1+Zd (fun k=>Gn (ZL (Z9 p wi k))) (Zn p b wi).toNat<=Gn (ZL p):=by
 have F:=h.1.1
 obtain⟨w0,D⟩:=h.2.2.1
 have I:1<=p.D wi:=by have O:=F.all wi w0 D;unfold cO.each at O;have:=h.2.2.2.1;omega
 have h1:=(O1 F w0 D I hn).2
 have Y:=Y6 F w0 D I (f:=fun s=>Gn (ZL p-s)) fun s=>Ox _
 have W:=ZqU _ h1 hn
 have U:Zd (fun k=>Gn (ZL (Z9 p wi k))) (Zn p b wi).toNat=YX (fun x=>Gn (ZL p-Zd x p.m.toNat)) (MX p wi):=by
   rw [<-KG,YT h,Int.toNat_natCast]
   exact Zh fun k N J=>by rw [(Vv h N (by rw [YT h];exact J)).1]
 omega
theorem Zfv{p:cO}(h:ZS p b wi)(hn:ZL p<=6)(J:0<=i)(I:i<=Zn p b wi):1+Zd (fun k=>Gn (ZL (Z9 p wi k))) i.toNat<=Gn (ZL p):=by
 have h1:=_O h hn
 have F:∀c:Nat,Zd (fun k=>Gn (ZL (Z9 p wi k))) i.toNat<=Zd (fun k=>Gn (ZL (Z9 p wi k))) (i.toNat+c):=fun c=>by
   induction c with
   |zero=>exact Int.le_refl _
   |succ c ih=>have:=Ox (ZL (Z9 p wi ((i.toNat+c:Nat):Int)));show _<=Zd (fun k=>Gn (ZL (Z9 p wi k))) (i.toNat+c)+Gn (ZL (Z9 p wi ((i.toNat+c:Nat):Int)));omega
 have D:=F (Zn p b wi-i).toNat
 rw [show i.toNat+(Zn p b wi-i).toNat=(Zn p b wi).toNat by omega] at D
 omega
structure wI (p:cO) (b wi i C:Int) (kd:Int->Tr):Prop where
  one:1<=C
  few:ZL p<=6->C<=1+Zd (fun k=>Gn (ZL (Z9 p wi k))) i.toNat
  all:∀k,0<=k->k<i->AX (kd k) (Z9 p wi k) (b-1)=none/\(kd k).ok/\Ta (kd k)
  cnt:ZL p<=6->UJ (fun k=>(kd k).nodes) i.toNat=C/\0<=VW (fun k=>(kd k).depth) i.toNat/\VW (fun k=>(kd k).depth) i.toNat<=ZL p
theorem wI.start{p:cO}(h:p.Ok)(kd:Int->Tr):wI p b wi 0 1 kd:=
 ⟨Int.le_refl _,fun _=>by simp [Zd],fun k F D=>Oa,fun _=>⟨rfl,Int.le_refl _,(Wq h).1⟩⟩
theorem wI.calls{p:cO}{kd:Int->Tr}{t:Tr}{u:Int}{ok:Prop}(h:wI p b wi i C kd)(F:ZS p b wi)(D:0<=i)(I:i<Zn p b wi)(hc:Vk (Z9 p wi i) (b-1) c t u ln pt cnt ok lf)(hn:ZL p<=6):C+c<=1+Zd (fun k=>Gn (ZL (Z9 p wi k))) (i+1).toNat/\C+c<=Gn (ZL p):=by
 have h1:=Vv F D I
 have U:=hc.2.1 Oa
 have O:=h.few hn
 have N:=ZI (fun k=>Gn (ZL (Z9 p wi k))) D
 have J:=Zfv F hn (i:=i+1) Oa Oa
 omega
theorem wI.next{p:cO}{kd:Int->Tr}{t:Tr}{u:Int}{ok:Prop}(h:wI p b wi i C kd)(F:ZS p b wi)(D:0<=i)(J:i<Zn p b wi)(hc:Vk (Z9 p wi i) (b-1) c t u ln pt cnt ok lf)(ho:ok)(W:¬(0<u\/(t.n=0/\t.nl=0/\FQ (Z9 p wi i)))):wI p b wi (i+1) (C+c) (lD kd i t):=by
 have N:AX t (Z9 p wi i) (b-1)=none/\(t.ok/\Ta t)/\(ZL (Z9 p wi i)<=6->t.nodes=c/\t.depth<=ZL (Z9 p wi i)+1):=by
   rcases hc.2.2.2 ho with⟨g1,g2,g3⟩|⟨g1,g2,g3,g4,g5⟩
   {
   exfalso
   have U:¬0<u:=fun U=>W (.inl U)
   refine W (.inr ⟨g1.2.2,g1.2.1,g2.1.1,fun j j0 j1=> ?_⟩)
   have:=g2.2 j j0 j1
   unfold ZJ at this
   rw [show u.toNat=0 by omega] at this
   exact this}
   · exact⟨g2,g4,g5⟩
 have aa:=hc.1
 have h1:=h.one
 refine⟨by omega,fun hn=>(h.calls F D J hc hn).1,fun k I O=> ?_,fun hn=> ?_⟩
 {
 by_cases e:k<i
 · rw [Zl e];exact h.all k I e
 · rw [Zo e,show k=i by omega];exact⟨N.1,N.2.1⟩}
 {
 obtain⟨Z,q2,q3⟩:=h.cnt hn
 have q4:=Vv F D J
 obtain⟨Y,q6⟩:=N.2.2 Oa
 have q7:=(h.calls F D J hc hn).2
 have q8:=I_ (ZL p) (Wq F.1.1).1 hn
 have e1:UJ (fun k=>(lD kd i t k).nodes) i.toNat=UJ (fun k=>(kd k).nodes) i.toNat:=TY fun k I O=>by rw [Zl Oa]
 have e2:VW (fun k=>(lD kd i t k).depth) i.toNat=VW (fun k=>(kd k).depth) i.toNat:=Rq fun k I O=>by rw [Zl Oa]
 rw [Ki _ D,KE _ D,e1,e2,Z,YP,Y]
 refine⟨I64.wrap (by unfold I64;omega),Oa,Oa⟩}
theorem Zjz{p:cO}{kd:Int->Tr}{t:Tr}{u:Int}{ok:Prop}(h:wI p b wi i C kd)(I:ZS p b wi)(F:0<=i)(D:i<Zn p b wi)(hc:Vk (Z9 p wi i) (b-1) c t u ln pt cnt ok lf)(J:¬ok):Vk p b (C+c) .nil 0 tV tN qm False lf:=by
 have h1:=h.one;have N:=hc.1
 refine⟨by omega,fun hn=>(h.calls I F D hc hn).2,fun _=>⟨Yo,rfl,fun hn=> ?_⟩,fun h=>h.elim⟩
 have:=Vv I F D
 exact(hc.2.2.1 J).2.2 Oa
theorem ZfO{p:cO}{n:Int}{f:Of}(D:p.Ok)(h:nN (Z9 p wi i) n f):nN p n f:=⟨D,h.eq,h.all,h.used⟩
theorem W9{f d g e:Of}:∀n:Nat,(∀k,0<=k->k<(n:Int)->f k=g k/\d k=e k)->jT f d n=jT g e n
 |0,_=>rfl
 | n+1,h=>by
   have h1:=W9 n fun k D J=>h k D Oa
   obtain⟨I,F⟩:=h n Oa Oa
   simp only [jT];rw [h1,I,F]
theorem Zgw{p:cO}{kd:Int->Tr}{t:Tr}{u:Int}{ok:Prop}{x:Of}(h:wI p b wi i C kd)(I:ZS p b wi)(i0:0<=i)(i1:i<Zn p b wi)(hc:Vk (Z9 p wi i) (b-1) c t u ln pt cnt ok lf)(ho:ok)(hm:0<u\/(t.n=0/\t.nl=0/\FQ (Z9 p wi i)))(u0:0<=u){m9:Int}(Z:m9=p.m)(O:∀j,0<=j->j<p.m->x j=Yi (MX p wi) i j):Vk p b (C+c) .nil (u+1) (lD ln u m9) (lD pt u x) (snoc cnt u 1) True lf/\u<1000:=by
 subst Z
 have h1:=h.one;have h2:=hc.1
 have W:=I.1.1
 obtain⟨m1,m2⟩:=Uj I i0 i1
 have ad:=I.1.2.2
 have U:B_ (Z9 p wi i) u ln pt cnt/\wH u cnt<=b-1:=by
   rcases hc.2.2.2 ho with⟨g1,g2,g3⟩|⟨g1,g2,g3,g4,g5⟩
   · exact⟨g2,g3⟩
   · exfalso;omega
 obtain⟨⟨⟨_,J,k2⟩,k3⟩,k4⟩:=U
 have ab:u<=wH u cnt:=by
   have:∀n:Nat,(n:Int)<=u->(n:Int)<=jT (fun _=>1) cnt n:=fun n=>by
     induction n with
     |zero=>intro _;simp [jT]
     | succ n ih=>
       intro hn
       have a1:=ih Oa
       have a2:=(k2 n Oa Oa).1
       simp only [jT];omega
   have a3:=this u.toNat Oa
   unfold wH;omega
 have aa:nN p p.m x:=by
   refine KV W (fun j F D=>by rw [O j F D];exact(m1.rng j F D).1) ?_
   rw [Zjq O];exact m1.used
 have Y:∀j,ZJ (u+1) (lD pt u x) (snoc cnt u 1) j=ZJ u pt cnt j+x j:=fun j=>by
   rw [XP u0]
   have e:ZJ u (lD pt u x) (snoc cnt u 1) j=ZJ u pt cnt j:=W9 _ fun k N J=>⟨by show lD pt u x k j=_;rw [Zl Oa],Zt Oa⟩
   rw [e,YP,Zu Oa];omega
 have ac:wH (u+1) (snoc cnt u 1)=wH u cnt+1:=by
   unfold wH
   rw [YW _ _ u0,Zu Oa,W9 (g:=fun _=>1) (e:=cnt) u.toNat fun k N J=>⟨rfl,Zt Oa⟩]
   omega
 refine⟨⟨by omega,fun hn=>(h.calls I i0 i1 hc hn).2,fun h=>absurd trivial h,fun _=> .inl ⟨Yo,⟨⟨W,Oa,fun k N J=> ?_⟩,fun j F D=> ?_⟩,Oa⟩⟩,Oa⟩
 {
 by_cases e:k<u
 {
 rw [Zl e,Zl e,Zt e]
 obtain⟨a1,a2,a3⟩:=k2 k N e
 exact⟨a1,a2,ZfO W a3⟩}
 · rw [Zo e,Zo e,Zu e]
   exact⟨by omega,Oa,aa⟩}
 {
 rw [Y,O j F D]
 have:=k3 j F D
 have e:(Z9 p wi i).D j=p.D j-Yi (MX p wi) i j:=rfl
 omega}
theorem P5{f:Int->Option (List Int)}:∀(c:Nat) (i:Int),(∀k,i<=k->k<i+c->f k=none)->fw f c i=none
 |0,_,_=>rfl
 | c+1,i,h=>by
   unfold fw
   rw [h i Oa Oa]
   exact P5 c (i+1) fun k F D=>h k Oa Oa
theorem ZgB{p:cO}(h:ZS p b wi):1<=Zn p b wi:=by
 have F:=h.1.1
 obtain⟨w0,D⟩:=h.2.2.1
 have O:=F.all wi w0 D
 unfold cO.each at O
 have N:ZD p (fun _=>0) p.m.toNat=0:=by
   unfold ZD
   rw [Zh (g:=fun _=>0) fun i J I=>by simp]
   exact ZH _
 have h1:=TU (p:=p) (f:=fun _=>0) w0 (n:=p.m.toNat) Oa
 have hf:nN p p.m (upd (fun _=>0) wi (0+1)):=KV F (fun j Y W=>by by_cases e:j=wi;(rw [e,Gw.Zp];omega);(rw [Gw.upd_ne _ _ e];exact Int.le_refl _)) (by have U:ZD p (Gw.upd (fun _=>0) wi (0+1)) p.m.toNat=ZD p (fun _=>0) p.m.toNat+(p.L wi+p.aV):=h1;rw [U,N];omega)
 obtain⟨i,J,I,_⟩:=Zag hf w0 D (by rw [Zp];omega) (by have:=h.2.2.2.1;omega)
 rw [YT h];omega
theorem Zgv{p:cO}{kd:Int->Tr}{vK vL:Value}{l:Of}(h:wI p b wi (Zn p b wi) C kd)(D:ZS p b wi)(Z:Zn p b wi<=100):Vk p b C (.mk wi vK (Zn p b wi) kd vL 0 l) 0 ln pt cnt True lf\/¬(∀k,-9223372036854775808<=l k/\l k<=9223372036854775807):=by
 by_cases hl:∀k,-9223372036854775808<=l k/\l k<=9223372036854775807
 {
 left
 have h1:=ZgB D
 have W:=D.1.1
 obtain⟨w0,w1⟩:=D.2.2.1
 have Y:=W.m2
 refine⟨h.one,fun hn=> ?_,fun h=>absurd trivial h,fun _=> .inr ⟨rfl,?_,.inl ?_,⟨⟨⟨?_,Z,?_,.inr rfl,fun h0=> ?_,fun k O I=> ?_⟩,fun i N J=>(h.all i N J).2.1⟩,⟨⟨by omega,Oa,hl⟩,fun i N J=>(h.all i N J).2.2⟩⟩,fun hn=> ?_⟩⟩
 · have:=h.few hn;have:=_O D hn;omega
 {
 rw [Sj (t:= .mk wi vK (Zn p b wi) kd vL 0 l) (by show Zn p b wi≠0;omega) D rfl]
 refine P5 _ _ fun k O I=> ?_
 exact(h.all k O (by have F:k<0+((Zn p b wi-0).toNat:Int):=I;omega)).1}
 · show 0<Zn p b wi;omega
 · show ZO wi;unfold ZO;omega
 · show(0:Int)<=40;omega
 · have aa:Zn p b wi=0:=h0;omega
 · have F:k<(0:Int):=I;omega
 {
 obtain⟨U,q2,q3⟩:=h.cnt hn
 refine⟨U,?_⟩
 show IntKind.i64.wrap (VW (fun k=>(kd k).depth) (Zn p b wi).toNat+1)<=_
 rw [I64.wrap (by unfold I64;omega)];omega}}
 · exact .inr hl
theorem N_{p:cO}{u:Int}{t:Tr}{ok:Prop}(h:Vk p b c t u ln pt cnt ok lf):u<=1000:=by
 by_cases ho:ok
 {
 rcases h.2.2.2 ho with⟨_,g,_⟩|⟨g,_⟩
 · exact g.1.2.1
 · omega}
 · have:=(h.2.2.1 ho).2.1;omega
theorem Zfw{p:cO}(h:ZS p b wi)(F:0<=i)(D:i<Zn p b wi):YB (Z9 p wi i) (b-1):=⟨_J h F D,by have:=h.2.1;omega,by have:=h.1.2.2;omega⟩
theorem ZjC{p:cO}{u:Int}{t:Tr}{ok:Prop}(h:Vk p b c t u ln pt cnt ok lf)(D:ok)(F:0<u\/(t.n=0/\t.nl=0/\FQ p)):B_ p u ln pt cnt/\wH u cnt<=b:=by
 rcases h.2.2.2 D with⟨g1,g2,g3⟩|⟨g1,g2,g3,g4,g5⟩
 · exact⟨g2,g3⟩
 · exfalso;omega
theorem ZjA{p:cO}{u:Int}{t:Tr}{ok:Prop}(h:Vk p b c t u ln pt cnt ok lf)(N:ok)(F:¬(0<u\/(t.n=0/\t.nl=0/\FQ p))):u=0/\AX t p b=none/\(0<t.n\/0<t.nl)/\(t.ok/\Ta t)/\(ZL p<=6->t.nodes=c/\t.depth<=ZL p+1):=by
 rcases h.2.2.2 N with⟨g1,g2,g3⟩|h
 {
 exfalso
 have D:¬0<u:=fun D=>F (.inl D)
 refine F (.inr ⟨g1.2.2,g1.2.1,g2.1.1,fun j J I=> ?_⟩)
 have:=g2.2 j J I
 unfold ZJ at this
 rw [show u.toNat=0 by omega] at this
 exact this}
 · exact h
theorem ZgA{p:cO}{u:Int}{t:Tr}{ok:Prop}(D:p.Ok)(h:Vk p b c t u ln pt cnt ok (20000-c))(F:¬ok):6<ZL p:=by
 apply Classical.byContradiction;intro hn
 have h1:=(h.2.2.1 F).2.2 Oa
 have J:=h.2.1 Oa
 have I:=I_ _ (Wq D).1 (show ZL p<=6 by omega)
 omega
theorem Zgz{p:cO}{u:Int}{t:Tr}{ok:Prop}(D:p.Ok)(h:Vk p b c t u ln pt cnt ok lf)(hf:(t.ok/\Ta t)/\(ZL p<=6->t.nodes=c/\t.depth<=ZL p+1))(hv:¬V1 t):6<ZL p:=by
 apply Classical.byContradiction;intro hn
 obtain⟨N,J⟩:=hf.2 Oa
 have I:=h.2.1 Oa
 have F:=I_ _ (Wq D).1 (show ZL p<=6 by omega)
 exact hv ⟨hf.1.1,Oa,Oa⟩
theorem Zg3{p:cO}{u n2:Int}(h:B_ p u ln pt cnt/\wH u cnt<=b)(hb:b<=1000)(F:pX (nY u ln pt cnt) (nY n2 tV tN qm))(U:0<=u)(n0:0<=n2)(n1:n2<=u):B_ p n2 tV tN qm/\wH n2 qm<=b:=by
 obtain⟨⟨h1,h2⟩,h3⟩:=h
 have e1:wH n2 qm=wH u cnt:=by
   have:=F.ni (fun _=>1)
   rw [Ya _ n0,Ya _ U] at this
   exact this
 have Y:∀x∈nY n2 tV tN qm,1<=x.2:=F.pos fun x D=>(VS h1 x D).1.1
 have N:=(LC Y).2
 have e2:Gw.ni (fun _=>1) (nY n2 tV tN qm)=wH n2 qm:=Ya _ n0
 have W:nM p n2 tV tN qm:=Uf h1.1 (by have:=h1.2.1;omega) fun x D=>by
   obtain⟨y,Z,he⟩:=F.keys x D
   have h5:=N x D
   refine⟨⟨Y x D,Oa⟩,?_⟩
   rw [<-he];exact(VS h1 y Z).2
 refine⟨⟨W,fun j J I=> ?_⟩,Oa⟩
 have O:=h2 j J I
 rw [h1.mk U J I] at O
 rw [W.mk n0 J I]
 unfold Aq at O⊢
 rw [F.ni];exact O
def Bl(p:cO)(b:Int)(t:Tr)(u:Int)(ln:Of)(pt:Og)(cnt:Of)(e:Int):Prop:=
  (¬YB p b/\DL t/\u=0/\e=1)\/(YB p b/\6<ZL p/\DL t/\u=0/\e=9)\/(YB p b/\e=0/\DL t/\B_ p u ln pt cnt/\wH u cnt<=b)\/
  (YB p b/\e=0/\u=0/\V1 t/\Ta t/\AX t p b=none/\(0<t.n\/0<t.nl))
def uf(p:cO)(nb:Int)(t:Tr)(u:Int)(ln:Of)(pt:Og)(cnt:Of)(e:Int):Prop:=
  (¬p.Ok/\e=1/\nb=0/\DL t/\u=0)\/(p.Ok/\6<ZL p/\e=9/\nb=0/\DL t/\u=0)\/
  (p.Ok/\e=0/\B_ p u ln pt cnt/\wH u cnt=nb/\nb<=1000/\Ta t/\((nb=0/\DL t)\/(1<=nb/\V1 t/\AX t p (nb-1)=none)))
theorem Bl.err{p:cO}{u:Int}{t:Tr}(h:Bl p b t u ln pt cnt e)(F:YB p b)(D:e≠0):6<ZL p:=by
 rcases h with⟨h,_⟩|⟨_,h,_⟩|⟨_,h,_⟩|⟨_,h,_⟩
 · exact absurd F h
 · exact h
 · exact absurd h D
 · exact absurd h D
theorem Bl.plan{p:cO}{u:Int}{t:Tr}(h:Bl p b t u ln pt cnt e)(D:e=0)(h1:¬0<t.n)(F:¬0<t.nl):B_ p u ln pt cnt/\wH u cnt<=b:=by
 rcases h with⟨_,_,_,h⟩|⟨_,_,_,_,h⟩|⟨_,_,_,h3,h4⟩|⟨_,_,_,_,_,_,h⟩
 · omega
 · omega
 · exact⟨h3,h4⟩
 · omega
theorem Bl.tree{p:cO}{u:Int}{t:Tr}(h:Bl p b t u ln pt cnt e)(D:e=0)(h1:0<t.n\/0<t.nl):V1 t/\Ta t/\AX t p b=none:=by
 rcases h with⟨_,_,_,h⟩|⟨_,_,_,_,h⟩|⟨_,_,h3,_⟩|⟨_,_,_,h1,h2,h3,_⟩
 · omega
 · omega
 · have:=h3.2.1;have:=h3.2.2;omega
 · exact⟨h1,h2,h3⟩
theorem Zrf{p:cO}{u:Int}(h:B_ p u ln pt cnt):0<=wH u cnt:=(Zfq h.1).1
end Go.Proofs.YtpnamgfdakfccaaGreat
namespace Go.Proofs.YtpnamgfdakfccaaGreat
open Go Go.RowKit Go.Proofs.Gw
theorem OC:Zc Om 13=true:=Oc
theorem Zox{vL vD:Value}{p:cO}{b:Int}(w0:World)(h:oO w0 vL vD p)(F:YB p b):
   Calls Om 62 [.agg #[vL,vD,.int Oi p.bP,.int Oi p.aV,.int Oi b]].toArray w0 fun e w=>∃v,e= .returned v/\∃r u pv ln pt cnt ok,v= .tuple #[r,B ok]/\JA p b u ln pt cnt ok/\iK r u/\Sat w0 w [.own r 2 97 u (Ze pv cnt),.sem (Frame.rows 3 u pv ln pt)]:=by
 obtain⟨hm,ab,hd,hd1,hs,hk⟩:=h.Oq
 have ad:=F.2.1;have ac:=F.2.2
 refine iE Tryz.func62 Tryz.ntmps62 fun w D=> ?_
 refine fQ<|iG (nS (cs:= [_,_,_,_,_]) D) ?_;rintro _ w ⟨g1,rfl,D⟩
 refine(On)<|iT<|(zV (h_ 0 pU))<|(zV (C_ 0 (ds:= [vL,vD,.int Oi p.bP,.int Oi p.aV]) iM D))<|iJ (xc0 OC) (PW (p:=p) w (h.below D.below)) ?_;rintro _ w ⟨aG,W,aa,ae,an,ap,gH,rfl,Z,cN,fA,Y,I⟩
 replace D:=(D.comp I).n3;clear I
 have dC:=fun k (N:0<=k) (J:k<W)=>D.iw 2 rfl N J
 refine uK ?_
 refine nG<|lg [0,1,2] [0,1,2] 1000 nP D ?_;clear D;intro w D
 refine(b_ 0 gu)<|(b_ 1 gu)<|(b_ 2 Y1)<|(b_ 3 gu)<|AO 15 ?_ ?_<;>intro hc
 {
 refine(b_ 4 gu)<|(b_ 6 (h_ 4 sU))<|(iQ 7 (fun w D=>(g_ 0 dw D)))<|pK 5 (xc0 Iw) (TN (u:=W) (pv:=aa) (ln:=ae) (pt:=an) (cnt:=ap) w (⟨(D.f_ 1 rfl),fun k N J=>D.lI 2 rfl N J,fun k N J=>D.lV 2 rfl N J⟩:tq _ aG W aa ae an ap) Oa (fun k N J=>by have h8:=cN k N J;omega)) ?_;rintro _ w ⟨rfl,I⟩
 replace D:=D.cmp I;clear I
 refine⟨⟨fun _=>D,D⟩,?_⟩
 refine(b_ 8 Xx)<|(b_ 9 qj)<|(b_ 10 nU)<|(b_ 11 nU)<|lS<|iP<|sZ<|rD ⟨_,rfl,?_⟩
 have O:=Z.meets F.1 Oa Y.n0
 exact⟨_,_,_,_,_,_,_,rfl,⟨fun U=>⟨O.1,U⟩,fun U=>Int.le_trans O.2 U⟩,Y,D.pk [1,2]⟩}
 refine(iV 4)<|(iV 6)<|(iV 7)<|(iV 5)<|(iV 8)<|(b_ 9 pY)<|(b_ 10 nU)<|(b_ 11 nU)<|lS<|iP<|sZ<|rD ⟨_,rfl,?_⟩
 exact⟨_,_,_,_,_,_,False,by rw [ZB not_false],⟨fun h=>h.elim,fun U=>by have h8:=(Z.tot F.1).2 (by have:=F.2.2;omega);omega⟩,Y,D.pk [1,2]⟩
theorem Zqv:Zc Om 11=true:=Oc
theorem Zqy{vL vD:Value}{p:cO}{b:Int}(w0:World)(h:oO w0 vL vD p)(F:YB p b):
   Calls Om 63 [.agg #[vL,vD,.int Oi p.bP,.int Oi p.aV,.int Oi b]].toArray w0 fun e w=>∃v,e= .returned v/\∃r n l ok,v= .tuple #[r,B ok]/\Nk p b n l ok/\iK r n/\Sat w0 w [.own r 1 3 n (ints l)]:=by
 obtain⟨hm,ab,hd,hd1,hs,hk⟩:=h.Oq
 have af:=F.2.1;have ae:=F.2.2
 refine iE Tryz.func63 Tryz.ntmps63 fun w D=> ?_
 refine fQ<|iG (nS (cs:= [_,_,_,_,_]) D) ?_;rintro _ w ⟨Z,rfl,D⟩
 refine(On)<|iT<|(zV (h_ 0 pU))<|(zV (C_ 0 (ds:= [vL,vD,.int Oi p.bP,.int Oi p.aV]) iM D))<|iJ (xc0 Zqv) (Zi1 (p:=p) w (h.below D.below)) ?_;rintro _ w ⟨km,I,mq,m7,rfl,N,di,J⟩
 replace D:=(D.comp J).n2;clear J
 refine qE ?_
 refine iG (oh (cs:= [_,_]) Tm D) ?_;rintro _ w ⟨U,rfl,D⟩
 refine lJ (nD 2 oI D (hd:=(Za di.one (Za rfl Zj)))) ?_;clear D;rintro w D
 refine(On)<|l9<|(Oo)<|lX 16 ?_ ?_<;>intro hc
 {
 iterate 4 refine oq ?_
 refine(zP)<|ig<|rW<|fQ ?_
 refine(On)<|j_<|rD ⟨_,rfl,?_⟩
 obtain⟨Z,U,O⟩:=N.good F.1
 exact⟨_,0,fun _=>0,False,by rw [ZB not_false],⟨fun h=>h.elim,fun hb hn=>by have:=O hn;omega⟩,d_,(D.fU 1 3 (ints fun _=>0)).sub (.cons _ (.cons _ (.cons _ (.cons_cons _ .slnil))))⟩}
 refine(zP)<|(zV (h_ 4 sU))<|(zV (g_ 0 dw D))<|(On)<|ig<|Zf ?_ ?_<;>intro hc
 {
 refine fQ<|(On)<|j_<|rD ⟨_,rfl,?_⟩
 obtain⟨Z,U,O⟩:=N.good F.1
 exact⟨_,0,fun _=>0,False,by rw [ZB not_false],⟨fun h=>h.elim,fun hb hn=>by have:=O hn;omega⟩,d_,(D.fU 1 3 (ints fun _=>0)).sub (.cons _ (.cons _ (.cons _ (.cons_cons _ .slnil))))⟩}
 refine ZX<|(zV (h_ 1 uj))<|iI (g_ 2 dw D) ?_
 have Y:=(N.good F.1).2.1.resolve_left Oa
 have ac:=(Gw.U5 Y.1).2.2.1;have ad:=F.1.m2
 refine iG (pO (n:=1) (len:=1) (pv:= [(0,.int Oi I.q)]) (cs:= [.int Oi I.q]) (c:=ints (fun _=>I.q)) Zb Zq D) ?_;rintro v1 w ⟨D,aa⟩
 refine(zV (h_ 0 r_))<|(zV (g_ 2 dV D))<|iG (pz 3 (r:=I.n+1) (f:=ints (FU I.q I.y)) Zb Zq D (D.f_ 1 rfl) (by exact Zf1 _ _)) ?_;rintro v2 w ⟨D,W⟩
 refine(On)<|jk<|rD ⟨_,rfl,?_⟩
 obtain⟨Z,U,O⟩:=N.good F.1
 replace D:=D.nJ 3 rfl (d:=ints (Dj I.n I.q I.y)) (fun k k0 k1=>by unfold ints Dj;rw [if_pos ⟨k0,Oa⟩])
 exact⟨_,_,_,True,by rw [ZV trivial],⟨fun _=>Zj7 F U Oa Oa,fun _ _=>trivial⟩,W,D.pk [3]⟩
def Zrl(p:cO)(b i:Int):Prop:= -1<=i/\(0<=i->ZS p b i/\Zn p b i<=100)/\(i<0->∀wi,ZS p b wi->100<Zn p b wi)
theorem Zfu{p:cO}{b i:Int}(h:i<0):Zn p b i=0:=Vu fun D=>by have:=D.2.2.1.1;omega
theorem Zow{vL vD:Value}{p:cO}{b:Int}(w0:World)(h:oO w0 vL vD p):
   Calls Om 64 [.agg #[vL,vD,.int Oi p.bP,.int Oi p.aV,.int Oi b]].toArray w0 fun e w=>∃v,e= .returned v/\∃i r vv,v= .tuple #[.int Oi i,r,B (0<=i)]/\Zrl p b i/\iK r (Zn p b i)/\Sat w0 w [.own r 5 39 (Zn p b i) (ZT vv p.bP p.aV (b-1)),.sem (Frame.rows 3 (2*Zn p b i) vv (fun _=>p.m) (wJ p (MX p i)))]:=by
 obtain⟨hm,ac,hd,hd1,D,hk⟩:=h.Oq
 refine iE Tryz.func64 Tryz.ntmps64 fun w F=> ?_
 refine fQ<|iG (nS (cs:= [_,_,_,_,_]) F) ?_;rintro _ w ⟨g1,rfl,F⟩
 refine(Oo)<|iT<|(zP)<|iT<|(zP)<|l9<|(zV (h_ 0 pU))<|(zV (h_ 1 jF))<|(zV (g_ 0 dV F))<|(zV (iW Zb h.D.fP))<|(zP)<|nI ?_
 replace F:=(F.fU 5 39 (ZT (fun _=>Oh) p.bP p.aV (b-1))).iF 3 (fun _=>Oh) (fun _=>p.m) (wJ p (MX p (-1)))
 replace F:=F.Aj 2 rfl (show(0:Int)=2*0 from rfl)
 refine ny (fun mm M w=>∃(Z:Int) (N:Ov) (wB:Value) (j:Int) (i:Int),mm=((p.d-i).toNat)/\(0<=i)/\(i<=p.d)/\(-1<=j)/\(iK wB Z)/\(Z=Zn p b j)/\(0<=j->ZS p b j/\Zn p b j<=100)/\(j<0->∀wi,0<=wi->wi<i->ZS p b wi->100<Zn p b wi)/\M= [(1,Or g1),(2,.int Oi 0),(3,Oh),(4,.bool false),(5,.int Oi j),(6,wB),(13,vD),(14,.int Oi p.d),(15,.int Oi i)]/\Sat w0 w [.blk g1 [vL,vD,.int Oi p.bP,.int Oi p.aV,.int Oi b],.own wB 5 39 Z (ZT N p.bP p.aV (b-1)),.sem (Frame.rows 3 (2*Z) N (fun _=>p.m) (wJ p (MX p j)))]) ⟨0,(fun _=>Oh),Oh,(-1),0,rfl,Oa,Oa,Oa,?_,?_,?_,?_,rfl,F⟩ ?_
 {
 exact d_}
 {
 exact(Zfu Oa).symm}
 {
 intro J;omega}
 {
 intro J wi w0 w1;omega}
 clear F w
 rintro mm M w ⟨Z,N,wB,j,i,rfl,h0,h1,hj,Y,W,O,U,rfl,F⟩
 have ab:∀k,0<=k->k<2*Z->iK (N k) p.m:=fun k k0 k1=>F.iw 2 rfl k0 k1
 refine fQ<|(zP)<|nG<|Zf ?_ ?_<;>intro hc
 {
 refine oC<|(zP)<|(zV (iy (kk:=i) Zb h.D.fP))<|iI (iR (u:= .int Oi (p.D i)) dw (h.D.below F.below)) ?_
 have ad:=h.iD i
 refine(On)<|l9<|(On)<|ig<|Zf ?_ ?_<;>intro hc
 {
 refine sW<|n_<|rH<|iP<|lG<|(zV (Zg (r:=i+1)))<|(zP)<|iq<|jm ⟨Z,N,wB,j,i+1,rfl,Oa,Oa,Oa,?_,?_,?_,?_,rfl,F⟩
 {
 exact Y}
 {
 first|exact W|rfl}
 {
 first|exact O|exact fun _=>⟨by assumption,Oa⟩}
 {
 first
 |(intro J;omega)
 |(intro J wi w0 w1 D;rcases Int.lt_or_eq_of_le (show wi<=i by omega) with I|I;exact U J wi w0 I D;rw [I] at D⊢;first|omega|exact absurd D ‹¬ZS p b i›|exact absurd Oa D.2.2.2.1)}}
 refine ZX<|(zV (lH 0 Xz F))<|(zP)<|iJ (xc0 Zqq) (ZkP (p:=p) (b:=b) (wi:=i) w (h.below F.below)) ?_;rintro _ w ⟨el,cY,rfl,zo,aa⟩
 replace F:=(F.comp aa).n5;clear aa
 have kG:∀k,0<=k->k<2*(Zn p b i)->iK (cY k) p.m:=fun k k0 k1=>F.iw 4 rfl k0 k1
 refine zs2 ?_
 have mD:=zo.n0
 refine(Oo)<|iT<|(On)<|lX 29 ?_ ?_<;>intro hc
 {
 refine(zP)<|(zV (iW VO zo))<|(Oo)<|lX 34 ?_ ?_<;>intro hc
 {
 refine(Oo)<|lX 37 ?_ ?_<;>intro hc
 {
 iterate 5 refine oq ?_
 refine(On)<|ig<|rW<|lG ?_
 refine qE ?_
 refine nT<|(zV (Zg (r:=i+1)))<|(zP)<|iq<|jm ⟨(Zn p b i),cY,el,i,i+1,rfl,Oa,Oa,Oa,?_,?_,?_,?_,rfl,F.pk [0,3,4]⟩
 {
 exact zo}
 {
 first|exact W|rfl}
 {
 first|exact O|exact fun _=>⟨by assumption,Oa⟩}
 {
 first
 |(intro J;omega)
 |(intro J wi w0 w1 D;rcases Int.lt_or_eq_of_le (show wi<=i by omega) with I|I;exact U J wi w0 I D;rw [I] at D⊢;first|omega|exact absurd D ‹¬ZS p b i›|exact absurd Oa D.2.2.2.1)}}
 refine(zP)<|(zV (iW VO zo))<|(zP)<|(zV (iW VO Y))<|(Oo)<|ig<|Zf ?_ ?_<;>intro hc
 {
 refine lG<|qE ?_
 refine nT<|(zV (Zg (r:=i+1)))<|(zP)<|iq<|jm ⟨(Zn p b i),cY,el,i,i+1,rfl,Oa,Oa,Oa,?_,?_,?_,?_,rfl,F.pk [0,3,4]⟩
 {
 exact zo}
 {
 first|exact W|rfl}
 {
 first|exact O|exact fun _=>⟨by assumption,Oa⟩}
 {
 first
 |(intro J;omega)
 |(intro J wi w0 w1 D;rcases Int.lt_or_eq_of_le (show wi<=i by omega) with I|I;exact U J wi w0 I D;rw [I] at D⊢;first|omega|exact absurd D ‹¬ZS p b i›|exact absurd Oa D.2.2.2.1)}}
 refine rU<|(zV (Zg (r:=i+1)))<|(zP)<|iq<|jm ⟨Z,N,wB,j,i+1,rfl,Oa,Oa,Oa,?_,?_,?_,?_,rfl,F.pk [0,1,2]⟩
 {
 exact Y}
 {
 first|exact W|rfl}
 {
 first|exact O|exact fun _=>⟨by assumption,Oa⟩}
 {
 first
 |(intro J;omega)
 |(intro J wi w0 w1 D;rcases Int.lt_or_eq_of_le (show wi<=i by omega) with I|I;exact U J wi w0 I D;rw [I] at D⊢;first|omega|exact absurd D ‹¬ZS p b i›|exact absurd Oa D.2.2.2.1)}}
 iterate 9 refine oq ?_
 refine(zP)<|ig<|uD<|nX<|ng<|iP<|lG ?_
 refine(zV (Zg (r:=i+1)))<|(zP)<|iq<|jm ⟨Z,N,wB,j,i+1,rfl,Oa,Oa,Oa,?_,?_,?_,?_,rfl,F.pk [0,1,2]⟩
 {
 exact Y}
 {
 first|exact W|rfl}
 {
 first|exact O|exact fun _=>⟨by assumption,Oa⟩}
 {
 first
 |(intro J;omega)
 |(intro J wi w0 w1 D;rcases Int.lt_or_eq_of_le (show wi<=i by omega) with I|I;exact U J wi w0 I D;rw [I] at D⊢;first|omega|exact absurd D ‹¬ZS p b i›|exact absurd Oa D.2.2.2.1)}}
 iterate 3 refine oq ?_
 refine zs2 ?_
 iterate 9 refine oq ?_
 refine(zP)<|ig<|uD<|nX<|ng<|iP<|lG ?_
 refine(zV (Zg (r:=i+1)))<|(zP)<|iq<|jm ⟨Z,N,wB,j,i+1,rfl,Oa,Oa,Oa,?_,?_,?_,?_,rfl,F.pk [0,1,2]⟩
 {
 exact Y}
 {
 first|exact W|rfl}
 {
 first|exact O|exact fun _=>⟨by assumption,Oa⟩}
 {
 first
 |(intro J;omega)
 |(intro J wi w0 w1 D;rcases Int.lt_or_eq_of_le (show wi<=i by omega) with I|I;exact U J wi w0 I D;rw [I] at D⊢;first|omega|exact absurd D ‹¬ZS p b i›|exact absurd Oa D.2.2.2.1)}}
 refine oM<|En ?_
 refine(zP)<|jk<|Eo ⟨_,rfl,?_⟩
 subst W
 exact⟨_,_,_,rfl,⟨hj,O,fun J wi D=>U J wi D.2.2.1.1 (by have:=D.2.2.1.2;have:=D.1.1.d;omega) D⟩,Y,F.pk [1,2]⟩
theorem Zjp{w:World}{pv:Ov}{ln cnt:Of}{pt:Og}:tq w Oh 0 pv ln pt cnt:=⟨Tz _ _ _,fun i D h=>Oa,fun i D h=>Oa⟩
theorem KB{p:cO}{ln cnt:Of}{pt:Og}:(nM p 0 ln pt cnt/\∀j,0<=j->j<p.m->p.D j<=ZJ 0 pt cnt j)↔FQ p:=
 ⟨fun h=>⟨h.1.1,fun j F D=>h.2 j F D⟩,fun h=>⟨⟨h.1,Oa,fun k J I=>Oa⟩,fun j F D=>h.2 j F D⟩⟩
theorem PS{vL vD:Value}{p:cO}{b:Int}{s9 n9 H7 u:Int}{vK I vV:Value}(w0:World)(h:oO w0 vL vD p)(O:iK vK n9)(N:iK I H7)(J:iK vV u):
   Calls Om 65 [.agg #[vL,vD,.int Oi p.bP,.int Oi p.aV,.int Oi b],.agg #[.int Oi s9,vK,I],vV].toArray w0 fun e w=>∃v,e= .returned v/\v=B (0<u\/(n9=0/\H7=0/\FQ p))/\Sat w0 w []:=by
 obtain⟨hm,ac,hd,hd1,hs,hk⟩:=h.Oq
 have ab:=O.n0;have mI:=N.n0;have aa:=J.n0
 refine iE Tryz.func65 Tryz.ntmps65 fun w D=> ?_
 refine fQ<|iG (nS (cs:= [_,_,_,_,_]) D) ?_;rintro _ w ⟨Z,rfl,D⟩
 refine iG (nS (cs:= [_,_,_]) D) ?_;rintro _ w ⟨Y,rfl,D⟩
 refine(zP)<|iT<|(zP)<|(zV (iW ZP J))<|(On)<|lX 10 ?_ ?_<;>intro hc
 {
 iterate 15 refine oq ?_
 refine(On)<|jk<|Oj ?_
 exact⟨Yk (.inl Oa),D.nl⟩}
 refine(zV (h_ 1 rO))<|(zV (g_ 1 Ug D))<|(zV (iW WU O))<|(On)<|lX 15 ?_ ?_<;>intro hc
 {
 refine(zV (h_ 2 uZ))<|(zV (g_ 1 dV D))<|(zV (iW Zb N))<|(Oo)<|lX 21 ?_ ?_<;>intro hc
 {
 refine(zV (h_ 0 pU))<|(zV (C_ 0 (ds:= [vL,vD,.int Oi p.bP,.int Oi p.aV]) iM D))<|iJ (xc0 OD) (Zc1 (u:=0) (pv:=fun _=>undef) (ln:=fun _=>0) (pt:=fun _ _=>0) (cnt:=fun _=>0) (p:=p) w Zjp (h.below D.below)) ?_;rintro _ w ⟨rfl,U⟩
 replace D:=D.cmp U;clear U
 refine(Oo)<|jk<|Oj ?_
 exact⟨Zm ⟨fun F=> .inr ⟨by omega,Oa,KB.1 F⟩,fun F=>by rcases F with F|⟨Z,Y,W⟩;omega;exact KB.2 W⟩,D.nl⟩}
 iterate 3 refine oq ?_
 refine(Oo)<|jk<|Oj ?_
 exact⟨Zi (by rintro(F|⟨Z,Y,W⟩)<;>omega),D.nl⟩}
 iterate 4 refine oq ?_
 refine zs2 ?_
 iterate 3 refine oq ?_
 refine(Oo)<|jk<|Oj ?_
 exact⟨Zi (by rintro(F|⟨Z,Y,W⟩)<;>omega),D.nl⟩
variable {cnt:Of} {pv:Ov}
theorem Zq8(w:World)(a:Addr)(n c:Nat):(binOp .eql 29 (.slice (some a) n c) Oh).run Om w= .ok (.bool false) w:=Oc
theorem ZpT(w:World):(binOp .eql 29 Oh Oh).run Om w= .ok (.bool true) w:=Oc
theorem ZqX{L:List (Nat×Value)}{w:World}{o:Oper}{x y:Operand}{T':TypeId}{a:Addr}{n c:Nat}(I:o.op= .binOp .eql 29 x y T':=by exact rfl)(F:iZ L x=some (.slice (some a) n c):=by exact rfl)(D:iZ L y=some Oh:=by exact rfl):Runs Om L w o (.value (.bool false)) w:=fun ρ h=>by
 simp [execOp,I,h _ _ F,h _ _ D,Zq8];rfl
theorem Zpn{L:List (Nat×Value)}{w:World}{o:Oper}{x y:Operand}{T':TypeId}(I:o.op= .binOp .eql 29 x y T':=by exact rfl)(F:iZ L x=some Oh:=by exact rfl)(D:iZ L y=some Oh:=by exact rfl):Runs Om L w o (.value (.bool true)) w:=fun ρ h=>by
 simp [execOp,I,h _ _ F,h _ _ D,ZpT];rfl
theorem Zdm{n k:Int}(h1:∀k,0<=k->k<n->(pv k).oneCell'=true)(D:0<=k)(h:k<n*((2:Nat):Int)):(Ze pv cnt k).oneCell'=true:=by
 unfold Ze;split
 · exact h1 _ Oa Oa
 · rfl
theorem Zo2{J I N:Nat}{n:Int}(w0:World)(F:Row w0 (.slice (some ⟨J,0,none⟩) I N) 2 n (Ze pv cnt))(h1:∀k,0<=k->k<n->(pv k).oneCell'=true)(Y:n<=1000000):
   Calls Om 67 [(.slice (some ⟨J,0,none⟩) I N)].toArray w0 fun e w=>∃v,e= .returned v/\∃r,v=r/\iK r n/\Sat w0 w [.own r 2 97 n (Ze pv cnt)]:=by
 have hn:=F.fP.n0;have Z:=F.fP.n1
 refine iE Tryz.func67 Tryz.ntmps67 fun w h=> ?_
 refine fQ<|(zP)<|l9<|(zP)<|(zV ZqX)<|ig<|uD<|nX<|iP<|fQ ?_
 refine iG (Du (c:=Ze pv cnt) ZP h) ?_;rintro v1 w ⟨h,W⟩
 refine(zP)<|iG (pz 0 (r:=n) (f:=Ze pv cnt) ZP Xb h (F.below h.below) (by exact YH _ _) (h1:=(fun k U O=>Zdm h1 U O))) ?_;rintro v2 w ⟨h,D⟩
 refine(zP)<|jk<|Oj ?_
 exact⟨_,rfl,D,h⟩
theorem Zo3(w0:World):
   Calls Om 67 [Oh].toArray w0 fun e w=>∃v,e= .returned v/\∃r,v=r/\iK r 0/\Sat w0 w [.own r 2 97 0 (Ze pv cnt)]:=by
 refine iE Tryz.func67 Tryz.ntmps67 fun w h=> ?_
 refine fQ<|(zP)<|l9<|(zP)<|(zV Zpn)<|ig<|rW<|fQ ?_
 refine(zP)<|j_<|Oj ?_
 exact⟨_,rfl,d_,(h.sub .slnil).fU 2 97 (Ze pv cnt)⟩
theorem ZqL{x:Value}{n:Int}(w0:World)(h:(iO.own x 2 97 n (Ze pv cnt)).holds w0)(h1:∀k,0<=k->k<n->(pv k).oneCell'=true)(hn:n<=1000000):Calls Om 67 [x].toArray w0 fun e w=>∃v,e= .returned v/\∃r,v=r/\iK r n/\Sat w0 w [.own r 2 97 n (Ze pv cnt)]:=by
 have D:=h.row
 obtain⟨I,F,⟨rfl,rfl⟩|⟨g,cap,cur,rfl,_⟩⟩:=h
 · exact Zo3 w0
 · exact Zo2 w0 D h1 hn
end Go.Proofs.YtpnamgfdakfccaaGreat
namespace Go.Proofs.YtpnamgfdakfccaaGreat
open Go Go.RowKit Go.Proofs.Gw
theorem OI:Zc Om 61=true:=Oc
theorem Zqi:Zc Om 62=true:=Oc
theorem Zqh:Zc Om 63=true:=Oc
theorem Zqg:Zc Om 64=true:=Oc
theorem OJ:Zc Om 65=true:=Oc
theorem Zqf:Zc Om 67=true:=Oc
theorem Ld:ZF Om 138=true:=Oc
theorem Zoq(N:Nat):∀{F:Gw.Frame} {vL vD:Value} {p:cO} {b lf:Int} {gl gs:Nat} (w0 w:World) (D:Sat w0 w [.blk gl [.int Oi lf],.blk gs [.func (.func 61) #[] #[Or gl,Or gs]],.sem F]) (hP:∀w1,Below w0.heap.size w0 w1->F.holds w1->oO w1 vL vD p) (O:YB p b) (ag:0<=lf/\lf<=20000) (hN:b.toNat<N),
   Calls Om 61 [.agg #[vL,vD,.int Oi p.bP,.int Oi p.aV,.int Oi b],Or gl,Or gs].toArray w fun e w=>∃v,e= .returned v/\∃t u pv ln pt cnt ok c vV,v= .tuple #[.agg #[.int Oi (Tr.s t),t.vK,t.vL],vV,B ok]/\Vk p b c t u ln pt cnt ok (lf-c)/\(-1<=lf-c/\(ok->0<=lf-c))/\iK t.vK t.n/\iK t.vL t.nl/\iK vV u/\Sat w0 w [.blk gl [.int Oi (lf-c)],.blk gs [.func (.func 61) #[] #[Or gl,Or gs]],.sem (t.zJ 32 3),.own vV 2 97 u (Ze pv cnt),.sem (Frame.rows 3 u pv ln pt),.sem F]:=by
 induction N with
 |zero=>intros;omega
 | succ N ih=>
   intro F vL vD p b lf gl gs w0 w D hP O ag hN
   have h:=hP w D.below (D.holds _ (List.mem_of_getElem? (i:=2) rfl))
   obtain⟨hm,an,hd,hd1,hs,hk⟩:=h.Oq
   refine uM Tryz.func61 Tryz.ntmps61 ?_
   refine fQ<|iG (nS (cs:= [_,_,_,_,_]) D) ?_;rintro _ w ⟨g1,rfl,D⟩
   refine iG (oh (cs:= [_,_,_]) VI D) ?_;rintro _ w ⟨g2,rfl,D⟩
   refine(On)<|l9<|(zV (g_ 0 dw D))<|(zV (Zr (r:=lf-1)))<|lJ (xsb 0 dw D) ?_;clear D;rintro w D
   refine iT<|(zV (g_ 0 dw D))<|(zP)<|ig<|Zf ?_ ?_<;>intro hc
   {
   refine fQ<|(zV (lF (v:= .agg #[.int Oi 0,Oh,Oh])))<|lJ (nD 4 lT D) ?_;clear D;rintro w D
   refine(On)<|j_<|XZ 4 lT D ⟨_,rfl,?_⟩
   replace D:=D.pk [0,1,2]
   replace D:=D.sJ 32 3
   replace D:=(D.fU 2 97 (Ze (fun _=>Oh) (fun _=>0))).iF 3 (fun _=>Oh) (fun _=>0) (fun _ _=>0)
   exact⟨.nil,0,_,_,_,_,False,1,Oh,(by rw [ZB not_false];rfl),(ZjB O.1 Oa),⟨by omega,fun hh=>hh.elim⟩,d_,d_,d_,D.pk [0,1,3,4,5,2]⟩}
   refine XJ<|(zV (lH 3 Xz D))<|iJ (xc0 Zqi) (Zox (p:=p) (b:=b) w (hP _ D.below (D.holds _ (List.mem_of_getElem? (i:=2) rfl))) O) ?_;rintro _ w ⟨eh,eK,ku,ky,kS,k7,b8,rfl,br,c8,J⟩
   replace D:=(D.comp J).n7;clear J
   have jl:=fun k (k0:0<=k) (k1:k<eK)=>D.iw 6 rfl k0 k1
   refine uK ?_
   refine iT<|(zP)<|ig<|Zf ?_ ?_<;>intro hc
   {
   refine fQ<|(zV (lF (v:= .agg #[.int Oi 0,Oh,Oh])))<|(zP)<|lJ (nD 4 lT D) ?_;clear D;rintro w D
   refine(On)<|j_<|XZ 4 lT D ⟨_,rfl,?_⟩
   replace D:=D.pk [0,1,5,6,2]
   replace D:=D.sJ 32 3
   exact⟨.nil,_,_,_,_,_,True,1,eh,(by rw [ZV trivial];rfl),(ZjD O.1 br ‹b8›),⟨by omega,fun _=>Oa⟩,d_,d_,c8,D.pk [0,1,5,2,3,4]⟩}
   refine XJ<|(zV (lH 3 Xz D))<|iJ (xc0 Zqh) (Zqy (p:=p) (b:=b) w (hP _ D.below (D.holds _ (List.mem_of_getElem? (i:=2) rfl))) O) ?_;rintro _ w ⟨xE,eM,gE,bZ,rfl,bq,yt,J⟩
   replace D:=(D.comp J).n8;clear J
   refine uK ?_
   refine iT<|(zP)<|ig<|Zf ?_ ?_<;>intro hc
   {
   refine fQ<|(zP)<|iI (lF (v:= .agg #[.int Oi 0,Oh,xE]) (hr:=by obtain⟨_,_,_,_,rfl,_⟩:=yt;kernel_rfl)) ?_
   refine lJ (nD 4 lT D (hd:=(Za rfl (Za rfl (Za yt.one Zj))))) ?_;clear D;rintro w D
   refine(On)<|j_<|XZ 4 lT D ⟨_,rfl,?_⟩
   replace D:=D.pk [0,1,2,7]
   replace D:=(D.fU 3 32 (YU (fun _=> .nil))).CQ (fun z9=>((fun _=>Tr.nil) z9).zJ 32 3)
   replace D:=D.pk [0,1,2,4,3,5]
   replace D:=Sat.Ed (l:= [_,_,_]) D 0
   replace D:=(D.fU 2 97 (Ze (fun _=>Oh) (fun _=>0))).iF 3 (fun _=>Oh) (fun _=>0) (fun _ _=>0)
   exact⟨(.mk 0 Oh 0 (fun _=> .nil) xE eM gE),0,_,_,_,_,True,1,Oh,(by rw [ZV trivial];rfl),(Zgy O.1 bq ‹bZ›),⟨by omega,fun _=>Oa⟩,d_,yt,d_,D.pk [0,1,3,4,5,2]⟩}
   refine ZX<|(zV (lH 3 Xz D))<|iJ (xc0 Zqg) (Zow (p:=p) (b:=b) w (hP _ D.below (D.holds _ (List.mem_of_getElem? (i:=2) rfl)))) ?_;rintro _ w ⟨qz,zZ,W,rfl,zU,zE,J⟩
   replace D:=(D.comp J).n10;clear J
   have yZ:∀k,0<=k->k<2*(Zn p b qz)->iK (W k) p.m:=fun k k0 k1=>D.iw 9 rfl k0 k1
   refine En ?_
   refine(zP)<|l9<|(On)<|ig<|Zf ?_ ?_<;>intro hc
   {
   refine fQ<|(zV (lF (v:= .agg #[.int Oi 0,Oh,Oh])))<|lJ (nD 4 lT D) ?_;clear D;rintro w D
   refine(On)<|j_<|XZ 4 lT D ⟨_,rfl,?_⟩
   replace D:=D.pk [0,1,2]
   replace D:=D.sJ 32 3
   replace D:=(D.fU 2 97 (Ze (fun _=>Oh) (fun _=>0))).iF 3 (fun _=>Oh) (fun _=>0) (fun _ _=>0)
   exact⟨.nil,0,_,_,_,_,False,1,Oh,(by rw [ZB not_false];rfl),(Zb1 O br ‹¬b8› bq ‹¬bZ› (zU.2.2 Oa)),⟨by omega,fun hh=>hh.elim⟩,d_,d_,d_,D.pk [0,1,3,4,5,2]⟩}
   refine ZX<|(zP)<|(zV (lF (v:= .agg #[.int Oi qz,Oh,Oh])))<|iG (oh (cs:= [_,_,_]) VI D) ?_;rintro _ w ⟨g3,rfl,D⟩
   refine lJ (nD 10 lT D) ?_;clear D;rintro w D
   refine l9<|(zP)<|(zV (iW VO zE))<|(zP)<|nI ?_
   have U:ZS p b qz:=(zU.2.1 Oa).1
   have ah:=(zU.2.1 Oa).2
   have mE:=zE.n0
   have mV:=U.2.1;have mY:=O.2.1;have mX:=O.2.2;have mG:=O.1.d;have mF:=O.1.m2
   replace D:=D.fU 3 32 (YU (fun _=> .nil))
   replace D:=D.CQ (fun z9=>((fun _=>Tr.nil) z9).zJ 32 3)
   refine ny (fun mm M w=>∃(C:Int) (kd:Int->Tr) (wK:Value) (i:Int),mm=((Zn p b qz-i).toNat)/\(0<=i)/\(i<=Zn p b qz)/\(iK wK i)/\(wI p b qz i C kd)/\(0<=lf-C)/\M= [(2,Or gs),(3,Or g1),(4,Or g2),(14,Or g3),(55,zZ),(56,.int Oi (Zn p b qz)),(57,.int Oi i)]/\Sat w0 w [.blk gl [.int Oi (lf-C)],.blk gs [.func (.func 61) #[] #[Or gl,Or gs]],.sem F,.blk g1 [vL,vD,.int Oi p.bP,.int Oi p.aV,.int Oi b],.blk g2 [.int Oi 0,Oh,Oh],.blk g3 [.int Oi qz,wK,Oh],.own wK 3 32 i (YU kd),.sem (Frame.all i (fun z9=>(kd z9).zJ 32 3)),.own zZ 5 39 (Zn p b qz) (ZT W p.bP p.aV (b-1)),.sem (Frame.rows 3 (2*(Zn p b qz)) W (fun _=>p.m) (wJ p (MX p qz)))]) ⟨1,(fun _=>Tr.nil),Oh,0,rfl,Oa,Oa,?_,?_,?_,rfl,D.pk [0,1,2,3,4,10,11,12,8,9]⟩ ?_
   {
   exact d_}
   {
   exact wI.start O.1 _}
   {
   omega}
   clear D w
   rintro mm M w ⟨C,kd,wK,i,rfl,h0,h1,ae,ab,ap,rfl,D⟩
   have au:=ab.one
   refine fQ<|(zP)<|nG<|Zf ?_ ?_<;>intro hc
   {
   refine oC<|(zV (iy (kk:=5*i) VO zE))<|(zV (uT (cs:= [(W (2*i)),(W (2*i+1)),.int Oi p.bP,.int Oi p.aV,.int Oi (b-1)]) Xz (D.f_ 8 rfl) (ZfL (q:=5*i) (i:=i) W p.bP p.aV (b-1) Oa)))<|iG (oh (cs:= [_,_,_,_,_]) II D) ?_;rintro _ w ⟨g4,rfl,D⟩
   refine lJ (nD 10 Xz D (hd:=(Za (yZ (2*i) Oa Oa).one (Za (yZ (2*i+1) Oa Oa).one (Za rfl (Za rfl (Za rfl Zj))))))) ?_;clear D;rintro w D
   refine iT<|(zV (g_ 1 Ld D))<|(zV (lH 10 Xz D))<|iJ (uU (vs:= [_]) OI) (ih (p:=(Z9 p qz i)) (b:=(b-1)) (lf:=(lf-C)) w0 w (Sat.bundle (l1:= [_,_]) (D.pk [0,1,2,3,4,5,6,7,8,9,10])) (fun w1 hb hF=>QO (vv:=W) U (hP w1 hb (Zlm hF 0 rfl)) (Zc4 hF 7 rfl (k:=2*i) Oa Oa) (Zc4 hF 7 rfl (k:=2*i+1) Oa Oa) h0 Oa) (Zfw U h0 Oa) ⟨by omega,Oa⟩ Oa) ?_;rintro _ w ⟨I,Z,aM,bJ,bI,ao,qY,aa,bH,rfl,xz,al,y7,y5,ar,D⟩
   replace D:=Sat.unbundle (l1:= [_,_,_,_,_]) (l3:= []) D
   rw [show lf-C-aa=lf-(C+aa) by omega] at D xz al
   replace D:=D.pk [0,1,3,4,5,6,7,8,9,10,11,12,13,2]
   have jf:=fun j (j0:0<=j) (j1:j<Z)=>D.iw 3 rfl j0 j1
   have e8:=N_ xz;have fe:=ar.n0
   refine qE ?_
   refine iG (oh (cs:= [_,_,_]) VI D) ?_;rintro _ w ⟨g5,rfl,D⟩
   refine lJ (nD 14 lT D (hd:=(Za rfl (Za y7.one (Za y5.one Zj))))) ?_;clear D;rintro w D
   refine(On)<|l9<|(On)<|ig<|Zf ?_ ?_<;>intro hc
   {
   refine fQ<|(zV (lF (v:= .agg #[.int Oi 0,Oh,Oh])))<|lJ (nD 6 lT D) ?_;clear D;rintro w D
   refine(On)<|ig<|sZ<|m_<|og<|m_<|m_<|og<|m_<|XZ 6 lT D ⟨_,rfl,?_⟩
   replace D:=D.pk [0,1,4]
   replace D:=D.sJ 32 3
   replace D:=(D.fU 2 97 (Ze (fun _=>Oh) (fun _=>0))).iF 3 (fun _=>Oh) (fun _=>0) (fun _ _=>0)
   exact⟨.nil,0,_,_,_,_,False,C+aa,Oh,(by rw [ZB not_false];rfl),(Zjz ab U h0 Oa xz ‹¬qY›),⟨by omega,fun hh=>hh.elim⟩,d_,d_,d_,D.pk [0,1,3,4,5,2]⟩}
   refine XJ<|(zV (lH 12 Xz D))<|(zV (lH 14 lT D))<|(zP)<|iJ (xc0 OJ) (PS (p:=(Z9 p qz i)) (b:=(b-1)) (u:=Z) (n9:=I.n) (H7:=I.nl) (s9:=I.s) w (QO (vv:=W) U h (show Row _ _ 1 p.m _ from(D.lI (k:=2*i) 11 rfl Oa Oa)) (show Row _ _ 1 p.m _ from(D.lI (k:=2*i+1) 11 rfl Oa Oa)) Oa Oa) y7 y5 ar) ?_;rintro _ w ⟨rfl,J⟩
   replace D:=D.cmp J;clear J
   refine ig<|Zf ?_ ?_<;>intro hc
   {
   refine fQ<|(zV (h_ 0 pU))<|(zV (h_ 1 jF))<|(zV (g_ 5 dV D))<|iJ (xc0 oD) (lU (n:=p.d) (f:=p.D) w (hP _ D.below (D.holds _ (List.mem_of_getElem? (i:=4) rfl))).D Oa) ?_;rintro Y w ⟨_,rfl,qb,J⟩
   replace D:=(D.comp J).n16;clear J
   refine(zP)<|l9<|(zV (h_ 0 pU))<|(zV (h_ 1 jF))<|(zV (g_ 12 dV D))<|(zV (iW Zb (yZ (2*i+1) Oa Oa)))<|(zP)<|nI<|ny (fun mm M w=>∃(fd:Of) (n:Int),mm=((p.m-n).toNat)/\(0<=n)/\(n<=p.m)/\(∀k,0<=k->k<p.m->fd k=if k<n then Yi (MX p qz) i k else p.D k)/\M= [(2,Or gs),(3,Or g1),(4,Or g2),(14,Or g3),(17,Or g5),(18,bH),(20,Y),(55,zZ),(56,.int Oi (Zn p b qz)),(57,.int Oi i),(81,(W (2*i+1))),(82,.int Oi p.m),(83,.int Oi n)]/\Sat w0 w [.blk gl [.int Oi (lf-(C+aa))],.blk gs [.func (.func 61) #[] #[Or gl,Or gs]],.own bH 2 97 Z (Ze aM ao),.sem (Frame.rows 3 Z aM bJ bI),.sem F,.blk g1 [vL,vD,.int Oi p.bP,.int Oi p.aV,.int Oi b],.blk g2 [.int Oi 0,Oh,Oh],.blk g3 [.int Oi qz,wK,Oh],.own wK 3 32 i (YU kd),.sem (Frame.all i (fun z9=>(kd z9).zJ 32 3)),.own zZ 5 39 (Zn p b qz) (ZT W p.bP p.aV (b-1)),.sem (Frame.rows 3 (2*(Zn p b qz)) W (fun _=>p.m) (wJ p (MX p qz))),.blk g4 [(W (2*i)),(W (2*i+1)),.int Oi p.bP,.int Oi p.aV,.int Oi (b-1)],.sem (I.zJ 32 3),.blk g5 [.int Oi I.s,I.vK,I.vL],.own Y 1 3 p.d (ints fd)]) ⟨p.D,0,rfl,Oa,Oa,?_,rfl,D⟩ ?_
   {
   intro k k0 k1;rw [if_neg Oa]}
   clear D w
   rintro mm M w ⟨fd,n,rfl,n0,n1,ad,rfl,D⟩
   refine fQ<|(zP)<|nG<|Zf ?_ ?_<;>intro hc
   {
   refine oC<|(zP)<|(zV (iy (kk:=n) Zb (yZ (2*i+1) Oa Oa)))<|(zV (iR (u:= .int Oi ((wJ p (MX p qz)) (2*i+1) n)) dw (show Row _ _ 1 p.m _ from(D.lI (k:=2*i+1) 11 rfl Oa Oa))))<|(On)<|ig<|lG<|(On)<|(zV (iy (kk:=n) Zb qb))<|iI (iR (u:= .int Oi (fd n)) dw (D.f_ 15 rfl)) ?_
   have ai:=ad n n0 Oa
   rw [if_neg Oa] at ai
   have aq:wJ p (MX p qz) (2*i+1) n=p.D n-Yi (MX p qz) i n:=congrFun (JF p _ (i:=i) rfl) n
   have ak:=(Uj U h0 (show i<Zn p b qz by omega)).1.rng n n0 Oa
   have aj:=O.1.all n n0 Oa;unfold cO.each at aj
   refine(zP)<|(zV (Zr (r:=fd n-((wJ p (MX p qz)) (2*i+1) n))))<|(zV (iy (kk:=n) Zb qb))<|lJ (rV 15 dw D (ZA _ _ _)) ?_;clear D;rintro w D
   refine nT<|(zV (Zg (r:=n+1)))<|(zP)<|iq<|jm ⟨(upd fd n (fd n-((wJ p (MX p qz)) (2*i+1) n))),n+1,rfl,Oa,Oa,?_,rfl,D⟩
   {
   intro k k0 k1;unfold Gw.upd;by_cases e:k=n
   · rw [if_pos e,if_pos Oa,e];omega
   · rw [if_neg e,ad k k0 k1];by_cases e2:k<n
     · rw [if_pos e2,if_pos Oa]
     · rw [if_neg e2,if_neg Oa]}}
   refine oM<|(zV (lF (v:= .agg #[.int Oi 0,Oh,Oh])))<|(zP)<|iJ (xc0 Zqf) (ZqL w (D.holds _ (List.mem_of_getElem? (i:=2) rfl)) (fun k k0 k1=>(D.iw 3 rfl k0 k1).one) Oa) ?_;rintro kl w ⟨_,rfl,gX,J⟩
   replace D:=(D.comp J).n17;clear J
   refine(zP)<|iI (lF (v:= .agg #[Y,.int Oi 1]) (hr:=by obtain⟨_,_,_,_,rfl,_⟩:=qb;kernel_rfl)) ?_
   refine iG (pO (n:=1) (len:=1) (pv:= [(0,.agg #[Y,.int Oi 1])]) (cs:= [Y,.int Oi 1]) (c:=Ze (fun _=>Y) (fun _=>1)) ZP Xb D (hf:=by obtain⟨_,_,_,_,rfl,_⟩:=qb;kernel_rfl)) ?_;rintro v1 w ⟨D,af⟩
   refine iG (pz 16 (r:=Z+1) ZP Xb D (D.f_ 17 rfl) (Xr _ _ _ _ _) (h1:=fun k _ _=>Xk (fun _=>qb.one) k)) ?_;rintro v2 w ⟨D,ac⟩
   replace D:=Sat.merge (l1:= [_,_,_]) (l2:= [_,_,_,_,_,_,_,_,_,_,_]) (l3:= [_,_]) D Oa
   have q9:=fun k (k0:0<=k) (k1:k<Z+1)=>D.iw 3 rfl k0 k1
   refine lJ (nD 6 lT D) ?_;clear D;rintro w D
   refine(On)<|ig<|sZ<|m_<|og<|m_<|m_<|og<|m_<|XZ 6 lT D ⟨_,rfl,?_⟩
   have am:=al.2 Oe
   replace D:=D.pk [0,1,15,3,4]
   replace D:=D.sJ 32 3
   exact⟨.nil,_,_,_,_,_,True,C+aa,v2,(by rw [ZV trivial];rfl),(Zgw ab U h0 Oa xz Oe (by assumption) ar.n0 O.1.d (fun j j0 j1=>by rw [ad j j0 j1,if_pos Oa])).1,⟨by omega,fun _=>Oa⟩,d_,d_,ac,D.pk [0,1,5,2,3,4]⟩}
   refine nX<|iP<|lG<|(zV (h_ 1 rO))<|(zV (g_ 7 Ug D))<|(zV (lH 14 lT D))<|iG (pO (n:=1) (len:=1) (pv:= [(0,.agg #[.int Oi I.s,I.vK,I.vL])]) (cs:= [.int Oi I.s,I.vK,I.vL]) (c:=X9 (fun _=>I.s) (fun _=>I.vK) (fun _=>I.vL)) WU VI D (hf:=by have hz:=y7;revert hz;generalize I.vK=z;rintro⟨_,_,_,_,rfl,_⟩;show _=_;have hz:=y5;revert hz;generalize I.vL=z;rintro⟨_,_,_,_,rfl,_⟩;show _=_;kernel_rfl)) ?_;rintro v1 w ⟨D,af⟩
   refine iG (pz 8 (r:=i+1) WU VI D (D.f_ 15 rfl) (ZdX _ _ _) (h1:=fun k _ _=>Zdq (fun _=>y7.one) (fun _=>y5.one) k)) ?_;rintro v2 w ⟨D,ac⟩
   replace D:=Sat.DI (l1:= [_,_,_,_,_,_,_,_,_]) (l2:= [_,_,_]) (l3:= [_,_]) D Oa (H:=fun z9=>(lD kd i I z9).zJ 32 3) (fun k k0 k1=>by(try dsimp only);rw [Zl k1]) (by(try dsimp only);rw [YP])
   refine(zV (h_ 1 rO))<|lJ (xsb 7 Ug D (hv:=ac.one)) ?_;clear D;rintro w D
   refine nT<|(zV (Zg (r:=i+1)))<|(zP)<|iq<|jm ⟨C+aa,(lD kd i I),v2,i+1,rfl,Oa,Oa,?_,?_,?_,rfl,D.pk [0,1,4,5,6,7,8,9,10,11]⟩
   {
   exact ac}
   {
   exact ab.next U h0 Oa xz Oe (by assumption)}
   {
   have h9:=al.2 Oe;omega}}
   refine oM<|(zV (lH 5 lT D))<|lJ (nD 4 lT D (hd:=(Za rfl (Za ae.one (Za rfl Zj))))) ?_;clear D;rintro w D
   refine(On)<|jk<|XZ 4 lT D ⟨_,rfl,?_⟩
   obtain rfl:i=Zn p b qz:=Oa
   replace D:=D.pk [0,1,2,6,7]
   replace D:=D.fU 1 3 (ints (fun _=>0))
   replace D:=D.pk [0,1,2,3,5,4]
   replace D:=Sat.Ed (l:= [_,_,_]) D qz
   replace D:=(D.fU 2 97 (Ze (fun _=>Oh) (fun _=>0))).iF 3 (fun _=>Oh) (fun _=>0) (fun _ _=>0)
   exact⟨(.mk qz wK (Zn p b qz) kd Oh 0 (fun _=>0)),0,_,_,_,_,True,C,Oh,(by rw [ZV trivial];rfl),((Zgv ab U ah).resolve_right (fun hh=>hh fun k=>⟨by show _<=(0:Int);omega,by show(0:Int)<=_;omega⟩)),⟨by omega,fun _=>Oa⟩,ae,d_,d_,D.pk [0,1,3,4,5,2]⟩
theorem Zm3:ZN Om 138=some (.nilFunc,1,8):=Oc
theorem ZiB{vL vD:Value}{p:cO}{b:Int}(w0:World)(h:oO w0 vL vD p):
   Calls Om 27 [.agg #[vL,vD,.int Oi p.bP,.int Oi p.aV,.int Oi b]].toArray w0 fun e w=>∃v,e= .returned v/\∃t u pv ln pt cnt e vV,v= .tuple #[.agg #[.int Oi (Tr.s t),t.vK,t.vL],vV,.int Oi e]/\Bl p b t u ln pt cnt e/\Ta t/\iK t.vK t.n/\iK t.vL t.nl/\iK vV u/\Sat w0 w [.sem (t.zJ 32 3),.own vV 2 97 u (Ze pv cnt),.sem (Frame.rows 3 u pv ln pt)]:=by
 obtain⟨hm,ab,hd,hd1,hs,hk⟩:=h.Oq
 refine iE Tryz.func27 Tryz.ntmps27 fun w D=> ?_
 refine fQ<|iG (nS (cs:= [_,_,_,_,_]) D) ?_;rintro _ w ⟨g1,rfl,D⟩
 refine iG (oh (cs:= [_,_,_]) VI D) ?_;rintro _ w ⟨g2,rfl,D⟩
 refine(On)<|l9<|(zV (lH 0 Xz D))<|iJ (xc0 OG) (PU (p:=p) (b:=b) w (h.below D.below)) ?_;rintro _ w ⟨rfl,J⟩
 replace D:=D.cmp J;clear J
 refine(zP)<|ig<|Zf ?_ ?_<;>intro hc
 {
 refine fQ<|(zV (lF (v:= .agg #[.int Oi 0,Oh,Oh])))<|lJ (nD 1 lT D) ?_;clear D;rintro w D
 refine(On)<|j_<|XZ 1 lT D ⟨_,rfl,?_⟩
 replace D:=D.nl
 replace D:=D.sJ 32 3
 replace D:=(D.fU 2 97 (Ze (fun _=>Oh) (fun _=>0))).iF 3 (fun _=>Oh) (fun _=>0) (fun _ _=>0)
 exact⟨.nil,0,_,_,_,_,1,Oh,rfl,.inl ⟨‹¬YB p b›,Yo,rfl,rfl⟩,trivial,d_,d_,d_,D⟩}
 refine ZX<|iG (oh (cs:= [_]) Zq D) ?_;rintro _ w ⟨g3,rfl,D⟩
 have N:YB p b:=Oe;have ad:=N.2.1;have ac:=N.2.2
 refine lJ (xsb 2 dw D) ?_;clear D;rintro w D
 refine iT<|iG (oh (cs:= [_]) Zm3 D) ?_;rintro _ w ⟨g4,rfl,D⟩
 refine iT<|(zV wX)<|lJ (xsb 3 Ld D) ?_;clear D;rintro w D
 refine iT<|(zV (g_ 3 Ld D))<|(zV (lH 0 Xz D))<|iJ (uU (vs:= [_]) OI) (Zoq _ (F:=Frame.rG [.blk g1 [vL,vD,.int Oi p.bP,.int Oi p.aV,.int Oi b],.blk g2 [.int Oi 0,Oh,Oh]]) (p:=p) (b:=b) (lf:=20000) w0 w (Sat.bundle (l1:= [_,_]) (D.pk [2,3,0,1])) (fun w1 hb _=>h.below hb) N ⟨by omega,Oa⟩ (Nat.lt_succ_self _)) ?_;rintro _ w ⟨I,U,aM,bJ,bI,ao,qY,ae,bH,rfl,xz,al,y7,y5,ar,D⟩
 replace D:=Sat.unbundle (l1:= [_,_,_,_,_]) (l3:= []) D
 replace D:=D.pk [0,1,3,4,5,6,2]
 have jf:=fun j (j0:0<=j) (j1:j<U)=>D.iw 3 rfl j0 j1
 have e8:=N_ xz;have fe:=ar.n0
 refine qE ?_
 refine iG (oh (cs:= [_,_,_]) VI D) ?_;rintro _ w ⟨g5,rfl,D⟩
 refine lJ (nD 7 lT D (hd:=(Za rfl (Za y7.one (Za y5.one Zj))))) ?_;clear D;rintro w D
 refine(On)<|ig<|lW<|o7<|fQ<|(Oo)<|ig<|Zf ?_ ?_<;>intro hc
 {
 refine fQ<|(zV (lF (v:= .agg #[.int Oi 0,Oh,Oh])))<|lJ (nD 5 lT D) ?_;clear D;rintro w D
 refine(On)<|XI<|XZ 5 lT D ⟨_,rfl,?_⟩
 replace D:=D.nl
 replace D:=D.sJ 32 3
 replace D:=(D.fU 2 97 (Ze (fun _=>Oh) (fun _=>0))).iF 3 (fun _=>Oh) (fun _=>0) (fun _ _=>0)
 exact⟨.nil,0,_,_,_,_,9,Oh,rfl,.inr (.inl ⟨N,ZgA N.1 xz ‹¬qY›,Yo,rfl,rfl⟩),trivial,d_,d_,d_,D⟩}
 refine fQ<|(zV (lH 4 Xz D))<|(zV (lH 7 lT D))<|(zP)<|iJ (xc0 OJ) (PS (p:=p) (b:=b) (u:=U) (n9:=I.n) (H7:=I.nl) (s9:=I.s) w (h.below D.below) y7 y5 ar) ?_;rintro _ w ⟨rfl,J⟩
 replace D:=D.cmp J;clear J
 refine(zP)<|ig<|Zf ?_ ?_<;>intro hc
 {
 refine fQ<|(zV (lF (v:= .agg #[.int Oi 0,Oh,Oh])))<|iI gu ?_
 have Z:=ZjC xz Oe Oe
 refine iJ (xc0 Iz) (IL (u:=U) (pv:=aM) (ln:=bJ) (pt:=bI) (cnt:=ao) w (⟨(D.f_ 2 rfl),fun k Y W=>D.lI 3 rfl Y W,fun k Y W=>D.lV 3 rfl Y W⟩:tq _ bH U aM bJ bI ao) Oa (fun k Y W=>by have h8:=(Z.1.1.2.2 k Y W).2.2.eq;have:=Z.1.1.1.m2;omega) (fun k Y W=>by have h8:=Z.1.1.2.2 k Y W;exact⟨h8.1,h8.2.1⟩)) ?_;rintro xM w ⟨_,qI,xH,yi,ym,xL,rfl,xA,xG,yQ,ye,xO,J⟩
 replace D:=(D.comp J).n10;clear J
 have yC:=fun k (Y:0<=k) (W:k<qI)=>D.iw 9 rfl Y W
 refine lJ (nD 5 lT D) ?_;clear D;rintro w D
 refine(On)<|XI<|XZ 5 lT D ⟨_,rfl,?_⟩
 have aa:=Zg3 Z Oa xA Oa xG yQ
 replace D:=D.pk [8,9]
 replace D:=D.sJ 32 3
 exact⟨.nil,_,_,_,_,_,0,_,rfl,.inr (.inr (.inl ⟨N,rfl,Yo,aa⟩)),trivial,d_,d_,xO,D.pk [2,0,1]⟩}
 refine fQ<|iI (lH 7 lT D) ?_
 have O:=ZjA xz Oe (by assumption)
 refine iJ (xc0 Zqe) (Zf4 (t:=I) w (Tr.CG I O.2.2.2.1.2 (D.holds (.sem (Tr.zJ 32 3 I)) (by repeat first|exact List.mem_cons_self .. |apply List.mem_cons_of_mem))).1 (Tr.CG I O.2.2.2.1.2 (D.holds (.sem (Tr.zJ 32 3 I)) (by repeat first|exact List.mem_cons_self .. |apply List.mem_cons_of_mem))).2) ?_;rintro _ w ⟨rfl,J⟩
 replace D:=D.cmp J;clear J
 refine(On)<|ig<|Zf ?_ ?_<;>intro hc
 {
 refine fQ<|(zV (lF (v:= .agg #[.int Oi 0,Oh,Oh])))<|lJ (nD 5 lT D) ?_;clear D;rintro w D
 refine(On)<|XI<|XZ 5 lT D ⟨_,rfl,?_⟩
 replace D:=D.nl
 replace D:=D.sJ 32 3
 replace D:=(D.fU 2 97 (Ze (fun _=>Oh) (fun _=>0))).iF 3 (fun _=>Oh) (fun _=>0) (fun _ _=>0)
 exact⟨.nil,0,_,_,_,_,9,Oh,rfl,.inr (.inl ⟨N,Zgz N.1 xz O.2.2.2 ‹¬V1 I›,Yo,rfl,rfl⟩),trivial,d_,d_,d_,D⟩}
 refine nX<|ng<|iP<|fQ<|(zV (lH 7 lT D))<|lJ (nD 5 lT D (hd:=(Za rfl (Za y7.one (Za y5.one Zj))))) ?_;clear D;rintro w D
 refine(On)<|jk<|XZ 5 lT D ⟨_,rfl,?_⟩
 replace D:=D.pk [6]
 replace D:=(D.fU 2 97 (Ze (fun _=>Oh) (fun _=>0))).iF 3 (fun _=>Oh) (fun _=>0) (fun _ _=>0)
 exact⟨I,0,_,_,_,_,0,Oh,rfl,.inr (.inr (.inr ⟨N,rfl,rfl,Od ‹¬¬V1 I›,O.2.2.2.1.2,O.2.1,O.2.2.1⟩)),O.2.2.2.1.2,y7,y5,d_,D⟩
end Go.Proofs.YtpnamgfdakfccaaGreat
