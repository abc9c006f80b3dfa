import Derived.Test.YtopmifmfecfaaaaGreatRpAD
set_option linter.unusedVariables false
set_option linter.unusedSimpArgs false
set_option maxRecDepth 20000
set_option maxHeartbeats 4000000
namespace Go.Proofs.YtopmifmfecfaaaaGreat
open Go Go.RowKit Go.Proofs.Gw
variable {n:Int} {y:Int->Int} {v vD vL vY:Value}
theorem Ziz:Zc Tryz.prog 113=true:=by kernel_rfl
theorem Zj2:Zc Tryz.prog 46=true:=by kernel_rfl
theorem Zj1:Zc Tryz.prog 48=true:=by kernel_rfl
theorem ZjQ:Zc Tryz.prog 79=true:=by kernel_rfl
theorem ZjP:Zc Tryz.prog 80=true:=by kernel_rfl
theorem ZjO:Zc Tryz.prog 81=true:=by kernel_rfl
theorem ZjN:Zc Tryz.prog 82=true:=by kernel_rfl
theorem ZjM:Zc Tryz.prog 83=true:=by kernel_rfl
theorem cl_84:Zc Tryz.prog 84=true:=by kernel_rfl
theorem ZgH:Z0 Tryz.prog 31=some (.agg #[.slice none 0 0,.slice none 0 0,.slice none 0 0,.int .i64 0,.int .i64 0],5,88):=by kernel_rfl
theorem ZdN:Z0 Tryz.prog 85=some (.agg #[.slice none 0 0,.slice none 0 0,.slice none 0 0,.int .i64 0,.int .i64 0,.int .i64 0],6,96):=by kernel_rfl
theorem fd_31_1:Zz Tryz.prog 31 1=some 1:=by kernel_rfl
theorem fd_85_0:Zz Tryz.prog 85 0=some 0:=by kernel_rfl
theorem VD:Zz Tryz.prog 85 1=some 5:=by kernel_rfl
theorem KE:Z6 Tryz.prog 32=true:=by kernel_rfl
theorem Ws:ZF Tryz.prog 31=some 5:=by kernel_rfl
theorem TL:ZF Tryz.prog 85=some 6:=by kernel_rfl
def U0(n:Int):Prop:=n<0\/1073741824<n
def VN(p:Prob)(n:Int)(y:Int->Int):Prop:=p.Ok/\n=p.m/\Ze9 p y
def YP(p:Prob)(y:Int->Int):Its:=⟨p.m,fun i=>p.L i+p.kerf,y,p.D⟩
theorem Zdo{p:Prob}(hp:p.Ok)(hy:Ze9 p y):(YP p y).Ok (p.stock+p.kerf):=by
  have h1:=hp.m2;have h2:=hp.s1;have h3:=hp.s2;have h4:=hp.k1;have h5:=hp.k2
  refine⟨h1,by omega,by omega,fun i i0 i1=> ?_⟩
  have h6:=hp.all i i0 i1
  have h7:=hy i i0 i1
  unfold Prob.each at h6
  show Ys (p.L i+p.kerf) (y i) (p.D i)
  unfold Ys;omega
def WC(p:Prob)(y:Int->Int):Int:=KI (YP p y) 0 (p.stock+p.kerf)
noncomputable def aC(p:Prob)(y:Int->Int):Int->Int:= @dite _ (∃x,KX (YP p y) (p.stock+p.kerf) x p.m) (Classical.propDecidable _) (fun h=>Classical.choose h) fun _ _=>0
theorem Ze5{p:Prob}(hm:0<=p.m){x:Int->Int}(h:KX (YP p y) (p.stock+p.kerf) x p.m):∀i,0<=i->i<p.m->x i=aC p y i:=by
  have hex:∃x,KX (YP p y) (p.stock+p.kerf) x p.m:=⟨x,h⟩
  have h2:=Classical.choose_spec hex
  unfold aC
  rw [dif_pos hex]
  intro i i0 i1
  exact KX.same (n:=p.m.toNat) (by rw [Int.toNat_of_nonneg hm];exact h) (by rw [Int.toNat_of_nonneg hm];exact h2) i i0 (by omega)
def PriceR(p:Prob)(n:Int)(y:Int->Int)(na:Int)(a:Int->Int)(worth e:Int):Prop:=(¬VN p n y/\na=0/\worth=0/\e=1)\/(VN p n y/\na=p.m/\a=aC p y/\(∃x,KX (YP p y) (p.stock+p.kerf) x p.m)/\worth=WC p y/\e=0)
theorem ZiS{x:Int}(w0:World):
    Calls Tryz.prog 113 [.int .i64 x].toArray w0 fun e w=>∃v,e= .returned v/\v=B (U0 x)/\Sat w0 w []:=by
  refine Zm Tryz.func113 Tryz.ntmps113 fun w hS=> ?_
  refine zsr<|(zP)<|zlz<|(zP)<|(zP)<|(zP)<|zlb 5 ?_ ?_<;>intro hc
  ·
   refine(zO)<|(zO)<|(zP)<|(zP)<|zx1<|zf1 ⟨_,rfl,?_⟩
   exact⟨ZU (by unfold U0;omega),hS⟩
  refine zs4 ?_
  refine zx1<|zf1 ⟨_,rfl,?_⟩
  exact⟨ZA (by unfold U0;omega),hS⟩
theorem Zgc{f:Int->Int}(w0:World)(hR:Row w0 v 1 n (ints f)):
    Calls Tryz.prog 95 [v,.func (.func 113) #[] #[]].toArray w0 fun e w=>∃v,e= .returned v/\∃r:Int,v= .int .i64 r/\((r= -1/\∀k,0<=k->k<n->¬(U0 (f k)))\/(0<=r/\r<n/\(U0 (f r))))/\Sat w0 w []:=by
  have hn:=hR.slh.n0;have hn1:=hR.slh.n1
  refine Zm Tryz.func95 Tryz.ntmps95 fun w hS=> ?_
  refine zsr<|(zP)<|zx5<|(zP)<|(zV (xln Zb hR.slh))<|(zP)<|zx6<|zlp (fun mm M w=>∃(i:Int),mm=((n-i).toNat)/\(0<=i)/\(i<=n)/\(∀k,0<=k->k<i->¬(U0 (f k)))/\M= [(0,v),(1,.func (.func 113) #[] #[]),(7,.int .i64 n),(8,.int .i64 i)]/\Sat w0 w []) ⟨0,rfl,(by omega),(by omega),?_,rfl,hS⟩ ?_
  ·
   intro k h0 h1;omega
  clear hS w
  rintro mm M w ⟨i,rfl,h0,h1,qa,rfl,hS⟩
  refine zsr<|(zP)<|zx7<|Ze ?_ ?_<;>intro hc
  ·
   refine zx3<|(zP)<|(zP)<|zlz<|(zP)<|(zP)<|(zP)<|(zV (xix (kk:=i) Zb hR.slh))<|(zV (xlr (u:= .int .i64 (f i)) pl_3 (hR.below hS.below)))<|zlc (xc0 Ziz) (ZiS (x:=(f i)) w) ?_;rintro _ w ⟨rfl,hS'⟩
   replace hS:=hS.cmp hS';clear hS'
   refine zlt<|Ze ?_ ?_<;>intro hc
   ·
    refine zsr<|(zP)<|(zP)<|zx2<|zf1 ⟨_,rfl,?_⟩
    exact⟨i,rfl,.inr ⟨by omega,by omega,‹U0 (f i)›⟩,hS⟩
   refine zx4<|(zV (Zf (r:=i+1)))<|(zP)<|zln<|zlq ⟨i+1,rfl,(by omega),(by omega),?_,rfl,hS⟩
   ·
    intro k h0' h1';rcases Int.lt_or_eq_of_le (show k<=i by omega) with hk|hk;exact qa k h0' hk;rw [hk];assumption
  refine zx8<|(zP)<|zx1<|zf1 ⟨_,rfl,?_⟩
  exact⟨-1,rfl,.inl ⟨rfl,fun k h0 h1=>qa k h0 (by omega)⟩,hS⟩
theorem Zgj{f:Int->Int}(w0:World)(hR:Row w0 v 1 n (ints f)):
    Calls Tryz.prog 104 [v,.func (.func 113) #[] #[]].toArray w0 fun e w=>∃v,e= .returned v/\v=B (∃k,0<=k/\k<n/\(U0 (f k)))/\Sat w0 w []:=by
  refine Zm Tryz.func104 Tryz.ntmps104 fun w hS=> ?_
  refine zsr<|(zP)<|zlz<|(zP)<|(zP)<|zlc (xc0 Zap) (Zgc w (hR.below hS.below)) ?_;rintro _ w ⟨r1,rfl,hr1,hS'⟩
  replace hS:=hS.cmp hS';clear hS'
  refine(zP)<|(zP)<|zx1<|zf1 ⟨_,rfl,?_⟩
  exact⟨ZA (by
   rcases hr1 with⟨h1,h2⟩|⟨h1,h2,h3⟩
   · exact⟨fun h=>by omega,fun⟨k,h4,h5,h6⟩=>absurd h6 (h2 k h4 h5)⟩
   · exact⟨fun _=>⟨_,h1,h2,h3⟩,fun _=>h1⟩),hS⟩
theorem ZeF{p:Prob}(w0:World)(h:PAt w0 vL vD p)(hY:Row w0 vY 1 n (ints y)):
    Calls Tryz.prog 79 [.agg #[vL,vD,.int .i64 p.stock,.int .i64 p.kerf],vY].toArray w0 fun e w=>∃v,e= .returned v/\v=B (VN p n y)/\Sat w0 w []:=by
  have hm:=h.L.slh.n0;have hm1:=h.L.slh.n1;have hd:=h.D.slh.n0;have hd1:=h.D.slh.n1;have hs:=h.is;have hk:=h.ik
  have hn0:=hY.slh.n0;have hn1:=hY.slh.n1
  refine Zm Tryz.func79 Tryz.ntmps79 fun w hS=> ?_
  refine zsr<|zla (xbx (cs:= [_,_,_,_]) hS) ?_;rintro _ w ⟨g1,rfl,hS⟩
  refine(zP)<|zlz<|(zV (xls 0 st_35 hS))<|zlc (xc0 Un) (Xo (p:=p) w (h.below hS.below)) ?_;rintro _ w ⟨rfl,hS'⟩
  replace hS:=hS.cmp hS';clear hS'
  refine(zP)<|zlb 7 ?_ ?_<;>intro hc
  ·
   refine(zP)<|(zV (xln Zb hY.slh))<|(zV (xfb 0 fd_35_0))<|(zV (xlb 0 pl_22 hS))<|(zV (xln Zb h.L.slh))<|(zP)<|(zP)<|(zP)<|zlb 15 ?_ ?_<;>intro hc
   ·
    refine(zP)<|zlc (xc0 Tn) (Zgj (n:=n) (f:=y) w (hY.below hS.below)) ?_;rintro _ w ⟨rfl,hS'⟩
    replace hS:=hS.cmp hS';clear hS'
    refine(zP)<|(zP)<|(zP)<|zx1<|zf1 ⟨_,rfl,?_⟩
    exact⟨ZA (by exact⟨fun hx=>⟨by assumption,by omega,fun k k0 k1=>by have:¬U0 (y k):=fun hh=>hx ⟨k,k0,by omega,hh⟩;unfold U0 at this;omega⟩,fun⟨h1,h2,h3⟩ ⟨k,k0,k1,hk⟩=>by have:=h3 k k0 (by omega);unfold U0 at hk;omega⟩),hS.nl⟩
   iterate 3 refine zlo ?_
   refine(zP)<|(zP)<|zx1<|zf1 ⟨_,rfl,?_⟩
   exact⟨false_B (by rintro⟨h1,h2,h3⟩;first|exact absurd h1 ‹_›|omega),hS.nl⟩
  iterate 6 refine zlo ?_
  refine zs2 ?_
  iterate 3 refine zlo ?_
  refine(zP)<|(zP)<|zx1<|zf1 ⟨_,rfl,?_⟩
  exact⟨false_B (by rintro⟨h1,h2,h3⟩;first|exact absurd h1 ‹_›|omega),hS.nl⟩
theorem ZcG{p:Prob}(w0:World)(h:PAt w0 vL vD p)(hY:Row w0 vY 1 n (ints y)):
    Calls Tryz.prog 88 [.agg #[vL,vD,.int .i64 p.stock,.int .i64 p.kerf],vY].toArray w0 fun e w=>∃v,e= .returned v/\v=B (VN p n y)/\Sat w0 w []:=by
  have hm:=h.L.slh.n0;have hm1:=h.L.slh.n1;have hd:=h.D.slh.n0;have hd1:=h.D.slh.n1;have hs:=h.is;have hk:=h.ik
  have hn0:=hY.slh.n0;have hn1:=hY.slh.n1
  refine Zm Tryz.func88 Tryz.ntmps88 fun w hS=> ?_
  refine zsr<|zla (xbx (cs:= [_,_,_,_]) hS) ?_;rintro _ w ⟨g1,rfl,hS⟩
  refine(zP)<|zx5<|(zV (xls 0 ZC hS))<|zlc (xc0 Uo) (YH (p:=p) w (h.below hS.below)) ?_;rintro _ w ⟨rfl,hS'⟩
  replace hS:=hS.cmp hS';clear hS'
  refine(zP)<|(zP)<|zlb 9 ?_ ?_<;>intro hc
  ·
   iterate 6 refine zlo ?_
   refine(zP)<|zlt<|zct<|zsr ?_
   refine(zP)<|zx14<|zf1 ⟨_,rfl,?_⟩
   exact⟨false_B (by rintro⟨h1,h2,h3⟩;first|exact absurd h1 ‹_›|omega|(have:=h3 i h0 (by omega);omega)),hS.nl⟩
  refine(zP)<|(zV (xln Zb hY.slh))<|(zV (xfb 0 fd_24_0))<|(zV (xlb 0 pl_22 hS))<|(zV (xln Zb h.L.slh))<|(zP)<|(zP)<|zlt<|Ze ?_ ?_<;>intro hc
  ·
   refine zsr<|(zP)<|zx14<|zf1 ⟨_,rfl,?_⟩
   exact⟨false_B (by rintro⟨h1,h2,h3⟩;first|exact absurd h1 ‹_›|omega|(have:=h3 i h0 (by omega);omega)),hS.nl⟩
  refine Xb<|(zP)<|zx6<|zlp (fun mm M w=>∃(i:Int),mm=((n-i).toNat)/\(0<=i)/\(i<=n)/\(∀k,0<=k->k<i->0<=y k/\y k<=1073741824)/\M= [(1,vY),(5,.int .i64 i)]/\Sat w0 w [.blk g1 [vL,vD,.int .i64 p.stock,.int .i64 p.kerf]]) ⟨0,rfl,(by omega),(by omega),?_,rfl,hS⟩ ?_
  ·
   intro k h0 h1;omega
  clear hS w
  rintro mm M w ⟨i,rfl,h0,h1,qa,rfl,hS⟩
  refine zx11<|(zP)<|(zP)<|(zV (xln Zb hY.slh))<|(zP)<|zlt<|Ze ?_ ?_<;>intro hc
  ·
   refine zx3<|(zP)<|(zP)<|(zV (xix (kk:=i) Zb hY.slh))<|(zV (xlr (u:= .int .i64 (y i)) pl_3 (hY.below hS.below)))<|(zP)<|(zP)<|zlb 28 ?_ ?_<;>intro hc
   ·
    iterate 5 refine zlo ?_
    refine(zP)<|zlt<|zct<|zsr ?_
    refine(zP)<|zx2<|zf1 ⟨_,rfl,?_⟩
    exact⟨false_B (by rintro⟨h1,h2,h3⟩;first|exact absurd h1 ‹_›|omega|(have:=h3 i h0 (by omega);omega)),hS.nl⟩
   refine(zP)<|(zP)<|(zV (xix (kk:=i) Zb hY.slh))<|(zV (xlr (u:= .int .i64 (y i)) pl_3 (hY.below hS.below)))<|(zP)<|(zP)<|zlt<|Ze ?_ ?_<;>intro hc
   ·
    refine zsr<|(zP)<|zx2<|zf1 ⟨_,rfl,?_⟩
    exact⟨false_B (by rintro⟨h1,h2,h3⟩;first|exact absurd h1 ‹_›|omega|(have:=h3 i h0 (by omega);omega)),hS.nl⟩
   refine zx4<|(zP)<|(zV (Zf (r:=i+1)))<|(zP)<|zln<|zlq ⟨i+1,rfl,(by omega),(by omega),?_,rfl,hS⟩
   ·
    intro k h0' h1';rcases Int.lt_or_eq_of_le (show k<=i by omega) with hk|hk;exact qa k h0' hk;rw [hk];omega
  refine zx8<|(zP)<|zx1<|zf1 ⟨_,rfl,?_⟩
  exact⟨ZU (by exact⟨by first|assumption|exact Classical.not_not.1 ‹_›,by omega,fun k k0 k1=>qa k k0 (by omega)⟩),hS.nl⟩
theorem Zf8{p:Prob}(w0:World)(h:PAt w0 vL vD p)(hY:Row w0 vY 1 n (ints y)):
    Calls Tryz.prog 46 [.agg #[vL,vD,.int .i64 p.stock,.int .i64 p.kerf],vY].toArray w0 fun e w=>∃v,e= .returned v/\∃r na a worth e,v= .tuple #[r,.int .i64 worth,.int .i64 e]/\PriceR p n y na a worth e/\Slh r na/\Sat w0 w [.own r 1 3 na (ints a)]:=by
  have hm:=h.L.slh.n0;have hm1:=h.L.slh.n1;have hd:=h.D.slh.n0;have hd1:=h.D.slh.n1;have hs:=h.is;have hk:=h.ik
  have hn0:=hY.slh.n0;have hn1:=hY.slh.n1
  refine Zm Tryz.func46 Tryz.ntmps46 fun w hS=> ?_
  refine zsr<|zla (xbx (cs:= [_,_,_,_]) hS) ?_;rintro _ w ⟨g1,rfl,hS⟩
  refine(zP)<|(zP)<|(zP)<|zx5<|(zV (xls 0 st_35 hS))<|(zP)<|zlc (xc0 ZjQ) (ZeF (p:=p) (n:=n) (y:=y) w (h.below hS.below) (hY.below hS.below)) ?_;rintro _ w ⟨rfl,hS'⟩
  replace hS:=hS.cmp hS';clear hS'
  refine(zP)<|zlt<|Ze ?_ ?_<;>intro hc
  ·
   refine zsr<|(zP)<|(zP)<|(zP)<|zx14<|zf3 ⟨_,rfl,?_⟩
   exact⟨_,0,fun _=>0,0,1,rfl,.inl ⟨‹¬VN p n y›,rfl,rfl,rfl⟩,slh_nil,(hS.addnil 1 3 (ints fun _=>0)).pk [1]⟩
  refine Z7<|(zP)<|zx5<|(zV (xfb 0 fd_35_0))<|(zV (xlb 0 pl_22 hS))<|(zV (xln Zb h.L.slh))<|(zP)<|zx6 ?_
  have hpr:VN p n y:=by first|assumption|exact Classical.not_not.1 ‹_›
  obtain⟨hok,hnm,hyp⟩:=id hpr
  have hs1:=hok.s1;have hs2:=hok.s2;have hk1:=hok.k1;have hk2:=hok.k2;have hm2:=hok.m2;have hmd:=hok.d
  replace hS:=hS.addnil 3 125 (ZM (fun _=>0) (fun _=>0) (fun _=>0))
  refine zlp (fun mm M w=>∃(nC:Int) (fS:Int->Int) (fV:Int->Int) (fM:Int->Int) (i:Int) (wC:Value),mm=((p.m-i).toNat)/\(0<=i)/\(i<=p.m)/\(nC=i)/\(∀k,0<=k->k<i->fS k=(YP p y).S k/\fV k=(YP p y).V k/\fM k=(YP p y).M k)/\(Slh wC nC)/\M= [(1,vY),(2,.pointer (some ⟨g1,0,none⟩)),(4,.slice none 0 0),(5,.int .i64 0),(6,.int .i64 0),(7,wC),(15,vL),(16,.int .i64 p.m),(17,.int .i64 i)]/\Sat w0 w [.blk g1 [vL,vD,.int .i64 p.stock,.int .i64 p.kerf],.own wC 3 125 nC (ZM fS fV fM)]) ⟨0,(fun _=>0),(fun _=>0),(fun _=>0),0,(.slice none 0 0),rfl,(by omega),(by omega),(by omega),?_,?_,rfl,hS⟩ ?_
  ·
   intro k k0 k1;omega
  ·
   exact slh_nil
  clear hS w
  rintro mm M w ⟨nC,fS,fV,fM,i,wC,rfl,h0,h1,hnC,hcc,hwC,rfl,hS⟩
  refine zsr<|(zP)<|zx7<|Ze ?_ ?_<;>intro hc
  ·
   refine zx3<|(zP)<|(zV (xix (kk:=i) Zb h.L.slh))<|zlv (xlr (u:= .int .i64 (p.L i)) pl_3 (h.L.below hS.below)) ?_
   have hbv:=h.iL i
   have he:=hok.all i h0 (by omega);unfold Prob.each at he
   refine(zP)<|(zP)<|zlt<|zdst [0] [0] 1000 mx_ hS ?_;clear hS;intro w hS
   refine(zDw 0 xmv)<|(zDw 1 xmv)<|(zDw 2 (xfb 3 fd_35_3))<|(zDl 3 (fun w hS=>(xlb 0 pl_3 hS)))<|(zDw 4 (Zf (r:=p.L i+p.kerf)))<|(zDw 5 xmv)<|(zDw 6 xmv)<|(zDw 7 (xix (kk:=i) Zb hY.slh))<|(zDl 8 (fun w hS=>(xlr (u:= .int .i64 (y i)) pl_3 (hY.below hS.below))))<|(zDw 9 (xfb 1 fd_35_1))<|(zDl 10 (fun w hS=>(xlb 0 pl_22 hS)))<|(zDw 11 xmv)<|(zDw 12 (xix (kk:=i) Zb h.D.slh))<|zdla 13 (fun w hS=>(xlr (u:= .int .i64 (p.D i)) pl_3 (h.D.below hS.below))) ?_
   have hbv:=h.iD i
   refine(zDw 14 (xany (v:= .agg #[.int .i64 (p.L i+p.kerf),.int .i64 (y i),.int .i64 (p.D i)])))<|zda 15 (xli (n:=1) (len:=1) (pv:= [(0,.agg #[.int .i64 (p.L i+p.kerf),.int .i64 (y i),.int .i64 (p.D i)])]) (cs:= [.int .i64 (p.L i+p.kerf),.int .i64 (y i),.int .i64 (p.D i)]) (c:=ZM (fun _=>p.L i+p.kerf) (fun _=>(y i)) (fun _=>p.D i)) XB ZaZ hS) ?_;rintro v1 w ⟨hS,hv1⟩
   refine⟨⟨fun _=>hS.pk [0],hS.pk [0]⟩,?_⟩
   refine zda 16 (xap 1 (r:=nC+1) XB ZaZ hS (hS.rowN 2 rfl) (To ..) (h1:=(fun k _ _=>Tk _ _ _ k))) ?_;rintro v2 w ⟨hS,hv2⟩
   refine⟨⟨fun _=>hS.pk [0],hS.pk [0]⟩,?_⟩
   refine(zDw 17 xas)<|zdd<|zbn<|ztn<|zrg ?_
   refine(zV (Zf (r:=i+1)))<|(zP)<|zln<|zlq ⟨nC+1,(snoc fS nC (p.L i+p.kerf)),(snoc fV nC (y i)),(snoc fM nC (p.D i)),i+1,v2,rfl,(by omega),(by omega),(by omega),?_,?_,rfl,hS.pk [0,1]⟩
   ·
    intro k k0 k1;by_cases e:k<i
    · rw [Zl (by omega),Zl (by omega),Zl (by omega)];exact hcc k k0 e
    · obtain rfl:k=i:=by omega
      rw [Zk (by omega),Zk (by omega),Zk (by omega)];exact⟨rfl,rfl,rfl⟩
   ·
    exact hv2
  refine zx8<|zlv xmv ?_
  obtain rfl:i=p.m:=by omega
  subst hnC
  replace hS:=hS.recont 1 rfl (d:=ZM (YP p y).S (YP p y).V (YP p y).M) (VH hcc)
  refine(zV (xfb 2 fd_35_2))<|(zV (xlb 0 pl_3 hS))<|(zV (xfb 3 fd_35_3))<|(zV (xlb 0 pl_3 hS))<|(zV (Zf (r:=p.stock+p.kerf)))<|zlc (xc0 ZjP) (ZeQ (t:=(YP p y)) (cap:=(p.stock+p.kerf)) w (hS.rowN 1 rfl)) ?_;rintro _ w ⟨dE,aX,dz,dA,eN,rfl,ao,ag,hS'⟩
  replace hS:=(hS.comp hS').n3;clear hS'
  refine zs6 ?_
  refine zx1<|zf3 ⟨_,rfl,?_⟩
  have hio:=Zdo hok hyp
  obtain⟨_,q2,q3,q4,q5⟩:=ao.resolve_left (fun hh=>hh.1 hio)
  replace q2:aX=p.m:=q2
  subst q2
  replace hS:=hS.recont 2 rfl (d:=ints (aC p y)) (fun k k0 k1=>by unfold ints;rw [Ze5 (by omega) q3 k k0 (by omega)])
  exact⟨_,_,_,_,_,rfl,.inr ⟨hpr,rfl,rfl,⟨_,q3⟩,q4,q5⟩,ag,hS.pk [2]⟩
def BoundR(p:Prob)(n:Int)(y:Int->Int)(num den e:Int):Prop:=(¬VN p n y/\num=0/\den=0/\e=1)\/(VN p n y/\WC p y=0/\num=0/\den=1/\e=0)\/
  (VN p n y/\WC p y≠0/\num=(Tot p.D y p.m.toNat).tdiv (Int.gcd (Tot p.D y p.m.toNat) (WC p y))/\den=(WC p y).tdiv (Int.gcd (Tot p.D y p.m.toNat) (WC p y))/\e=0)
theorem BoundR.same{p:Prob}{a b e a2 b2 e2:Int}(h:BoundR p n y a b e)(h':BoundR p n y a2 b2 e2):a=a2/\b=b2/\e=e2:=by
  rcases h with⟨h1,h2,h3,h4⟩|⟨h1,h2,h3,h4,h5⟩|⟨h1,h2,h3,h4,h5⟩<;>rcases h' with⟨g1,g2,g3,g4⟩|⟨g1,g2,g3,g4,g5⟩|⟨g1,g2,g3,g4,g5⟩<;>
    first
    |exact absurd ‹VN p n y› ‹¬VN p n y›
    |exact absurd ‹WC p y=0› ‹WC p y≠0›
    |(subst_vars;exact⟨rfl,rfl,rfl⟩)
structure CX where
  u:Int
  vP:Value
  vv:Int->Value
  ml:Int->Int
  mf:Int->Int->Int
  vX:Value
  vY:Value
  s:So
  e:Int
inductive CRn (p:Prob):Int->(Int->Int)->(Int->Int->Int)->Int->Prop
  |start {u e:Int} {ml:Int->Int} {mf:Int->Int->Int} (h:Ki p u ml mf e):CRn p u ml mf e
  |go {u na worth f:Int} {ml:Int->Int} {mf:Int->Int->Int} {a:Int->Int} {s:So} (h:CRn p u ml mf 0) (hs:MSolveR p u ml mf s 0) (hp:PriceR p s.m s.Y na a worth f) (hn:¬(f=0/\worth<=s.den)):CRn p (u+1) (gsn ml u na) (gsn mf u a) f
def Zch(p:Prob)(s:So):Prop:=∃na a worth,PriceR p s.m s.Y na a worth 0/\worth<=s.den
def ZkB(x:CX):List Ent:= [.own x.vP 1 22 x.u x.vv,.sem (Frame.rows 3 x.u x.vv x.ml x.mf),.own x.vX 1 3 x.s.n (ints x.s.X),.own x.vY 1 3 x.s.m (ints x.s.Y)]
def Zgz(p:Prob)(s:List CX)(x:CX)(rest:Gw.Frame):Prop:=(∀y∈s,y.e=0)/\Slh x.vP x.u/\Slh x.vX x.s.n/\Slh x.vY x.s.m/\(x.e=0->Frame.gives rest (ZkB x))/\
  ∃e,CRn p x.u x.ml x.mf e/\((e≠0/\x.e=e/\x.s=So.zero)\/(e=0/\MSolveR p x.u x.ml x.mf x.s x.e))
def ZkC(p:Prob)(s:List CX)(rest:Gw.Frame):Prop:=∃s' x,s=s'++ [x]/\Zgz p s' x rest/\(x.e=0->Zch p x.s)
theorem MSolveR.few{p:Prob}{u:Int}{ml:Int->Int}{mf:Int->Int->Int}{s:So}(h:MSolveR p u ml mf s 0):p.Ok/\u<=60/\s.m=p.m:=by
  rcases h with⟨_,_,h⟩|⟨_,_,_,h⟩|⟨_,_,_,_,_,_,h⟩|⟨h1,h2,h3,h4,h5,h6,h7⟩|⟨h1,h2,h3,h4,h5⟩
  · omega
  · omega
  · omega
  · exact⟨h1.1,h3,by rw [h6];rfl⟩
  · refine⟨h1.1,h3,?_⟩
    have:=(SolveR.chk (p:=ZaU p u mf) (by have:=h1.1.m1;show 0<=p.m;omega) h5 rfl).m
    exact this
theorem MSolveR.zero{p:Prob}{u e:Int}{ml:Int->Int}{mf:Int->Int->Int}{s:So}(h:MSolveR p u ml mf s e)(he:e≠0):s=So.zero:=by
  rcases h with⟨_,h,_⟩|⟨_,_,h,_⟩|⟨_,_,_,_,_,h,_⟩|⟨_,_,_,_,_,_,h⟩|⟨_,_,_,_,h⟩
  · exact h
  · exact h
  · exact h
  · exact absurd h he
  · exact h.zero he
theorem ZeZ {vv:Int->Value} (w0:World) (ho:(Ent.own v 1 22 n vv).holds w0) (h1:∀k,0<=k->k<n->(vv k).oneCell'=true) (hn:n<=1000000):Calls Tryz.prog 83 [v].toArray w0 fun e w=>∃u,e= .returned u/\∃r,u=r/\Slh r n/\Sat w0 w [.own r 1 22 n vv]:=by
  have qO:=ho.row
  obtain⟨hn0,hn1,⟨rfl,rfl⟩|⟨g,cap,cur,rfl,hg,h2,h3,h4,h5⟩⟩:=ho
  · refine(Ww 0 0 w0).mono fun e w ⟨he,hw⟩=>⟨_,he,_,rfl,slh_nil,?_⟩
    rw [hw]
    exact(Sat.start w0).addnil 1 22 vv
  · obtain⟨i,hi,hz,hs,hb⟩:=Xu Ya
    refine(VT i (.slice none 0 0) 1 24 hi hz hs hb rfl (by decide) (fun w=>by simp [sizeOf,typeInfo,hi,hs]) g 0 n.toNat cap (cellsOf vv n.toNat) w0 (by rw [ZQ];omega) (by unfold maxLen;omega) (by omega) (fun j u hj=> ?_) (fun u hu=> ?_)).mono fun e w ⟨r,he,hr,_,hB⟩=>⟨r,he,r,rfl,?_⟩
    · rw [cellsOf_get] at hj
      split at hj
      · rename_i hlt
        cases hj
        have:=qO.2 j (by omega)
        rw [<-this];simp [cad]
      · cases hj
    · obtain⟨j,hj⟩:=List.getElem?_of_mem hu
      rw [cellsOf_get] at hj
      split at hj
      · cases hj;exact h1 j (by omega) (by omega)
      · cases hj
    · have hE:(Ent.own r 1 22 n vv).holds w:=Ent.holds.of_owns hn0 (by omega) (by rw [Nat.mul_one];exact hr)
      exact⟨hE.row.slh,hB,fun e he=>by obtain rfl:=List.mem_singleton.1 he;exact hE,fun e he g hg=>by obtain rfl:=List.mem_singleton.1 he;exact(hr.lt g hg).1,List.pairwise_singleton _ _⟩
theorem Zbd{p:Prob}{gp:Nat}(w0:World)(h:PAt w0 vL vD p):ItC (St:=List CX) (X:=CX) (Tt:=CX) Tryz.prog w0 81 [.pointer (some ⟨gp,0,none⟩)] [.blk gp [vL,vD,.int .i64 p.stock,.int .i64 p.kerf]] (fun x=> [.agg #[x.vP,x.vX,x.vY,.int .i64 x.s.val,.int .i64 x.s.den,.int .i64 x.e]]) (Zgz p) (fun s x s1=>s1=s++ [x]) (fun _ _ _=>False) ([]) (ZkC p) (fun _ _=>False):=by
  intro l C D w hS hY
  have hm:=h.L.slh.n0;have hm1:=h.L.slh.n1;have hd:=h.D.slh.n0;have hd1:=h.D.slh.n1;have hs:=h.is;have hk:=h.ik
  refine Zg8 Tryz.func81 Tryz.ntmps81 ?_
  refine hsq<|hrz ?_
  refine zlv (xls 1 st_35 hS) ?_
  refine zlc (xc0 ZjN) (ZeM (p:=p) w (h.below hS.below)) ?_;rintro _ w ⟨ay,y4,zM,az,aA,dv,rfl,zd,aj,hS'⟩
  replace hS:Sat w0 w [.sem (C []),.blk gp [vL,vD,.int .i64 p.stock,.int .i64 p.kerf],.own ay 1 22 y4 zM,.sem (Frame.rows 3 y4 zM az aA)]:=hS.comp hS';clear hS'
  have cN:=fun k (k0:0<=k) (k1:k<y4)=>hS.slhIn 3 rfl k0 k1
  refine zs5 ?_
  refine zln<|zh<|htn<|hbk<|hlp (fun mm M w=>∃(s:List CX) (u:Int) (wP:Value) (vv:Int->Value) (ml:Int->Int) (mf:Int->Int->Int) (e:Int),mm=((62-u).toNat)/\(CRn p u ml mf e)/\(∀y∈s,y.e=0)/\(Slh wP u)/\(u<=61)/\M= [(0,.func (.yield l) #[] #[]),(1,.pointer (some ⟨gp,0,none⟩)),(3,wP),(4,.int .i64 e)]/\Sat w0 w [.sem (C s),.blk gp [vL,vD,.int .i64 p.stock,.int .i64 p.kerf],.own wP 1 22 u vv,.sem (Frame.rows 3 u vv ml mf)]) ⟨[],y4,ay,zM,az,aA,dv,rfl,?_,?_,?_,?_,rfl,hS⟩ ?_
  ·
   exact .start zd
  ·
   intro y hy;cases hy
  ·
   exact aj
  ·
   rcases zd with⟨_,h9,_⟩|⟨h9,h8,_⟩
   · omega
   · have:=Wd p p.m.toNat;have:=h9.m2;have:=h9.m1;omega
  clear hS w
  rintro mm M w ⟨s,u,wP,vv,ml,mf,e,rfl,hRn,qs,hsP,e7,rfl,hS⟩
  have hrs:=fun k (k0:0<=k) (k1:k<u)=>hS.slhIn 3 rfl k0 k1
  have hu0:=hsP.n0
  refine hbk<|hsq<|hrz ?_
  refine zlv xmv ?_
  refine zlc (xc0 ZjM) (ZeZ w (hS.holds _ (List.mem_of_getElem? (i:=2) rfl)) (fun k k0 k1=>(hS.slhIn 3 rfl k0 k1).one) (by omega)) ?_;rintro xx w ⟨_,rfl,y6,hS'⟩
  replace hS:Sat w0 w [.sem (C s),.blk gp [vL,vD,.int .i64 p.stock,.int .i64 p.kerf],.own wP 1 22 u vv,.sem (Frame.rows 3 u vv ml mf),.own xx 1 22 u vv]:=hS.comp hS';clear hS'
  refine zlv (xany (v:= .agg #[xx,.slice none 0 0,.slice none 0 0,.int .i64 0,.int .i64 0]) (hr:=by obtain⟨_,_,_,_,rfl,_⟩:=y6;kernel_rfl)) ?_
  refine zlv xmv ?_
  refine zlv (xany (v:= .agg #[xx,.slice none 0 0,.slice none 0 0,.int .i64 0,.int .i64 0,.int .i64 e]) (hr:=by obtain⟨_,_,_,_,rfl,_⟩:=y6;kernel_rfl)) ?_
  refine zla (xal (cs:= [_,_,_,_,_,_]) ZdN hS) ?_;rintro _ w ⟨g1,rfl,hS⟩
  replace hS:=hS.n6
  refine zle (xsw 5 TL hS (hd:=(Za y6.one (Za rfl (Za rfl (Za rfl (Za rfl (Za rfl Zg)))))))) ?_;clear hS;rintro w hS
  replace hS:=hS.n6
  refine zln<|zh<|htn<|hsq<|hsq<|hrz ?_
  refine zs2 ?_
  refine zln<|zh<|htn ?_
  refine Wz ?_ ?_<;>intro hc
  ·
   refine hrz ?_
   refine zlv (xls 1 st_35 hS) ?_
   refine zlv xmv ?_
   refine zlc (xc0 cl_84) (c_msolve (p:=p) (u:=u) (ml:=ml) (mf:=mf) w (h.below hS.below) (⟨(hS.rowN 2 rfl),fun k k0 k1=>hS.rowIn 3 rfl k0 k1,fun k k0 k1=>hS.roomIn 3 rfl k0 k1⟩:MAt _ wP u vv ml mf)) ?_;rintro _ w ⟨yv,yu,qM,zp,rfl,yG,xo,xn,hS'⟩
   replace hS:Sat w0 w [.sem (C s),.blk gp [vL,vD,.int .i64 p.stock,.int .i64 p.kerf],.own wP 1 22 u vv,.sem (Frame.rows 3 u vv ml mf),.own xx 1 22 u vv,.blk g1 [xx,.slice none 0 0,.slice none 0 0,.int .i64 0,.int .i64 0,.int .i64 e],.own yv 1 3 qM.n (ints qM.X),.own yu 1 3 qM.m (ints qM.Y)]:=hS.comp hS';clear hS'
   refine zs3 ?_
   refine zlv (xfb 0 fd_85_0) ?_
   refine zlv (xfb 1 fd_31_1) ?_
   refine zle (xsp 5 Z3 hS (hd:=(Za xo.one (Za xn.one (Za rfl (Za rfl Zg)))))) ?_;clear hS;rintro w hS
   replace hS:=hS.n8
   refine zlv (xfb 5 VD) ?_
   refine zle (xsb 5 KE hS) ?_;clear hS;rintro w hS
   replace hS:=hS.n8
   refine zln<|zh<|htn<|hsq<|hsq<|hrg ?_
   refine hlv xmv ?_
   refine hlv (xls 5 TL hS) ?_
   have xb:Zgz p s ⟨u,xx,vv,ml,mf,yv,yu,qM,zp⟩ (Frame.bun [.own wP 1 22 u vv,.sem (Frame.rows 3 u vv ml mf),.own xx 1 22 u vv,.blk g1 [xx,yv,yu,.int .i64 qM.val,.int .i64 qM.den,.int .i64 zp],.own yv 1 3 qM.n (ints qM.X),.own yu 1 3 qM.m (ints qM.Y)]):=⟨qs,y6,xo,xn,fun _=>U7 [2,1,4,5],e,hRn,.inr ⟨by assumption,yG⟩⟩
   refine hly (hY s _ _ w xb (Sat.bundle (l1:= [_,_]) hS)) ?_;rintro _ w (⟨rfl,sy1,xf,hS⟩|⟨rfl,ty1,yL,hS⟩)
   ·
    replace hS:=Sat.unbundle (l1:= [_,_]) (l3:= []) hS
    replace hS:=hS.n8
    refine hlv xnt ?_
    refine hlv xmv ?_
    refine hlv (xfb 5 VD) ?_
    refine hlv (xlb 5 KE hS) ?_
    refine hlv YN ?_
    refine hlv xpf ?_
    refine hln<|htn ?_
    refine Wz ?_ ?_<;>intro hc
    ·
     refine hrt<|ztr<|zbr<|ztr<|zbr<|zf0 ⟨_,rfl,?_⟩
     subst xf
     exact .inl ⟨_,_,⟨s,_,rfl,⟨xb.1,xb.2.1,xb.2.2.1,xb.2.2.2.1,fun _=>U7 [2,1,4,5],xb.2.2.2.2.2⟩,by first|exact fun hh=>absurd hh (by assumption)|exact fun _=>⟨_,_,_,(by rw [show(0:Int)=zk by omega];exact yZ),by show aw<=qM.den;omega⟩⟩,Sat.bundle (l1:= [_,_]) hS⟩
    refine hsk<|htn<|hsq<|hrz ?_
    refine zlv (xls 1 st_35 hS) ?_
    refine zlv (xfb 0 fd_85_0) ?_
    refine zlv (xfb 1 fd_31_1) ?_
    refine zlv (xfb 2 fd_29_1) ?_
    refine zlv (xlb 5 pl_22 hS) ?_
    refine zlc (xc0 Zj2) (Zf8 (p:=p) (n:=qM.m) (y:=qM.Y) w (h.below hS.below) (hS.rowN 7 rfl)) ?_;rintro _ w ⟨xj,zQ,zJ,aw,zk,rfl,x8,yi,hS'⟩
    replace hS:Sat w0 w [.sem (C sy1),.blk gp [vL,vD,.int .i64 p.stock,.int .i64 p.kerf],.own wP 1 22 u vv,.sem (Frame.rows 3 u vv ml mf),.own xx 1 22 u vv,.blk g1 [xx,yv,yu,.int .i64 qM.val,.int .i64 qM.den,.int .i64 zp],.own yv 1 3 qM.n (ints qM.X),.own yu 1 3 qM.m (ints qM.Y),.own xj 1 3 zQ (ints zJ)]:=hS.comp hS';clear hS'
    refine zs2 ?_
    have hfe:=yG;rw [show zp=0 by omega] at hfe
    obtain⟨hok,bL,hsm⟩:=hfe.few
    refine zs5 ?_
    refine zln<|zh<|htn<|hsq<|hsq<|hrz ?_
    refine zs3 ?_
    refine zlb 51 ?_ ?_<;>intro hc
    ·
     refine zlv xmv ?_
     refine zlv (xfb 0 fd_85_0) ?_
     refine zlv (xfb 1 fd_31_1) ?_
     refine zlv (xfb 4 fd_29_3) ?_
     refine zlv (xlb 5 pl_3 hS) ?_
     refine zs2 ?_
     have yZ:=x8
     refine zln<|zh<|htn ?_
     refine Wz ?_ ?_<;>intro hc
     ·
      refine hrt<|ztr<|zbr<|ztr<|zbr<|zf0 ⟨_,rfl,?_⟩
      subst xf
      exact .inl ⟨_,_,⟨s,_,rfl,⟨xb.1,xb.2.1,xb.2.2.1,xb.2.2.2.1,fun _=>U7 [2,1,4,5],xb.2.2.2.2.2⟩,by first|exact fun hh=>absurd hh (by assumption)|exact fun _=>⟨_,_,_,(by rw [show(0:Int)=zk by omega];exact yZ),by show aw<=qM.den;omega⟩⟩,Sat.bundle (l1:= [_,_]) hS⟩
     refine hsk<|htn<|hrz ?_
     refine zs2 ?_
     refine zla (xli (n:=1) (len:=1) (pv:= [(0,xj)]) (cs:= [xj]) (c:=(fun _=>xj)) Zi Ya hS (hf:=by obtain⟨_,_,_,_,rfl,_⟩:=yi;kernel_rfl)) ?_;rintro v1 w ⟨hS,hv1⟩
     replace hS:=hS.n10
     refine zla (xap 2 (r:=u+1) Zi Ya hS (hS.rowN 9 rfl) (Y8 _ _ _) (h1:=fun _ _ _=>yi.one)) ?_;rintro v2 w ⟨hS,hv2⟩
     replace hS:=hS.n10
     replace hS:=Sat.merge (l1:= [_,_,_]) (l2:= [_,_,_,_]) (l3:= [_]) hS (by omega)
     have qN:=fun k (k0:0<=k) (k1:k<u+1)=>hS.slhIn 3 rfl k0 k1
     replace hS:=hS.n9
     refine zs3 ?_
     refine zln<|zh<|zbn<|hlq ⟨sy1,u+1,v2,gsn vv u xj,gsn ml u zQ,gsn mf u zJ,zk,rfl,?_,?_,?_,?_,rfl,hS.pk [0,1,2,3]⟩
     ·
      exact .go (by rw [show(0:Int)=e by omega];exact hRn) hfe x8 (by omega)
     ·
      rw [xf];intro y hy;rcases List.mem_append.1 hy with hy|hy
      · exact qs y hy
      · obtain rfl:=List.mem_singleton.1 hy;show zp=0;omega
     ·
      exact hv2
     ·
      omega
    iterate 6 refine zlo ?_
    refine zlv xpf ?_
    have yZ:=x8
    refine zln<|zh<|htn<|hcf<|hsk<|htn<|hrz ?_
    refine zs2 ?_
    refine zla (xli (n:=1) (len:=1) (pv:= [(0,xj)]) (cs:= [xj]) (c:=(fun _=>xj)) Zi Ya hS (hf:=by obtain⟨_,_,_,_,rfl,_⟩:=yi;kernel_rfl)) ?_;rintro v3 w ⟨hS,hv3⟩
    replace hS:=hS.n10
    refine zla (xap 2 (r:=u+1) Zi Ya hS (hS.rowN 9 rfl) (Y8 _ _ _) (h1:=fun _ _ _=>yi.one)) ?_;rintro v4 w ⟨hS,hv4⟩
    replace hS:=hS.n10
    replace hS:=Sat.merge (l1:= [_,_,_]) (l2:= [_,_,_,_]) (l3:= [_]) hS (by omega)
    have xe:=fun k (k0:0<=k) (k1:k<u+1)=>hS.slhIn 3 rfl k0 k1
    replace hS:=hS.n9
    refine zs3 ?_
    refine zln<|zh<|zbn<|hlq ⟨sy1,u+1,v4,gsn vv u xj,gsn ml u zQ,gsn mf u zJ,zk,rfl,?_,?_,?_,?_,rfl,hS.pk [0,1,2,3]⟩
    ·
     exact .go (by rw [show(0:Int)=e by omega];exact hRn) hfe x8 (by omega)
    ·
     rw [xf];intro y hy;rcases List.mem_append.1 hy with hy|hy
     · exact qs y hy
     · obtain rfl:=List.mem_singleton.1 hy;show zp=0;omega
    ·
     exact hv4
    ·
     omega
   ·
    replace hS:=Sat.unbundle (l1:= [_,_]) (l3:= []) hS
    replace hS:=hS.n8
    refine hlv xnf ?_
    refine hlv xmv ?_
    iterate 3 refine hlo ?_
    refine hlv xpt ?_
    refine hln<|htn<|hct<|hrt<|ztr<|zbr<|ztr<|zbr<|zf0 ⟨_,rfl,?_⟩
    exact yL.elim
  refine hsk<|htn<|hsq<|hsq<|hrg ?_
  refine hlv xmv ?_
  refine hlv (xls 5 TL hS) ?_
  have yF:Zgz p s ⟨u,xx,vv,ml,mf,.slice none 0 0,.slice none 0 0,So.zero,e⟩ (Frame.bun [.own wP 1 22 u vv,.sem (Frame.rows 3 u vv ml mf),.own xx 1 22 u vv,.blk g1 [xx,.slice none 0 0,.slice none 0 0,.int .i64 0,.int .i64 0,.int .i64 e]]):=⟨qs,y6,slh_nil,slh_nil,fun hh=>absurd hh (by assumption),e,hRn,.inl ⟨by assumption,rfl,rfl⟩⟩
  refine hly (hY s _ _ w yF (Sat.bundle (l1:= [_,_]) hS)) ?_;rintro _ w (⟨rfl,sy2,ft,hS⟩|⟨rfl,ty2,fL,hS⟩)
  ·
   replace hS:=Sat.unbundle (l1:= [_,_]) (l3:= []) hS
   replace hS:=hS.n6
   refine hlv xnt ?_
   refine hlv xmv ?_
   refine hlv (xfb 5 VD) ?_
   refine hlv (xlb 5 KE hS) ?_
   refine hlv YN ?_
   refine hlv xpf ?_
   refine hln<|htn ?_
   refine Wz ?_ ?_<;>intro hc
   ·
    refine hrt<|ztr<|zbr<|ztr<|zbr<|zf0 ⟨_,rfl,?_⟩
    subst ft
    exact .inl ⟨_,_,⟨s,_,rfl,⟨yF.1,yF.2.1,yF.2.2.1,yF.2.2.2.1,fun hh=>absurd hh (by assumption),yF.2.2.2.2.2⟩,by first|exact fun hh=>absurd hh (by assumption)|exact fun _=>⟨_,_,_,(by rw [show(0:Int)=zk by omega];exact yZ),by show aw<=qM.den;omega⟩⟩,Sat.bundle (l1:= [_,_]) hS⟩
   exfalso;omega
  ·
   replace hS:=Sat.unbundle (l1:= [_,_]) (l3:= []) hS
   replace hS:=hS.n6
   refine hlv xnf ?_
   refine hlv xmv ?_
   iterate 3 refine hlo ?_
   refine hlv xpt ?_
   refine hln<|htn<|hct<|hrt<|ztr<|zbr<|ztr<|zbr<|zf0 ⟨_,rfl,?_⟩
   exact fL.elim
theorem ZcS{p:Prob}(w0:World)(h:PAt w0 vL vD p):
    Calls Tryz.prog 48 [.agg #[vL,vD,.int .i64 p.stock,.int .i64 p.kerf]].toArray w0 fun e w=>∃v,e= .returned v/\∃g,v= .func (.func 81) #[] #[.pointer (some ⟨g,0,none⟩)]/\Sat w0 w [.blk g [vL,vD,.int .i64 p.stock,.int .i64 p.kerf]]:=by
  refine Zm Tryz.func48 Tryz.ntmps48 fun w hS=> ?_
  refine zsr<|zla (xbx (cs:= [_,_,_,_]) hS) ?_;rintro _ w ⟨g1,rfl,hS⟩
  refine(zP)<|zlz<|(zV xmf)<|(zP)<|zx1<|zf1 ⟨_,rfl,?_⟩
  exact⟨_,rfl,hS⟩
def CX.zer:CX:=⟨0,.slice none 0 0,fun _=>undef,fun _=>0,fun _ _=>0,.slice none 0 0,.slice none 0 0,So.zero,0⟩
def Vx(s:List CX):CX:=s.getLast?.getD CX.zer
theorem U6(s:List CX)(x:CX):Vx (s++ [x])=x:=by simp [Vx]
def ColR(p:Prob)(u:Int)(ml:Int->Int)(mf:Int->Int->Int)(s:So)(e:Int):Prop:=(¬p.Ok/\u=0/\s=So.zero/\e=1)\/
  (p.Ok/\e≠0/\u=0/\s=So.zero/\∃u1 ml1 mf1 e1,CRn p u1 ml1 mf1 e1/\((e1≠0/\e=e1)\/(e1=0/\∃s1,MSolveR p u1 ml1 mf1 s1 e)))\/(p.Ok/\e=0/\CRn p u ml mf 0/\MSolveR p u ml mf s 0/\Zch p s)
theorem ZeV{p:Prob}(w0:World)(h:PAt w0 vL vD p):
    Calls Tryz.prog 11 [.agg #[vL,vD,.int .i64 p.stock,.int .i64 p.kerf]].toArray w0 fun e w=>∃v,e= .returned v/\∃vP vv vX vY u ml mf s e,v= .tuple #[.agg #[vP,vX,vY,.int .i64 s.val,.int .i64 s.den],.int .i64 e]/\ColR p u ml mf s e/\Slh vP u/\Slh vX s.n/\Slh vY s.m/\Sat w0 w [.own vP 1 22 u vv,.sem (Frame.rows 3 u vv ml mf),.own vX 1 3 s.n (ints s.X),.own vY 1 3 s.m (ints s.Y)]:=by
  have hm:=h.L.slh.n0;have hm1:=h.L.slh.n1;have hd:=h.D.slh.n0;have hd1:=h.D.slh.n1;have hs:=h.is;have hk:=h.ik
  refine Zg7 Tryz.func11 Tryz.ntmps11 fun w hS=> ?_
  refine hsq<|hrz ?_
  refine zla (xbx (cs:= [_,_,_,_]) hS) ?_;rintro _ w ⟨g1,rfl,hS⟩
  refine zla (xal (cs:= [_,_,_,_,_]) ZgH hS) ?_;rintro _ w ⟨g2,rfl,hS⟩
  refine(zP)<|zln<|zh<|htn<|hsq<|hsq<|hrz ?_
  refine(zV (xls 0 st_35 hS))<|zlc (xc0 Un) (Xo (p:=p) w (h.below hS.below)) ?_;rintro _ w ⟨rfl,hS'⟩
  replace hS:=hS.cmp hS';clear hS'
  refine(zP)<|zln<|zh<|htn ?_
  refine Wz ?_ ?_<;>intro hc
  ·
   refine hsq<|hrz ?_
   refine(zV (xany (v:= .agg #[.slice none 0 0,.slice none 0 0,.slice none 0 0,.int .i64 0,.int .i64 0])))<|zle (xsw 1 Ws hS) ?_;clear hS;rintro w hS
   refine(zP)<|zln<|zh<|htn<|hrt<|ztr<|Zg6<|ZW 1 Ws hS ⟨_,rfl,?_⟩
   exact⟨_,fun _=>undef,_,_,0,fun _=>0,fun _ _=>0,So.zero,1,rfl,.inl ⟨‹¬p.Ok›,rfl,rfl,rfl⟩,slh_nil,slh_nil,slh_nil,((((hS.sub (.cons _ (.cons _ .slnil))).addnil 1 22 (fun _=>undef)).addrows 3 (fun _=>undef) (fun _=>0) (fun _ _=>0)).addnil 1 3 (ints So.zero.X)).addnil 1 3 (ints So.zero.Y)⟩
  refine hsk<|htn<|hsq<|hrz ?_
  refine zla (xal (cs:= [_,_,_,_,_,_]) ZdN hS) ?_;rintro _ w ⟨g3,rfl,hS⟩
  refine zln<|zh<|htn<|hsq<|hsq<|hrz ?_
  refine zlv (xls 0 st_35 hS) ?_
  have hok:p.Ok:=by first|assumption|exact Classical.not_not.1 ‹_›
  refine zlc (xc0 Zj1) (ZcS (p:=p) w (h.below hS.below)) ?_;rintro _ w ⟨g4,rfl,hS'⟩
  replace hS:=(hS.comp hS').n4;clear hS'
  refine zln<|zh<|htn<|hbk<| ?_
  refine hrf (St:=List CX) (X:=CX) (Tt:=CX) (fun s=> [.blk g1 [vL,vD,.int .i64 p.stock,.int .i64 p.kerf],.blk g2 [.slice none 0 0,.slice none 0 0,.slice none 0 0,.int .i64 0,.int .i64 0],.blk g3 [(Vx s).vP,(Vx s).vX,(Vx s).vY,.int .i64 ((Vx s).s.val),.int .i64 ((Vx s).s.den),.int .i64 ((Vx s).e)]]) (fun t=> []) (fun _=> .ret) [] (fun x M es=>∃(g5:Nat),M= [(0,.agg #[vL,vD,.int .i64 p.stock,.int .i64 p.kerf]),(1,.pointer (some ⟨g1,0,none⟩)),(2,.pointer (some ⟨g2,0,none⟩)),(3,.int .i64 0),(6,.agg #[vL,vD,.int .i64 p.stock,.int .i64 p.kerf]),(7,B (p.Ok)),(8,B (¬(p.Ok))),(4,.pointer (some ⟨g3,0,none⟩)),(10,.agg #[vL,vD,.int .i64 p.stock,.int .i64 p.kerf]),(11,.func (.func 81) #[] #[.pointer (some ⟨g4,0,none⟩)]),(12,.agg #[x.vP,x.vX,x.vY,.int .i64 x.s.val,.int .i64 x.s.den,.int .i64 x.e]),(5,.pointer (some ⟨g5,0,none⟩))]/\es= [.blk g5 [x.vP,x.vX,x.vY,.int .i64 x.s.val,.int .i64 x.s.den,.int .i64 x.e]]) (Zbd (gp:=g4) w0 h) (hS) ZjO (fun _=>rfl) (fun _=> .inl rfl) ?_ ?_ ?_ ?_
  ·
   intro lq s x rest w qL xz hrr hS
   have hxP:=qL.2.1;have hxX:=qL.2.2.1;have hxY:=qL.2.2.2.1
   refine hrz ?_
   refine zla (xal (cs:= [_,_,_,_,_,_]) ZdN hS) ?_;rintro _ w ⟨g5,rfl,hS⟩
   refine zle (xsw 5 TL hS (hd:=(Za hxP.one (Za hxX.one (Za hxY.one (Za rfl (Za rfl (Za rfl Zg)))))))) ?_;clear hS;rintro w hS
   refine zln<|zh<|ZfC ⟨g5,rfl,rfl⟩ hS
  ·
   rintro lq s x _ _ rest w qL ⟨g5,rfl,rfl⟩ xz hrr hS
   have hxP:=qL.2.1;have hxX:=qL.2.2.1;have hxY:=qL.2.2.2.1
   refine hbk<|hrz ?_
   refine(zV (xls 5 TL hS))<|zle (xsw 2 TL hS (hd:=(Za hxP.one (Za hxX.one (Za hxY.one (Za rfl (Za rfl (Za rfl Zg)))))))) ?_;clear hS;rintro w hS
   refine zln<|zh<|zbn ?_
   obtain⟨s1,hs1⟩:∃s1,s1=s++ [x]:=⟨_,rfl⟩
   have e1:Vx s1=x:=by rw [hs1,U6]
   rw [<-e1] at hS
   refine Zct s1 hs1 (hS.pk [0,1,2,3,4])
  ·
   intro Dk s rest w qW hS
   obtain⟨s9,x,rfl,qL,em⟩:=qW
   have hxP:=qL.2.1;have hxX:=qL.2.2.1;have hxY:=qL.2.2.2.1
   rw [U6] at hS
   refine zbn<|htn<|hsq<|hsq<|hrz ?_
   refine(zV (xfb 5 VD))<|(zV (xlb 2 KE hS))<|(zP)<|zln<|zh<|htn ?_
   refine Wz ?_ ?_<;>intro hc
   ·
    refine hsq ?_
    refine hdst [0,1,2,3,4,5] [0,2,3,4,5] 3 mx_ hS ?_;clear hS;intro w hS
    refine(zDw 0 (xany (v:= .agg #[.slice none 0 0,.slice none 0 0,.slice none 0 0,.int .i64 0,.int .i64 0])))<|(zDw 1 (xfb 5 VD))<|(zDl 2 (fun w hS=>(xlb 1 KE hS)))<|zde 3 (xsw 1 Ws hS) ?_;clear hS;rintro w hS
    refine⟨⟨fun h=>absurd h (by decide),hS.pk [0,2,3,4,5]⟩,?_⟩
    refine(zDw 4 xas)<|zdd<|zh<|htn<|hrt<|ztr<|Zdt 5 hS fun w hS=>ZW 1 Ws hS ⟨_,rfl,?_⟩
    obtain⟨e1,hc1,hc2⟩:=qL.2.2.2.2.2
    exact⟨_,fun _=>undef,_,_,0,fun _=>0,fun _ _=>0,So.zero,x.e,rfl,.inr (.inl ⟨hok,by assumption,rfl,rfl,_,_,_,e1,hc1,by rcases hc2 with⟨q1,q2,_⟩|⟨q1,q2⟩;exact .inl ⟨q1,q2⟩;exact .inr ⟨q1,_,q2⟩⟩),slh_nil,slh_nil,slh_nil,((((hS.sub (.cons _ (.cons _ (.cons _ (.cons _ (.cons _ (.cons _ .slnil))))))).addnil 1 22 (fun _=>undef)).addrows 3 (fun _=>undef) (fun _=>0) (fun _ _=>0)).addnil 1 3 (ints So.zero.X)).addnil 1 3 (ints So.zero.Y)⟩
   refine hsk<|htn<|hsq<|hrz ?_
   refine(zV (xfb 0 fd_85_0))<|(zV (xlp 2 (ds:= [x.vP,x.vX,x.vY,.int .i64 x.s.val,.int .i64 x.s.den]) Ws hS))<|zle (xsw 1 Ws hS (hd:=(Za hxP.one (Za hxX.one (Za hxY.one (Za rfl (Za rfl Zg))))))) ?_;clear hS;rintro w hS
   refine(zP)<|zln<|zh<|htn<|hrt<|Zdt 5 hS fun w hS=>ZW 1 Ws hS ⟨_,rfl,?_⟩
   have hx0:x.e=0:=by omega
   obtain⟨e1,hc1,hc2⟩:=qL.2.2.2.2.2
   obtain⟨q1,q2⟩:e1=0/\MSolveR p x.u x.ml x.mf x.s 0:=by rcases hc2 with⟨q1,q2,_⟩|⟨q1,q2⟩;exact absurd (by omega) q1;exact⟨q1,hx0▸q2⟩
   subst q1
   replace hS:=hS.given 4 (qL.2.2.2.2.1 hx0)
   replace hS:=Sat.unbundle (l1:= [_,_,_,_]) (l3:= [_]) hS
   exact⟨_,x.vv,_,_,_,_,_,x.s,0,rfl,.inr (.inr ⟨hok,rfl,hc1,q2,em hx0⟩),hxP,hxX,hxY,hS.pk [4,5,6,7]⟩
  ·
   intro Dk t rest w qW hS
   exact qW.elim
end Go.Proofs.YtopmifmfecfaaaaGreat
namespace Go.Proofs.Gw
open Go Go.RowKit
variable {a b i r:Int} {n:Nat}
def skp(i k:Int):Int:=if k<i then k else k+1
def bck(i r:Int):Int:=if r<i then r else r-1
theorem Zbv(e:i≠r):skp i (bck i r)=r:=by
  unfold skp bck
  by_cases h:r<i
  · rw [if_pos h,if_pos h]
  · rw [if_neg h,if_neg (by omega)];omega
theorem Zdc(e:i≠r)(e1:i≠r+1):skp i (bck i r+1)=r+1:=by
  unfold skp bck
  by_cases h:r<i
  · rw [if_pos h,if_pos (by omega)]
  · rw [if_neg h,if_neg (by omega)];omega
theorem Zdb{k:Int}(e:i≠r)(h:k≠bck i r):skp i k≠r:=by
  unfold bck at h;unfold skp
  split
  · split at h<;>omega
  · split at h<;>omega
theorem Kd{n:Int}(e:i≠r)(r0:0<=r)(r1:r<=n)(i0:0<=i)(i1:i<=n):0<=bck i r/\bck i r<n:=by
  unfold bck;split<;>omega
def alt(i:Int):Int:=if i%2=0 then 1 else-1
def det:Nat->(Int->Int->Int)->Int
  |0,_=>1
  |n+1,A=>Zh (fun i=>alt i*A i 0*det n (fun k m=>A (skp i k) (m+1))) (n+1)
theorem Xh:∀{n:Nat} {A B:Int->Int->Int},(∀k m,0<=k->k<(n:Int)->0<=m->m<(n:Int)->A k m=B k m)->det n A=det n B
  |0,_,_,_=>rfl
  | n+1,A,B,h=>by
    simp only [det]
    refine Zj fun i i0 i1=> ?_
    rw [h i 0 i0 i1 (by omega) (by omega),Xh (n:=n) (fun k m k0 k1 m0 m1=>h (skp i k) (m+1) (by unfold skp;split<;>omega) (by unfold skp;split<;>omega) (by omega) (by omega))]
theorem WT:∀{n:Nat} {A U V:Int->Int->Int} {r a b:Int},0<=r->r<(n:Int)->(∀m,0<=m->m<(n:Int)->A r m=a*U r m+b*V r m)->
    (∀k m,0<=k->k<(n:Int)->0<=m->m<(n:Int)->k≠r->U k m=A k m)->(∀k m,0<=k->k<(n:Int)->0<=m->m<(n:Int)->k≠r->V k m=A k m)->det n A=a*det n U+b*det n V
  |0,_,_,_,_,_,_,h0,h1,_,_,_=>by omega
  | n + 1,A,U,V,r,a,b,r0,r1,h,hU,hV=>by
    simp only [det]
    have key:=Xd (n:=n+1) (D:=1) (A:=a) (B:= -b) (h:=fun i=>alt i*A i 0*det n (fun k m=>A (skp i k) (m+1))) (f:=fun i=>alt i*U i 0*det n (fun k m=>U (skp i k) (m+1))) (g:=fun i=>alt i*V i 0*det n (fun k m=>V (skp i k) (m+1))) (fun i i0 i1=> ?_)
    · grind
    · by_cases e:i=r
      · subst e
        have e1:det n (fun k m=>U (skp i k) (m+1))=det n (fun k m=>A (skp i k) (m+1)):=Xh fun k m k0 k1 m0 m1=>hU _ _ (by unfold skp;split<;>omega) (by unfold skp;split<;>omega) (by omega) (by omega) (by unfold skp;split<;>omega)
        have e2:det n (fun k m=>V (skp i k) (m+1))=det n (fun k m=>A (skp i k) (m+1)):=Xh fun k m k0 k1 m0 m1=>hV _ _ (by unfold skp;split<;>omega) (by unfold skp;split<;>omega) (by omega) (by omega) (by unfold skp;split<;>omega)
        rw [e1,e2,h 0 (by omega) (by omega)]
        grind
      · have hr:=Zbv e
        have hb:=Kd (n:=n) e r0 (by omega) i0 (by omega)
        have ih:=WT (n:=n) (A:=fun k m=>A (skp i k) (m+1)) (U:=fun k m=>U (skp i k) (m+1)) (V:=fun k m=>V (skp i k) (m+1)) (r:=bck i r) (a:=a) (b:=b) hb.1 hb.2
          (fun m m0 m1=>by show A (skp i (bck i r)) _=_*U (skp i (bck i r)) _+_*V (skp i (bck i r)) _;rw [hr];exact h (m+1) (by omega) (by omega))
          (fun k m k0 k1 m0 m1 hk=>hU _ _ (by unfold skp;split<;>omega) (by unfold skp;split<;>omega) (by omega) (by omega) (Zdb e hk))
          (fun k m k0 k1 m0 m1 hk=>hV _ _ (by unfold skp;split<;>omega) (by unfold skp;split<;>omega) (by omega) (by omega) (Zdb e hk))
        rw [ih,hU i 0 i0 i1 (by omega) (by omega) e,hV i 0 i0 i1 (by omega) (by omega) e]
        grind
theorem Zcl{f:Int->Int}(r0:0<=r)(r1:r+1<(n:Int))(h:∀i,0<=i->i<(n:Int)->i≠r->i≠r+1->f i=0)(hs:f r+f (r+1)=0):Zh f n=0:=by
  rw [Z5 (s:=r) r0 (by omega),Z5 (s:=r+1) (by omega) r1]
  have:Zh (fun j=>if j=r+1 then 0 else if j=r then 0 else f j) n=Zh (fun _=>0) n:=Zj fun i i0 i1=>by
    by_cases e:i=r+1
    · rw [if_pos e]
    · rw [if_neg e]
      by_cases e2:i=r
      · rw [if_pos e2]
      · rw [if_neg e2];exact h i i0 i1 e2 e
  rw [this,ZL,if_neg (by omega)];omega
theorem RY:∀{n:Nat} {A:Int->Int->Int} {r:Int},0<=r->r+1<(n:Int)->(∀m,0<=m->m<(n:Int)->A r m=A (r+1) m)->det n A=0
  |0,_,_,h0,h1,_=>by omega
  | n + 1,A,r,r0,r1,h=>by
    simp only [det]
    refine Zcl r0 r1 (fun i i0 i1 e1 e2=> ?_) ?_
    · have hb:=Kd (n:=n) e1 r0 (by omega) i0 (by omega)
      have hb1:=Kd (n:=n) e2 (by omega) (by omega) i0 (by omega)
      have hbb:bck i (r+1)=bck i r+1:=by unfold bck;split<;>(split<;>omega)
      have ih:=RY (n:=n) (A:=fun k m=>A (skp i k) (m+1)) (r:=bck i r) hb.1 (by omega) (fun m m0 m1=>by
        show A (skp i (bck i r)) _=A (skp i (bck i r+1)) _
        rw [Zbv e1,Zdc e1 e2];exact h _ (by omega) (by omega))
      rw [ih];simp
    · have e:det n (fun k m=>A (skp r k) (m+1))=det n (fun k m=>A (skp (r+1) k) (m+1)):=Xh fun k m k0 k1 m0 m1=>by
        by_cases hk:k=r
        · have e1:skp r k=r+1:=by unfold skp;rw [if_neg (by omega)];omega
          have e2:skp (r+1) k=r:=by unfold skp;rw [if_pos (by omega)];omega
          rw [e1,e2];exact(h _ (by omega) (by omega)).symm
        · have e1:skp r k=skp (r+1) k:=by unfold skp;split<;>(split<;>omega)
          rw [e1]
      have ea:alt (r+1)= -alt r:=by unfold alt;split<;>(split<;>omega)
      rw [e,<-h 0 (by omega) (by omega),ea]
      grind
def YT(A:Int->Int->Int)(a b:Int)(u v:Int->Int):Int->Int->Int:=fun k=>if k=a then u else if k=b then v else A k
theorem VW(A:Int->Int->Int)(a b:Int)(u v:Int->Int):YT A a b u v a=u:=if_pos rfl
theorem UU(A:Int->Int->Int)(u v:Int->Int)(h:a≠b):YT A a b u v b=v:=by unfold YT;rw [if_neg (fun e=>h e.symm),if_pos rfl]
theorem ZgZ(A:Int->Int->Int){k:Int}(u v:Int->Int)(ha:k≠a)(hb:k≠b):YT A a b u v k=A k:=by unfold YT;rw [if_neg ha,if_neg hb]
theorem Zan{A:Int->Int->Int}(a0:0<=a)(a1:a<(n:Int))(b0:0<=b)(b1:b<(n:Int))(hab:a≠b)(hz:∀w:Int->Int,det n (YT A a b w w)=0)(u v:Int->Int):det n (YT A a b u v)= -det n (YT A a b v u):=by
  have s1:∀x y z:Int->Int,det n (YT A a b (fun m=>x m+y m) z)=det n (YT A a b x z)+det n (YT A a b y z):=fun x y z=>by
    have:=WT (n:=n) (A:=YT A a b (fun m=>x m+y m) z) (U:=YT A a b x z) (V:=YT A a b y z) (r:=a) (a:=1) (b:=1) a0 a1 (fun m _ _=>by rw [VW,VW,VW];omega)
      (fun k m _ _ _ _ hk=>by unfold YT;rw [if_neg hk,if_neg hk]) (fun k m _ _ _ _ hk=>by unfold YT;rw [if_neg hk,if_neg hk])
    omega
  have s2:∀x y z:Int->Int,det n (YT A a b z (fun m=>x m+y m))=det n (YT A a b z x)+det n (YT A a b z y):=fun x y z=>by
    have:=WT (n:=n) (A:=YT A a b z (fun m=>x m+y m)) (U:=YT A a b z x) (V:=YT A a b z y) (r:=b) (a:=1) (b:=1) b0 b1 (fun m _ _=>by rw [UU _ _ _ hab,UU _ _ _ hab,UU _ _ _ hab];omega)
      (fun k m _ _ _ _ hk=>by unfold YT;rw [if_neg hk,if_neg hk]) (fun k m _ _ _ _ hk=>by unfold YT;rw [if_neg hk,if_neg hk])
    omega
  have h:=hz (fun m=>u m+v m)
  rw [s1,s2,s2,hz u,hz v] at h
  omega
theorem Zcp(A:Int->Int->Int)(a b:Int):YT A a b (A a) (A b)=A:=by
  funext k;unfold YT
  by_cases h:k=a
  · rw [if_pos h,h]
  · rw [if_neg h]
    by_cases h2:k=b
    · rw [if_pos h2,h2]
    · rw [if_neg h2]
theorem RW:∀(d:Nat) {n:Nat} {A:Int->Int->Int} {a b:Int},0<=a->b=a+1+d->b<(n:Int)->(∀m,0<=m->m<(n:Int)->A a m=A b m)->det n A=0
  |0,n,A,a,b,a0,hb,b1,h=>RY a0 (by omega) (fun m m0 m1=>by rw [h m m0 m1,show b=a+1 by omega])
  | d+1,n,A,a,b,a0,hb,b1,h=>by
    have hsw:=Zan (n:=n) (A:=A) (a:=b-1) (b:=b) (by omega) (by omega) (by omega) b1 (by omega) (fun w=>RY (r:=b-1) (by omega) (by omega) (fun m _ _=>by rw [VW,show b-1+1=b by omega,UU _ _ _ (by omega)])) (A (b-1)) (A b)
    rw [Zcp] at hsw
    have:=RW d (n:=n) (A:=YT A (b-1) b (A b) (A (b-1))) (a:=a) (b:=b-1) a0 (by omega) (by omega) (fun m m0 m1=>by rw [VW,ZgZ _ _ _ (by omega) (by omega)];exact h m m0 m1)
    omega
theorem RX{A:Int->Int->Int}(a0:0<=a)(a1:a<(n:Int))(b0:0<=b)(b1:b<(n:Int))(hab:a≠b)(h:∀m,0<=m->m<(n:Int)->A a m=A b m):det n A=0:=by
  rcases Int.lt_or_gt_of_ne hab with e|e
  · exact RW (b-a-1).toNat a0 (by omega) b1 h
  · exact RW (a-b-1).toNat b0 (by omega) a1 (fun m m0 m1=>(h m m0 m1).symm)
theorem Zam(A:Int->Int->Int)(a0:0<=a)(a1:a<(n:Int))(b0:0<=b)(b1:b<(n:Int))(hab:a≠b)(u v:Int->Int):det n (YT A a b u v)= -det n (YT A a b v u):=
  Zan a0 a1 b0 b1 hab (fun w=>RX a0 a1 b0 b1 hab fun m _ _=>by rw [VW,UU _ _ _ hab]) u v
theorem RV{n:Nat}(A:Int->Int->Int){s:Int}(s0:0<=s)(s1:s<(n:Int))(c:Int->Int)(G:Int->Int->Int):∀K:Nat,det n (upd A s (fun m=>Zh (fun k=>c k*G k m) K))=Zh (fun k=>c k*det n (upd A s (G k))) K
  | 0=>by
    have:=WT (n:=n) (A:=upd A s (fun m=>Zh (fun k=>c k*G k m) 0)) (U:=A) (V:=A) (r:=s) (a:=0) (b:=0) s0 s1 (fun m _ _=>by rw [gu_self];simp [Zh]) (fun k m _ _ _ _ hk=>by rw [gu_ne hk]) (fun k m _ _ _ _ hk=>by rw [gu_ne hk])
    simp only [Zh] at*;omega
  | K +1=>by
    have ih:=RV A s0 s1 c G K
    have:=WT (n:=n) (A:=upd A s (fun m=>Zh (fun k=>c k*G k m) (K+1))) (U:=upd A s (fun m=>Zh (fun k=>c k*G k m) K)) (V:=upd A s (G K)) (r:=s) (a:=1) (b:=c K) s0 s1
      (fun m _ _=>by rw [gu_self,gu_self,gu_self];simp [Zh]) (fun k m _ _ _ _ hk=>by rw [gu_ne hk,gu_ne hk]) (fun k m _ _ _ _ hk=>by rw [gu_ne hk,gu_ne hk])
    rw [this,ih];simp only [Zh];omega
def idm(k m:Int):Int:=if k=m then 1 else 0
theorem Za2:∀n:Nat,det n idm=1
  |0=>rfl
  | n + 1=>by
    simp only [det]
    have e:Zh (fun i=>alt i*idm i 0*det n (fun k m=>idm (skp i k) (m+1))) (n+1)=alt 0*idm 0 0*det n (fun k m=>idm (skp 0 k) (m+1)):=by
      rw [Z5 (s:=0) (by omega) (by omega)]
      have:Zh (fun j=>if j=0 then 0 else alt j*idm j 0*det n (fun k m=>idm (skp j k) (m+1))) (n+1)=Zh (fun _=>0) (n+1):=Zj fun i i0 i1=>by
        by_cases e:i=0
        · rw [if_pos e]
        · rw [if_neg e];unfold idm;rw [if_neg e];simp
      rw [this,ZL];omega
    rw [e]
    have e2:det n (fun k m=>idm (skp 0 k) (m+1))=det n idm:=Xh fun k m k0 k1 m0 m1=>by
      have h1:skp 0 k=k+1:=by unfold skp;rw [if_neg (by omega)]
      rw [h1];unfold idm
      by_cases h:k=m
      · rw [if_pos h,if_pos (by omega)]
      · rw [if_neg h,if_neg (by omega)]
    rw [e2,Za2 n];rfl
end Go.Proofs.Gw
namespace Go.Proofs.Gw
open Go Go.RowKit
variable {col eps s:Int} {t:Tb}
theorem Ue(f:Int->Int):∀n:Nat,Zh f (n+1)=f 0+Zh (fun j=>f (j+1)) n
  |0=>by simp [Zh]
  | n+1=>by
    have:=Ue f n
    simp only [Zh] at*
    rw [this,show((n+1:Nat):Int)=(n:Int)+1 by omega];omega
theorem Xy{f:Int->Int}{n:Nat}(s0:0<=s)(s1:s<(n:Int))(h:∀k,0<=k->k<(n:Int)->k≠s->f k=0):Zh f n=f s:=by
  rw [Z5 s0 s1]
  have:Zh (fun j=>if j=s then 0 else f j) n=Zh (fun _=>0) n:=Zj fun i i0 i1=>by
    by_cases e:i=s
    · rw [if_pos e]
    · rw [if_neg e];exact h i i0 i1 e
  rw [this,ZL];omega
theorem Kq{f:Int->Int}{n:Nat}{j:Int}(s0:0<=s)(s1:s<(n:Int))(j0:0<=j)(j1:j<(n:Int))(hsj:s≠j)(h:∀k,0<=k->k<(n:Int)->k≠s->k≠j->f k=0):Zh f n=f s+f j:=by
  rw [Z5 s0 s1,Xy (s:=j) j0 j1 (fun k k0 k1 hk=>by
    by_cases e:k=s
    · rw [if_pos e]
    · rw [if_neg e];exact h k k0 k1 e hk),if_neg (fun e=>hsj e.symm)]
def frm(p:Lp)(q m:Int):Int:=if q<p.n then(if m=q+1 then 1 else 0) else if m=0 then-p.b (q-p.n) else p.A (q-p.n) (m-1)
def cst(p:Lp)(m:Int):Int:=if m=0 then 0 else p.c (m-1)
def slt(p:Lp)(t:Tb)(k m:Int):Int:=if k=0 then(if m=0 then 1 else 0) else frm p (t.F (k-1)) m
def lft(p:Lp)(t:Tb)(i m:Int):Int:=if i=0 then cst p m else frm p (t.B (i-1)) m
structure DInv (p:Lp) (t:Tb) (eps:Int):Prop where
  e:eps=1\/eps= -1
  nf:t.nf=p.n
  n1:1<=p.n
  den:eps*t.den=det (p.n.toNat+1) (slt p t)
  cell:∀i j,0<=i->i<=t.nb->0<=j->j<=t.nf->eps*t.C i j=det (p.n.toNat+1) (upd (slt p t) j (lft p t i))
  idt:∀m,0<=m->m<=p.n->Idt t (if m=0 then 1 else 0) (cst p m) (fun q=>frm p q m)
theorem Kn{α:Type}(f:Int->α){a b:Int}(x y:α)(h:a≠b):upd (upd f a x) b y=upd (upd f b y) a x:=by
  funext k;unfold upd
  by_cases e:k=a
  · rw [if_pos e,if_neg (by omega),if_pos e]
  · rw [if_neg e,if_neg e]
theorem TG{α:Type}(f:Int->α)(a:Int)(x y:α):upd (upd f a x) a y=upd f a y:=by
  funext k;unfold upd
  by_cases e:k=a
  · rw [if_pos e,if_pos e]
  · rw [if_neg e,if_neg e,if_neg e]
theorem Wv{α:Type}(f:Int->α)(a:Int):upd f a (f a)=f:=by
  funext k;unfold upd
  by_cases e:k=a
  · rw [if_pos e,e]
  · rw [if_neg e]
theorem Ve(A:Int->Int->Int){a b:Int}(u v:Int->Int)(h:a≠b):upd (upd A a u) b v=YT A a b u v:=by
  funext k;unfold upd YT
  by_cases e:k=a
  · rw [if_pos e,if_neg (by omega),if_pos e]
  · rw [if_neg e,if_neg e]
theorem DInv.row{p:Lp}(h:DInv p t eps){i:Int}(i0:0<=i)(i1:i<=t.nb){m:Int}(m0:0<=m)(m1:m<=p.n):t.den*lft p t i m=Zh (fun k=>t.C i k*slt p t k m) (p.n.toNat+1):=by
  have:=h.idt m m0 m1 i i0 i1
  have hn:=h.nf
  have e:Va t (cst p m) (fun q=>frm p q m) i=lft p t i m:=rfl
  rw [e] at this
  rw [this,Ue]
  unfold Vm
  rw [hn]
  have:Zh (fun j=>t.C i (j+1)*frm p (t.F j) m) p.n.toNat=Zh (fun j=>t.C i (j+1)*slt p t (j+1) m) p.n.toNat:=Zj fun j j0 j1=>by
    unfold slt;rw [if_neg (by omega),show j+1-1=j by omega]
  rw [this];unfold slt;rw [if_pos rfl]
theorem DInv.key{p:Lp}(h:DInv p t eps){r i j:Int}(r0:0<=r)(r1:r<=t.nb)(s0:0<=s)(s1:s<=t.nf)(i0:0<=i)(i1:i<=t.nb)(j0:0<=j)(j1:j<=t.nf)(hj:j≠s):
    t.den*(eps*det (p.n.toNat+1) (upd (upd (slt p t) j (lft p t i)) s (lft p t r)))=t.C r s*t.C i j-t.C i s*t.C r j:=by
  have hnf:=h.nf;have hn1:=h.n1
  have hN:((p.n.toNat+1:Nat):Int)=p.n+1:=by omega
  have hl:=WT (n:=p.n.toNat+1) (A:=upd (upd (slt p t) j (lft p t i)) s (fun m=>Zh (fun k=>t.C r k*slt p t k m) (p.n.toNat+1))) (U:=upd (upd (slt p t) j (lft p t i)) s (lft p t r)) (V:=upd (upd (slt p t) j (lft p t i)) s (lft p t r)) (r:=s) (a:=t.den) (b:=0) s0 (by omega)
    (fun m m0 m1=>by rw [gu_self,gu_self,<-h.row r0 r1 m0 (by omega)];omega) (fun k m _ _ _ _ hk=>by rw [gu_ne hk,gu_ne hk]) (fun k m _ _ _ _ hk=>by rw [gu_ne hk,gu_ne hk])
  rw [RV _ s0 (by omega)] at hl
  have hp:=Kq (f:=fun k=>t.C r k*det (p.n.toNat+1) (upd (upd (slt p t) j (lft p t i)) s (slt p t k))) (n:=p.n.toNat+1) (s:=s) (j:=j) s0 (by omega) j0 (by omega) (fun e=>hj e.symm) (fun k k0 k1 e1 e2=>by
    have:=RX (n:=p.n.toNat+1) (A:=upd (upd (slt p t) j (lft p t i)) s (slt p t k)) (a:=k) (b:=s) k0 k1 s0 (by omega) e1 (fun m _ _=>by rw [gu_self,gu_ne e1,gu_ne e2])
    rw [this,Int.mul_zero])
  have e1:upd (upd (slt p t) j (lft p t i)) s (slt p t s)=upd (slt p t) j (lft p t i):=by rw [Kn _ _ _ hj,Wv]
  have e2:det (p.n.toNat+1) (upd (upd (slt p t) j (lft p t i)) s (slt p t j))= -det (p.n.toNat+1) (upd (slt p t) s (lft p t i)):=by
    rw [Ve _ _ _ hj,Zam _ j0 (by omega) s0 (by omega) hj,<-Ve _ _ _ hj,Wv]
  rw [e1,e2,<-h.cell i j i0 i1 j0 j1,<-h.cell i s i0 i1 s0 s1] at hp
  rw [hp] at hl
  rcases h.e with he|he<;>subst he<;>grind
theorem Re{p:Lp}(h:DInv p t eps){row:Int}(ha:Vu t row col):ZaS t row col:=by
  obtain⟨hp,r0,r1,c0,c1,hne⟩:=ha
  intro i j i0 i1 j0 j1 hi hj
  have:=h.key (r:=row+1) (s:=col+1) (i:=i) (j:=j) (by omega) (by omega) (by omega) (by omega) i0 i1 j0 j1 hj
  exact Int.tmod_eq_zero_of_dvd ⟨_,this.symm⟩
theorem Zbu(p:Lp)(t:Tb){row:Int}(c0:0<=col)(r0:0<=row):slt p (piv t row col)=upd (slt p t) (col+1) (lft p t (row+1)):=by
  funext k m
  by_cases e:k=col+1
  · subst e
    rw [gu_self];unfold slt lft
    rw [if_neg (by omega),if_neg (by omega),show col+1-1=col by omega,show row+1-1=row by omega]
    show frm p (upd t.F col (t.B row) col) m=_
    rw [gu_self]
  · rw [gu_ne e];unfold slt
    by_cases e0:k=0
    · rw [if_pos e0,if_pos e0]
    · rw [if_neg e0,if_neg e0]
      show frm p (upd t.F col (t.B row) (k-1)) m=_
      rw [gu_ne (by omega)]
theorem Zfw(p:Lp)(t:Tb){row:Int}(c0:0<=col)(r0:0<=row):lft p (piv t row col)=upd (lft p t) (row+1) (slt p t (col+1)):=by
  funext k m
  by_cases e:k=row+1
  · subst e
    rw [gu_self];unfold slt lft
    rw [if_neg (by omega),if_neg (by omega),show col+1-1=col by omega,show row+1-1=row by omega]
    show frm p (upd t.B row (t.F col) row) m=_
    rw [gu_self]
  · rw [gu_ne e];unfold lft
    by_cases e0:k=0
    · rw [if_pos e0,if_pos e0]
    · rw [if_neg e0,if_neg e0]
      show frm p (upd t.B row (t.F col) (k-1)) m=_
      rw [gu_ne (by omega)]
theorem ZdS {p:Lp} (h:DInv p t eps) {row:Int} (ha:Vu t row col):DInv p (piv t row col) (eps*sg (t.C (row+1) (col+1))):=by
  have hd:=Re h ha
  have fH:=fun m m0 m1=>(ZbO ha hd _ _ _).1 (h.idt m m0 m1)
  obtain⟨hp,r0,r1,c0,c1,hne⟩:=ha
  have hnf:=h.nf;have hn1:=h.n1;have hd1:=hp.d1
  have hss:sg (t.C (row+1) (col+1))*sg (t.C (row+1) (col+1))=1:=by rcases Vj (t.C (row+1) (col+1)) with e|e<;>rw [e]<;>rfl
  refine⟨?_,hnf,hn1,?_,?_,fH⟩
  · rcases h.e with e|e<;>rcases Vj (t.C (row+1) (col+1)) with e2|e2<;>rw [e,e2]<;>simp
  · rw [Ux,Zbu p t c0 r0,<-h.cell (row+1) (col+1) (by omega) (by omega) (by omega) (by omega)]
    grind
  · intro i j i0 i1 j0 j1
    have i2:i<=t.nb:=i1
    have j2:j<=t.nf:=j1
    rw [X1,Zbu p t c0 r0,Zfw p t c0 r0]
    have e0:eps*sg (t.C (row+1) (col+1))*(sg (t.C (row+1) (col+1))*ZS t (row+1) (col+1) i j)=eps*ZS t (row+1) (col+1) i j:=by grind
    rw [e0]
    unfold ZS
    by_cases hi:i=row+1
    · subst hi
      rw [gu_self]
      by_cases hj:j=col+1
      · subst hj
        rw [if_pos ⟨rfl,rfl⟩,TG,Wv];exact h.den
      · rw [if_neg (by omega),if_pos rfl,Ve _ _ _ (fun e=>hj e.symm),Zam _ (by omega) (by omega) j0 (by omega) (fun e=>hj e.symm),<-Ve _ _ _ (fun e=>hj e.symm),Wv,<-h.cell _ _ (by omega) (by omega) j0 (by omega)]
        grind
    · rw [gu_ne hi]
      by_cases hj:j=col+1
      · subst hj
        rw [if_neg (by omega),if_neg hi,if_pos rfl,TG];exact h.cell _ _ i0 i2 (by omega) (by omega)
      · rw [if_neg (by omega),if_neg hi,if_neg hj]
        have hk:=h.key (r:=row+1) (s:=col+1) (i:=i) (j:=j) (by omega) (by omega) (by omega) (by omega) i0 i2 j0 j2 hj
        rw [<-hk,Int.mul_tdiv_cancel_left _ (by omega),Kn _ _ _ (fun e=>hj e.symm)]
        rcases h.e with e|e<;>rw [e]<;>grind
theorem Za1 {p:Lp} (hl:LOk p) (hm:0<=p.m):DInv p (Zw p) 1:=by
  have hn:=hl.n1
  have hN:((p.n.toNat+1:Nat):Int)=p.n+1:=by omega
  have hs:∀k m,0<=k->k<((p.n.toNat+1:Nat):Int)->0<=m->m<((p.n.toNat+1:Nat):Int)->slt p (Zw p) k m=idm k m:=fun k m k0 k1 m0 m1=>by
    unfold slt idm
    by_cases e:k=0
    · subst e;rw [if_pos rfl]
      by_cases e2:m=0
      · rw [if_pos e2,if_pos e2.symm]
      · rw [if_neg e2,if_neg (fun h=>e2 h.symm)]
    · rw [if_neg e]
      show frm p (k-1) m=_
      unfold frm
      rw [if_pos (by omega)]
      by_cases e2:k=m
      · rw [if_pos (by omega),if_pos e2]
      · rw [if_neg (by omega),if_neg e2]
  refine⟨.inl rfl,rfl,hn,?_,?_,?_⟩
  · rw [Xh hs,Za2];rfl
  · intro i j i0 i1 j0 j1
    have i2:i<=p.m:=i1
    have j2:j<=p.n:=j1
    have e1:det (p.n.toNat+1) (upd (slt p (Zw p)) j (lft p (Zw p) i))=det (p.n.toNat+1) (upd idm j (fun m=>Zh (fun k=>lft p (Zw p) i k*idm k m) (p.n.toNat+1))):=Xh fun k m k0 k1 m0 m1=>by
      by_cases e:k=j
      · subst e
        rw [gu_self,gu_self,Xy (s:=m) m0 m1 (fun q q0 q1 hq=>by unfold idm;rw [if_neg hq];omega)]
        unfold idm;rw [if_pos rfl];omega
      · rw [gu_ne e,gu_ne e];exact hs k m k0 k1 m0 m1
    have e2:lft p (Zw p) i j=(Zw p).C i j:=by
      unfold lft
      show _=(if i=0 then(if j=0 then 0 else p.c (j-1)) else if j=0 then-p.b (i-1) else p.A (i-1) (j-1))
      by_cases e:i=0
      · rw [if_pos e,if_pos e];rfl
      · rw [if_neg e,if_neg e]
        show frm p (p.n+(i-1)) j=_
        unfold frm
        rw [if_neg (by omega),show p.n+(i-1)-p.n=i-1 by omega]
    rw [e1,RV _ j0 (by omega),Xy (s:=j) j0 (by omega) (fun q q0 q1 hq=>by
      have:=RX (n:=p.n.toNat+1) (A:=upd idm j (idm q)) (a:=q) (b:=j) q0 q1 j0 (by omega) hq (fun m _ _=>by rw [gu_self,gu_ne hq])
      rw [this,Int.mul_zero]),Wv,Za2,e2];omega
  · intro m m0 m1
    refine(idt_start hl hm _ _ _).2 ⟨?_,fun i i0 i1=> ?_⟩
    · unfold cst
      by_cases e:m=0
      · rw [if_pos e]
        have:ZH p.c (fun q=>frm p q m) p.n.toNat=Zh (fun _=>0) p.n.toNat:=Zj fun q q0 q1=>by
          dsimp only;unfold frm;rw [if_pos (by omega),if_neg (by omega)];omega
        rw [this,ZL]
      · rw [if_neg e]
        have:ZH p.c (fun q=>frm p q m) p.n.toNat=_:=Xy (s:=m-1) (by omega) (by omega) (fun q q0 q1 hq=>by
          dsimp only;unfold frm;rw [if_pos (by omega),if_neg (by omega)];omega)
        rw [this];dsimp only;unfold frm;rw [if_pos (by omega),if_pos (by omega)];omega
    · have e1:frm p (p.n+i) m=if m=0 then-p.b i else p.A i (m-1):=by
        unfold frm;rw [if_neg (by omega),show p.n+i-p.n=i by omega]
      rw [e1]
      by_cases e:m=0
      · rw [if_pos e,if_pos e]
        have:ZH (p.A i) (fun q=>frm p q m) p.n.toNat=Zh (fun _=>0) p.n.toNat:=Zj fun q q0 q1=>by
          dsimp only;unfold frm;rw [if_pos (by omega),if_neg (by omega)];omega
        rw [this,ZL];omega
      · rw [if_neg e,if_neg e]
        have:ZH (p.A i) (fun q=>frm p q m) p.n.toNat=_:=Xy (s:=m-1) (by omega) (by omega) (fun q q0 q1 hq=>by
          dsimp only;unfold frm;rw [if_pos (by omega),if_neg (by omega)];omega)
        rw [this];dsimp only;unfold frm;rw [if_pos (by omega),if_pos (by omega)];omega
end Go.Proofs.Gw
namespace Go.Proofs.Gw
open Go Go.RowKit
theorem Tf (t:Tb) (r:Int):∀K:Nat,0<=Yd t r K->0<t.C (r+1) (Yd t r K+1)/\∀j:Int,0<=j->j<K->0<t.C (r+1) (j+1)->t.C 0 (Yd t r K+1)*t.C (r+1) (j+1)<=t.C 0 (j+1)*t.C (r+1) (Yd t r K+1)
  |0,h=>by unfold Yd at h;omega
  | k + 1,h=>by
    have ih:=Tf t r k
    have zX:=Te t r k
    unfold Yd at h⊢
    by_cases h1:t.C (r+1) (k+1)<=0
    · rw [if_pos h1] at h⊢
      obtain⟨a1,a2⟩:=ih h
      refine⟨a1,fun j j0 j1 hj=> ?_⟩
      by_cases e:j=k
      · subst e;omega
      · exact a2 j j0 (by omega) hj
    · rw [if_neg h1] at h⊢
      by_cases h2:Yd t r k<0
      · rw [if_pos h2]
        refine⟨by omega,fun j j0 j1 hj=> ?_⟩
        by_cases e:j=k
        · subst e;exact Int.le_refl _
        · have:=zX h2 j j0 (by omega);omega
      · rw [if_neg h2] at h⊢
        obtain⟨a1,a2⟩:=ih (by omega)
        by_cases h3:t.C 0 (k+1)*t.C (r+1) (Yd t r k+1)<t.C 0 (Yd t r k+1)*t.C (r+1) (k+1)\/(t.C 0 (k+1)*t.C (r+1) (Yd t r k+1)=t.C 0 (Yd t r k+1)*t.C (r+1) (k+1)/\t.F k<t.F (Yd t r k))
        · rw [if_pos h3]
          refine⟨by omega,fun j j0 j1 hj=> ?_⟩
          by_cases e:j=k
          · subst e;exact Int.le_refl _
          · have b1:=a2 j j0 (by omega) hj
            have b2:t.C 0 (k+1)*t.C (r+1) (Yd t r k+1)<=t.C 0 (Yd t r k+1)*t.C (r+1) (k+1):=by omega
            have b3:=Int.mul_le_mul_of_nonneg_right b2 (Int.le_of_lt hj)
            have b4:=Int.mul_le_mul_of_nonneg_right b1 (show 0<=t.C (r+1) (k+1) by omega)
            refine Int.le_of_mul_le_mul_left ?_ a1
            grind
        · rw [if_neg h3]
          refine⟨a1,fun j j0 j1 hj=> ?_⟩
          by_cases e:j=k
          · subst e;omega
          · exact a2 j j0 (by omega) hj
theorem ZcA{t:Tb}(hp:TPrp t)(hc:t.costs){r:Int}(r0:0<=r)(h:0<=Yd t r t.nf.toNat):(piv t r (Yd t r t.nf.toNat)).costs:=by
  obtain⟨a1,a2⟩:=Tf t r _ h
  intro j j1 j2
  have j3:j<=t.nf:=j2
  rw [X1]
  have hs:sg (t.C (r+1) (Yd t r t.nf.toNat+1))=1:=by unfold sg;rw [if_neg (by omega)]
  rw [hs,Int.one_mul]
  unfold ZS
  rw [if_neg (by omega),if_neg (by omega)]
  have hr:=Xm t r t.nf.toNat
  split
  · exact hc j j1 j3
  · refine Int.tdiv_nonneg ?_ (by have:=hp.d1;omega)
    have c1:=hc j j1 j3
    have c2:=hc (Yd t r t.nf.toNat+1) (by omega) (by omega)
    rcases Int.lt_or_le 0 (t.C (r+1) j) with h1|h1
    · have:=a2 (j-1) (by omega) (by omega) (by rw [show j-1+1=j by omega];exact h1)
      rw [show j-1+1=j by omega] at this
      grind
    · have m1:=Int.mul_nonneg (Int.le_of_lt a1) c1
      have m2:=Int.mul_nonneg c2 (show 0<= -t.C (r+1) j by omega)
      rw [Int.mul_neg] at m2
      omega
theorem Zde {p:Lp} {k:Nat} {t u:Tb} {e:Int} (h:Run k t u e):TPrp t->t.costs->(∃eps,DInv p t eps)->e=0\/e=2\/e=9\/e=19:=by
  induction h with
  | stop h hd=>
    intro hp hc _
    rcases h with⟨h1,_⟩|⟨_,_,_,_,_,_,h⟩|⟨_,_,_,_,_,_,_,h⟩|⟨_,_,_,_,_,_,_,h⟩
    · exact absurd ⟨hp,hc⟩ h1
    · exact .inl h
    · exact .inr (.inr (.inr h))
    · exact .inl h
  |lim=>intro _ _ _;exact .inr (.inr (.inl rfl))
  | @bad k t t' r c e h hpv he=>
    rintro hp hc ⟨eps,hi⟩
    have ha:Vu t r c:=by
      rcases h with⟨h1,_⟩|⟨_,_,_,_,_,h,_⟩|⟨_,_,_,_,_,_,_,h⟩|⟨_,_,h1,h2,h3,h4,_⟩
      · exact absurd ⟨hp,hc⟩ h1
      · cases h
      · omega
      · have b1:=YG t t.nb.toNat
        have b2:=Xm t (ZR t t.nb.toNat) t.nf.toNat
        have b3:=(Tf t _ _ h2).1
        subst h3;subst h4
        exact⟨hp,h1,by omega,h2,by omega,by omega⟩
    have hd:=Re hi ha
    rcases hpv with⟨h1,_⟩|⟨_,h1,_⟩|⟨_,_,_,_,h1⟩|⟨_,_,_,_,h1⟩
    · exact absurd ha h1
    · exact absurd hd h1
    · exact .inr (.inl h1)
    · exact absurd h1 he
  | @go k t t' u r c e h hpv hr ih=>
    rintro hp hc ⟨eps,hi⟩
    rcases hpv with⟨_,_,h1⟩|⟨_,_,_,h1⟩|⟨_,_,_,_,h1⟩|⟨ha,_,hp',rfl,_⟩
    · omega
    · omega
    · omega
    · refine ih hp' ?_ ⟨_,ZdS hi ha⟩
      rcases h with⟨h1,_⟩|⟨_,_,_,_,_,h,_⟩|⟨_,_,_,_,_,_,_,h⟩|⟨_,_,h1,h2,h3,h4,_⟩
      · exact absurd ⟨hp,hc⟩ h1
      · cases h
      · omega
      · subst h3;subst h4
        exact ZcA hp hc h1 h2
theorem TS{p:Lp}(hl:LOk p)(hm:0<=p.m):TPrp (Zw p)/\(Zw p).costs:=by
  have hn:=hl.n1;have hn2:=hl.n2;have hm2:=hl.m2
  refine⟨⟨hn,hn2,hm2,rfl,by show(1:Int)<=1;decide,by show(1:Int)<=1073741824;decide,rfl,?_,?_⟩,?_⟩
  · refine PermF.congr (c:=fun k=>k) ⟨fun i i0 i1=>⟨i0,i1⟩,fun i j _ _ _ _ e=>e⟩ fun k k0 k1=> ?_
    show k=cat p.n (fun j=>j) (fun i=>p.n+i) k
    unfold cat
    by_cases e:k<p.n
    · rw [if_pos e]
    · rw [if_neg e];show k=p.n+(k-p.n);omega
  · intro i i0 i1
    refine⟨rfl,fun j j0 j1=> ?_⟩
    have j2:j<p.n+1:=j1
    have i2:i<p.m+1:=i1
    show-1073741824<=(if i=0 then(if j=0 then 0 else p.c (j-1)) else if j=0 then-p.b (i-1) else p.A (i-1) (j-1))/\(if i=0 then(if j=0 then 0 else p.c (j-1)) else if j=0 then-p.b (i-1) else p.A (i-1) (j-1))<=1073741824
    by_cases e:i=0
    · rw [if_pos e]
      by_cases e2:j=0
      · rw [if_pos e2];omega
      · rw [if_neg e2];have:=hl.c (j-1) (by omega) (by omega);omega
    · rw [if_neg e]
      by_cases e2:j=0
      · rw [if_pos e2];have:=hl.b (i-1) (by omega) (by omega);omega
      · rw [if_neg e2];have:=(hl.rows (i-1) (by omega) (by omega)).2 (j-1) (by omega) (by omega);omega
  · intro j j0 j1
    have j2:j<=p.n:=j1
    show 0<=(if(0:Int)=0 then(if j=0 then 0 else p.c (j-1)) else if j=0 then-p.b (0-1) else p.A (0-1) (j-1))
    rw [if_pos rfl,if_neg (by omega)];exact(hl.c (j-1) (by omega) (by omega)).1
theorem SolveR.errs{p:Lp}(hl:LOk p)(hm:0<=p.m){s:So}{e:Int}(h:SolveR p s e):e=0\/e=2\/e=9\/e=19:=by
  rcases h with⟨h1,_⟩|⟨_,u,hr,_⟩
  · exact absurd hl h1
  · exact Zde hr (TS hl hm).1 (TS hl hm).2 ⟨_,Za1 hl hm⟩
end Go.Proofs.Gw
namespace Go.Proofs.YtopmifmfecfaaaaGreat
open Go Go.RowKit Go.Proofs.Gw
variable {c cap e i k n u:Int} {a ml x y:Int->Int} {mf:Int->Int->Int} {s:So} {vI:Value}
theorem Zj7:Zc Tryz.prog 11=true:=by kernel_rfl
theorem Zio:Zc Tryz.prog 127=true:=by kernel_rfl
theorem Zin:Zc Tryz.prog 128=true:=by kernel_rfl
theorem ZjJ:Zc Tryz.prog 88=true:=by kernel_rfl
theorem ZjI:Zc Tryz.prog 89=true:=by kernel_rfl
theorem Th:Z0 Tryz.prog 137=some (.agg #[.int .i64 0,.int .i64 0,.int .i64 0],3,24):=by kernel_rfl
theorem Zak:Z0 Tryz.prog 35=some (.agg #[.slice none 0 0,.slice none 0 0,.int .i64 0,.int .i64 0],4,64):=by kernel_rfl
theorem fd_137_0:Zz Tryz.prog 137 0=some 0:=by kernel_rfl
theorem fd_137_1:Zz Tryz.prog 137 1=some 1:=by kernel_rfl
theorem fd_137_2:Zz Tryz.prog 137 2=some 2:=by kernel_rfl
theorem XA:ZJ Tryz.prog 136=some (137,3):=by kernel_rfl
theorem VR:ZF Tryz.prog 137=some 3:=by kernel_rfl
theorem ZaK{p:Prob}(hp:p.Ok)(hx:∀i,0<=i->i<p.m->0<=x i/\x i<=p.D i)(hu:Z8 p x p.m.toNat<=p.stock+p.kerf):Zh (fun i=>x i*y i) p.m.toNat<=WC p y:=by
  have hm:=hp.m1;have hk:=hp.k1
  refine Zjg (t:=YP p y) (by show 0<=p.m;omega) (fun i i0 i1=> ?_) hx hu
  have:=hp.all i i0 i1
  unfold Prob.each at this
  show 1<=p.L i+p.kerf
  omega
theorem Zc2{p:Prob}(h:FitsP p n a)(D:Int->Int)(hD:∀i,0<=i->i<p.m->0<=D i):Z8 p (fun k=>min (a k) (D k)) p.m.toNat<=p.stock+p.kerf:=by
  have hp:=h.ok
  have hm:=hp.m1;have hk:=hp.k1
  refine Int.le_trans (Yy fun i h0 h1=> ?_) h.used
  have:=h.all i h0 (by omega)
  have h2:=hp.all i h0 (by omega)
  unfold Prob.each at h2
  have:=hD i h0 (by omega)
  exact Int.mul_le_mul_of_nonneg_right (show min (a i) (D i)<=a i by omega) (by omega)
theorem XW{p:Prob}(hp:p.Ok)(i0:0<=i)(i1:i<p.m):0<=p.D i/\p.D i<=1000/\1<=p.L i/\p.L i<=p.stock:=by
  have h2:=hp.all i i0 i1
  unfold Prob.each at h2;omega
theorem UZ{p:Prob}(hp:p.Ok)(hy:∀i,0<=i->i<p.m->0<=y i){W q:Int}{u:Nat}{f:Int->Int->Int}{D:Int->Int}(hx:∀j,0<=j->j<(u:Int)->0<=x j)(hW:∀j,0<=j->j<(u:Int)->Zh (fun k=>f j k*y k) p.m.toNat<=W)
    (hb:∀k,0<=k->k<p.m->D k*q<=Zh (fun j=>f j k*x j) u):Zh (fun k=>D k*y k) p.m.toNat*q<=Zh x u*W:=by
  have hm:=hp.m1
  have e1:Zh (fun k=>D k*y k) p.m.toNat*q=Zh (fun k=>D k*q*y k) p.m.toNat:=by
    rw [<-YB];exact Zj fun k _ _=>by grind
  have e2:Zh (fun k=>D k*q*y k) p.m.toNat<=Zh (fun k=>Zh (fun j=>f j k*x j) u*y k) p.m.toNat:=Yy fun k k0 k1=>Int.mul_le_mul_of_nonneg_right (hb k k0 (by omega)) (hy k k0 (by omega))
  have e3:Zh (fun k=>Zh (fun j=>f j k*x j) u*y k) p.m.toNat=Zh (fun k=>Zh (fun j=>f j k*x j*y k) u) p.m.toNat:=Zj fun k _ _=>(YB _ _ _).symm
  have e4:Zh (fun k=>Zh (fun j=>f j k*x j*y k) u) p.m.toNat=Zh (fun j=>Zh (fun k=>f j k*x j*y k) p.m.toNat) u:=W5 (fun j k=>f j k*x j*y k) u p.m.toNat
  have e5:Zh (fun j=>Zh (fun k=>f j k*x j*y k) p.m.toNat) u<=Zh (fun j=>x j*W) u:=Yy fun j j0 j1=>by
    have:Zh (fun k=>f j k*x j*y k) p.m.toNat=Zh (fun k=>f j k*y k) p.m.toNat*x j:=by
      rw [<-YB];exact Zj fun k _ _=>by grind
    rw [this,Int.mul_comm (x j)]
    exact Int.mul_le_mul_of_nonneg_right (hW j j0 j1) (hx j j0 j1)
  rw [YB] at e5
  omega
structure MOk (p:Prob) (u:Int) (ml:Int->Int) (mf:Int->Int->Int) (s:So):Prop where
  pats:WF p u ml mf
  u0:0<=u
  n:s.n=u
  m:s.m=p.m
  d1:1<=s.den
  d2:s.den<=1073741824
  v:0<=s.val/\s.val<=1073741824
  X:∀j,0<=j->j<u->0<=s.X j/\s.X j<=1073741824
  Y:∀i,0<=i->i<p.m->0<=s.Y i/\s.Y i<=1073741824
  rows:∀k,0<=k->k<p.m->p.D k*s.den<=Zh (fun j=>mf j k*s.X j) u.toNat
  cols:∀j,0<=j->j<u->Zh (fun k=>mf j k*s.Y k) p.m.toNat<=s.den
  cX:Zh s.X u.toNat=s.val
  bY:Zh (fun k=>p.D k*s.Y k) p.m.toNat=s.val
theorem MSolveR.ok{p:Prob}(hu:0<=u)(h:MSolveR p u ml mf s 0):MOk p u ml mf s:=by
  rcases h with⟨_,_,h⟩|⟨_,_,_,h⟩|⟨_,_,_,_,_,_,h⟩|⟨h1,h2,h3,h4,h5,h6,h7⟩|⟨h1,h2,h3,h4,h5⟩
  · omega
  · omega
  · omega
  · have hm:=h1.1.m1;have hd:=h1.1.d
    subst h6;subst h4
    have z:∀f:Int->Int,Zh (fun k=>f k*0) p.m.toNat=0:=fun f=>by rw [YB,Int.mul_zero]
    refine⟨h1,by omega,rfl,rfl,by show(1:Int)<=1;decide,by show(1:Int)<=1073741824;decide,⟨Int.le_refl _,by show(0:Int)<=1073741824;decide⟩,fun j a b=>by omega,fun i _ _=>⟨Int.le_refl _,by show(0:Int)<=1073741824;decide⟩,fun k k0 k1=> ?_,fun j a b=>by omega,rfl,z p.D⟩
    have:=h5 k k0 (by omega)
    show p.D k*1<=0
    omega
  · have hm:=h1.1.m1
    have hc:=SolveR.chk (p:=ZaU p u mf) (by show 0<=p.m;omega) h5 rfl
    have hv:s.val=Zh s.X u.toNat:=by
      have:=hc.cX
      rw [<-this];exact Zj fun k _ _=>by show 1*s.X k=_;omega
    refine⟨h1,by omega,hc.n,hc.m,hc.d1,hc.d2,⟨?_,hc.v.2⟩,hc.X,hc.Y,fun k k0 k1=> ?_,fun j j0 j1=> ?_,hv.symm,hc.bY⟩
    · rw [hv];exact Ym fun j j0 j1=>(hc.X j j0 (by show j<u;omega)).1
    · exact hc.rows k k0 k1
    · have:=hc.cols j j0 j1
      have e:(ZaU p u mf).c j*s.den=s.den:=by show 1*s.den=_;omega
      rw [e] at this;exact this
theorem WN{p:Prob}(h:ZN p n a):(∀i,0<=i->i<p.m->0<=a i/\a i<=p.D i)/\Z8 p a p.m.toNat<=p.stock+p.kerf:=
  ⟨fun i i0 i1=>⟨(h.1.all i i0 i1).1,h.2 i i0 (by rw [h.1.eq];exact i1)⟩,h.1.used⟩
theorem MOk.bound{p:Prob}(h:MOk p u ml mf s)(hy:∀i,0<=i->i<p.m->0<=y i):Zh (fun k=>p.D k*y k) p.m.toNat*s.den<=s.val*WC p y:=by
  have hp:=h.pats.1
  have hu:=h.u0
  rw [<-h.cX]
  refine UZ hp hy (fun j j0 j1=>(h.X j j0 (by omega)).1) (fun j j0 j1=> ?_) h.rows
  obtain⟨h1,h2⟩:=WN (h.pats.2 j j0 (by omega))
  exact ZaK hp h1 h2
theorem ZaR{p:Prob}(hy:∀i,0<=i->i<p.m->0<=y i){l:Int}{len:Int->Int}{pt:Int->Int->Int}{cnt:Int->Int}(hM:MeetsP p l len pt cnt)(hl:0<=l):Zh (fun k=>p.D k*y k) p.m.toNat<=Zh cnt l.toNat*WC p y:=by
  have hp:=hM.s.ok
  have h:=UZ hp hy (W:=WC p y) (q:=1) (u:=l.toNat) (x:=cnt) (f:=fun i k=>min (pt i k) (p.D k)) (D:=p.D) (fun j j0 j1=>by have:=(hM.s.all j j0 (by omega)).2;omega) (fun j j0 j1=> ?_) (fun k k0 k1=> ?_)
  · omega
  · have hf:=(hM.s.all j j0 (by omega)).1
    exact ZaK hp (fun i i0 i1=>by have:=hf.all i i0 i1;have:=XW hp i0 i1;omega) (Zc2 hf p.D fun i i0 i1=>(XW hp i0 i1).1)
  · have h1:=hM.all k k0 k1
    have:=Zft (n:=l.toNat) (a:=fun i=>pt i k) (c:=cnt) (D:=p.D k) (XW hp k0 k1).1 (fun i a0 a1=>((hM.s.all i a0 (by omega)).1.all k k0 k1).1) (fun i a0 a1=>(hM.s.all i a0 (by omega)).2.1) h1
    omega
theorem ZdV{p:Prob}(h:Zch p s):WC p s.Y<=s.den:=by
  obtain⟨na,a,worth,h1,h2⟩:=h
  rcases h1 with⟨_,_,_,h1⟩|⟨_,_,_,_,h1,_⟩
  · omega
  · omega
theorem MOk.own{p:Prob}(h:MOk p u ml mf s)(hc:WC p s.Y<=s.den):s.val*s.den=s.val*WC p s.Y:=by
  have h1:=h.bound (y:=s.Y) fun i i0 i1=>(h.Y i i0 i1).1
  rw [h.bY] at h1
  have:=Int.mul_le_mul_of_nonneg_left hc h.v.1
  omega
theorem MOk.prc{p:Prob}(h:MOk p u ml mf s):VN p s.m s.Y:=⟨h.pats.1,h.m,fun k k0 k1=>h.Y k k0 k1⟩
theorem ColR.okS{p:Prob}(hu:0<=u)(h:ColR p u ml mf s e)(he:e=0):MOk p u ml mf s/\WC p s.Y<=s.den:=by
  rcases h with⟨_,_,_,h⟩|⟨_,h,_⟩|⟨_,_,_,h1,h2⟩
  · omega
  · exact absurd he h
  · exact⟨h1.ok hu,ZdV h2⟩
theorem ZbB{n:Nat}(k0:0<=k)(k1:k<(n:Int))(h:∀j,0<=j->j<(n:Int)->j≠k->x j=0):Zh x n=x k:=by
  rw [Z5 (s:=k) k0 k1]
  have:Zh (fun j=>if j=k then 0 else x j) n=Zh (fun _=>0) n:=Zj fun j j0 j1=>by
    by_cases e:j=k
    · rw [if_pos e]
    · rw [if_neg e,h j j0 j1 e]
  rw [this,ZL];omega
theorem KN{p:Prob}(hp:p.Ok)(i0:0<=i)(i1:i<p.m):ZN p p.m (XT p i)/\(0<p.D i->1<=XT p i i):=by
  have hm:=hp.m1;have hk:=hp.k1;have hs:=hp.s1
  have hd:=XW hp i0 i1
  have hq:=VY (a:=p.stock+p.kerf) (b:=p.L i+p.kerf) (by omega) (by omega)
  have h0:0<=(p.stock+p.kerf).tdiv (p.L i+p.kerf):=Int.tdiv_nonneg (by omega) (by omega)
  have h1:1<=(p.stock+p.kerf).tdiv (p.L i+p.kerf):=by
    rw [Int.tdiv_eq_ediv_of_nonneg (by omega)]
    exact(Int.le_ediv_iff_mul_le (by omega)).2 (by omega)
  have hv:XT p i i=min (p.D i) ((p.stock+p.kerf).tdiv (p.L i+p.kerf)):=if_pos rfl
  have hz:∀j,j≠i->XT p i j=0:=fun j e=>if_neg e
  refine⟨⟨⟨hp,rfl,fun j j0 j1=> ?_,?_⟩,fun j j0 j1=> ?_⟩,fun h=>by rw [hv];omega⟩
  · by_cases e:j=i
    · rw [e,hv];omega
    · rw [hz j e];omega
  · have e:Z8 p (XT p i) p.m.toNat=XT p i i*(p.L i+p.kerf):=ZbB (x:=fun j=>XT p i j*(p.L j+p.kerf)) i0 (by omega) fun j _ _ e=>by show XT p i j*_=0;rw [hz j e,Int.zero_mul]
    rw [e,hv]
    have h2:=Int.mul_le_mul_of_nonneg_right (show min (p.D i) ((p.stock+p.kerf).tdiv (p.L i+p.kerf))<=(p.stock+p.kerf).tdiv (p.L i+p.kerf) by omega) (show 0<=p.L i+p.kerf by omega)
    have h3:(p.stock+p.kerf).tdiv (p.L i+p.kerf)*(p.L i+p.kerf)<=p.stock+p.kerf:=by
      rw [Int.tdiv_eq_ediv_of_nonneg (by omega)]
      exact Int.ediv_mul_le _ (by omega)
    omega
  · by_cases e:j=i
    · rw [e,hv];omega
    · rw [hz j e];exact(XW hp j0 j1).1
theorem Zc9 {p:Prob} (hp:p.Ok):∀k:Nat,(k:Int)<=p.m->(∀j,0<=j->j<stN p k->ZN p (stL p k j) (stG p k j))/\∀i,0<=i->i<(k:Int)->0<p.D i->∃j,0<=j/\j<stN p k/\1<=stG p k j i
  |0,_=>⟨fun j a b=>by simp only [stN] at b;omega,fun i a b=>by omega⟩
  | k + 1,hk=>by
    obtain⟨h1,h2⟩:=Zc9 hp k (by omega)
    have hr:=(Wd p k).1
    simp only [stN,stL,stG]
    by_cases e:0<p.D k
    · rw [if_pos e,if_pos e,if_pos e]
      obtain⟨q1,q2⟩:=KN hp (i:=(k:Int)) (by omega) (by omega)
      constructor
      · intro j j0 j1
        by_cases e2:j<stN p k
        · rw [Zs e2,Zs e2];exact h1 j j0 e2
        · rw [Zr e2,Zr e2];exact q1
      · intro i i0 i1 hi
        by_cases e2:i=k
        · subst e2
          refine⟨stN p k,hr,by omega,?_⟩
          rw [Zr (by omega)];exact q2 e
        · obtain⟨j,j0,j1,hj⟩:=h2 i i0 (by omega) hi
          refine⟨j,j0,by omega,?_⟩
          rw [Zs j1];exact hj
    · rw [if_neg e,if_neg e,if_neg e]
      refine⟨h1,fun i i0 i1 hi=>h2 i i0 ?_ hi⟩
      by_cases e2:i=k
      · subst e2;omega
      · omega
theorem ZaQ{p:Prob}{na worth:Int}(h:PriceR p n y na a worth e)(he:e=0):ZN p na a:=by
  rcases h with⟨_,_,_,h⟩|⟨⟨hp,hn,hy⟩,rfl,rfl,⟨x,hx⟩,_,_⟩
  · omega
  · have hm:=hp.m1;have hk:=hp.k1;have hs:=hp.s1
    have hq:=Ze5 (by omega) hx
    have hu:=(hx.worth (by omega) (by show 0<=p.m;omega)).1
    have hb:∀i,0<=i->i<p.m->0<=aC p y i/\aC p y i<=p.D i:=fun i i0 i1=>by
      have h1:=hx i i0 i1
      rw [<-hq i i0 i1];exact⟨h1.1,h1.2.1⟩
    refine⟨⟨hp,rfl,fun i i0 i1=> ?_,?_⟩,fun i i0 i1=>(hb i i0 i1).2⟩
    · have:=hb i i0 i1;have:=XW hp i0 i1;omega
    · refine Int.le_trans (Int.le_of_eq ?_) hu
      show Zh (fun i=>aC p y i*(p.L i+p.kerf)) p.m.toNat=Zh (fun i=>x i*(p.L i+p.kerf)) p.m.toNat
      exact Zj fun i i0 i1=>by rw [hq i i0 (by omega)]
theorem WU{p:Prob}(hok:p.Ok)(h:CRn p u ml mf e):e=0/\WF p u ml mf/\0<=u/\∀i,0<=i->i<p.m->0<p.D i->∃j,0<=j/\j<u/\1<=mf j i:=by
  have hm:=hok.m1
  induction h with
  | start h=>
    rcases h with⟨h,_⟩|⟨_,h1,h2,h3,h4⟩
    · exact absurd hok h
    · subst h1;subst h2;subst h3
      obtain⟨q1,q2⟩:=Zc9 hok p.m.toNat (by omega)
      exact⟨h4,⟨hok,q1⟩,(Wd p _).1,fun i i0 i1=>q2 i i0 (by omega)⟩
  | go h hs hp hn ih=>
    rename_i u1 na1 w1 f1 ml1 mf1 a1 s1
    obtain⟨_,h2,h3,h4⟩:=ih
    have hpr:=(hs.ok h3).prc
    have hf:f1=0:=by
      rcases hp with⟨q,_⟩|⟨_,_,_,_,_,q⟩
      · exact absurd hpr q
      · exact q
    refine⟨hf,⟨hok,fun k k0 k1=> ?_⟩,by omega,fun i i0 i1 hi=> ?_⟩
    · by_cases e:k<u1
      · rw [Zs e,Zs e];exact h2.2 k k0 e
      · rw [Zr e,Zr e];exact ZaQ hp hf
    · obtain⟨j,j0,j1,hj⟩:=h4 i i0 i1 hi
      exact⟨j,j0,by omega,by rw [Zs j1];exact hj⟩
theorem Zjr{p:Prob}(h:WF p u ml mf)(hu:1<=u)(hu2:u<=60)(hm:p.m<=16):LOk (ZaU p u mf):=by
  have hp:=h.1
  refine⟨hu,hu2,hm,hp.d,fun j _ _=>by show(0:Int)<=1/\(1:Int)<=1000000;omega,fun i i0 i1=> ?_,fun i i0 i1=>⟨rfl,fun j j0 j1=> ?_⟩⟩
  · have:=XW hp i0 i1
    show-1000000<=p.D i/\p.D i<=1000000;omega
  · have h1:=(WN (h.2 j j0 j1)).1 i i0 i1
    have:=XW hp i0 i1
    show-1000000<=mf j i/\mf j i<=1000000;omega
theorem Zfr {p:Prob} (hP:WF p u ml mf) (hu:0<=u) (hc:∀i,0<=i->i<p.m->0<p.D i->∃j,0<=j/\j<u/\1<=mf j i) (h:MSolveR p u ml mf s e):e=0\/e=2\/e=9:=by
  have hp:=hP.1
  have hm:=hp.m1;have hd:=hp.d
  rcases h with⟨h,_⟩|⟨_,_,_,h⟩|⟨_,_,_,h1,⟨k,k0,k1,hk⟩,_,_⟩|⟨_,_,_,_,_,_,h⟩|⟨_,h2,h3,h4,h5⟩
  · exact absurd hP h
  · omega
  · obtain⟨j,j0,j1,_⟩:=hc k k0 (by omega) hk;omega
  · omega
  · rcases h5.errs (Zjr hP h4 h3 h2) (by show 0<=p.m;omega) with h|h|h|h
    · omega
    · omega
    · omega
    · exfalso
      obtain⟨y,hy⟩:=h5.none (by show 0<=p.m;omega) h
      have:=Zdh hy (show 0<=u by omega) (show 0<=p.m by omega) (x:=fun _=>1000) (a:=1) (by omega) (fun j _ _=>by omega) fun i i0 i1=>by
        have hd:=XW hp i0 i1
        have hnn:∀j,0<=j->j<(u.toNat:Int)->0<=mf j i*1000:=fun j j0 j1=>by
          have:=((WN (hP.2 j j0 (by omega))).1 i i0 i1).1;omega
        show p.D i*1<=Zh (fun j=>mf j i*1000) u.toNat
        rcases Int.lt_or_le 0 (p.D i) with e|e
        · obtain⟨j,j0,j1,hj⟩:=hc i i0 i1 e
          have:=XY (f:=fun j=>mf j i*1000) (n:=u.toNat) j0 (by omega) hnn
          have h9:mf j i*1000<=Zh (fun j=>mf j i*1000) u.toNat:=this
          omega
        · have:=Ym hnn;omega
      omega
theorem ColR.errs{p:Prob}(hok:p.Ok)(h:ColR p u ml mf s e):(e≠0/\u=0/\(e=9\/e=2))\/e=0:=by
  rcases h with⟨h,_⟩|⟨_,he,hu,_,u1,ml1,mf1,e1,h1,h2⟩|⟨_,h,_⟩
  · exact absurd hok h
  · obtain⟨q1,q2,q3,q4⟩:=WU hok h1
    rcases h2 with⟨h2,_⟩|⟨_,s1,h2⟩
    · exact absurd q1 h2
    · have:=Zfr q2 q3 q4 h2
      exact .inl ⟨he,hu,by omega⟩
  · exact .inr h
theorem ColR.few{p:Prob}{u e:Int}{ml:Int->Int}{mf:Int->Int->Int}{s:So}(h:ColR p u ml mf s e)(he:e=0):u<=60:=by
  rcases h with⟨_,_,_,h⟩|⟨_,h,_⟩|⟨_,_,_,h1,_⟩
  · omega
  · exact absurd he h
  · exact h1.few.2.1
theorem Zdf{T:Int->Int}{s y v:Int}(hT:0<=T c)(hks:k*s<=c)(h:(k=0/\v=0)\/(1<=k/\v=R T s y (k-1).toNat c)):max v (k*y+T (c-k*s))=R T s y k.toNat c:=by
  rcases h with⟨rfl,rfl⟩|⟨h1,rfl⟩
  · rw [Int.zero_mul,Int.zero_mul,Int.sub_zero,Int.zero_add];show max 0 (T c)=T c;omega
  · rw [ZkA T s y h1 hks];omega
theorem Zdg{T:Int->Int}{s y v M:Int}(hs:1<=s)(c0:0<=c)(M0:0<=M)(hk:k<=M+1)(bR:¬(k<=M/\k*s<=c))(h:(k=0/\v=0)\/(1<=k/\v=R T s y (k-1).toNat c)):v=R T s y M.toNat c:=by
  rcases h with⟨rfl,_⟩|⟨h1,rfl⟩
  · exfalso;rw [Int.zero_mul] at bR;omega
  · by_cases e:k<=M
    · have h2:¬k*s<=c:=fun hh=>bR ⟨e,hh⟩
      exact(Zjd T s y c (k-1).toNat (by rw [show((k-1).toNat:Int)+1=k by omega];omega) (by omega) M.toNat (by omega)).symm
    · rw [show k-1=M by omega]
def SkI(t:Its)(i c k n:Int):Prop:=(n=0/\∀j,0<=j->j<k->KI t (i+1) (c-j*t.S i)+j*t.V i≠KI t i c)\/
  (0<=n/\n<k/\n<=t.M i/\n*t.S i<=c/\KI t (i+1) (c-n*t.S i)+n*t.V i=KI t i c/\∀j,n<j->j<k->KI t (i+1) (c-j*t.S i)+j*t.V i≠KI t i c)
theorem SkI.start(t:Its)(i c:Int):SkI t i c 0 0:= .inl ⟨rfl,fun j a b=>by omega⟩
theorem SkI.yes{t:Its}(k0:0<=k)(hM:k<=t.M i)(hks:k*t.S i<=c)(he:k*t.V i+KI t (i+1) (c-k*t.S i)=KI t i c):SkI t i c (k+1) k:= .inr ⟨k0,by omega,hM,hks,by omega,fun j a b=>by omega⟩
theorem SkI.no{t:Its}(h:SkI t i c k n)(he:k*t.V i+KI t (i+1) (c-k*t.S i)≠KI t i c):SkI t i c (k+1) n:=by
  rcases h with⟨h1,h2⟩|⟨h1,h2,h3,h4,h5,h6⟩
  · refine .inl ⟨h1,fun j a b=> ?_⟩
    by_cases e:j=k
    · subst e;omega
    · exact h2 j a (by omega)
  · refine .inr ⟨h1,by omega,h3,h4,h5,fun j a b=> ?_⟩
    by_cases e:j=k
    · subst e;omega
    · exact h6 j a (by omega)
theorem SkI.fin{t:Its}(hk:t.Ok cap)(i0:0<=i)(i1:i<t.n)(c0:0<=c)(h:SkI t i c k n)(bR:¬(k<=t.M i/\k*t.S i<=c)):
    0<=n/\n<=t.M i/\n*t.S i<=c/\KI t (i+1) (c-n*t.S i)+n*t.V i=KI t i c/\∀j,n<j->j<=t.M i->j*t.S i<=c->KI t (i+1) (c-j*t.S i)+j*t.V i≠KI t i c:=by
  have he:=hk.all i i0 i1
  unfold Its.each Ys at he
  have hlt:∀j,j<=t.M i->j*t.S i<=c->j<k:=fun j j1 j2=>by
    rcases Int.lt_or_le j k with h1|h1
    · exact h1
    · exfalso
      have:=Int.mul_le_mul_of_nonneg_right h1 (show 0<=t.S i by omega)
      exact bR ⟨by omega,by omega⟩
  rcases h with⟨h1,h2⟩|⟨h1,h2,h3,h4,h5,h6⟩
  · obtain⟨j,j0,j1,j2,j3⟩:=ZgU hk i0 i1 c0
    exact absurd j3 (h2 j j0 (hlt j j1 j2))
  · exact⟨h1,h3,h4,h5,fun j a b d=>h6 j a (hlt j b d)⟩
theorem ZcJ{t:Its}(w0:World)(hI:Row w0 vI 3 t.n (ZM t.S t.V t.M)):
    Calls Tryz.prog 127 [vI,.int .i64 cap].toArray w0 fun e w=>∃v,e= .returned v/\v=B (t.Ok cap)/\Sat w0 w []:=by
  have hn:=hI.slh.n0;have hn1:=hI.slh.n1
  refine Zm Tryz.func127 Tryz.ntmps127 fun w hS=> ?_
  refine zsr<|(zP)<|zx5<|(zP)<|zx6<|zlp (fun mm M w=>∃(i:Int),mm=((t.n-i).toNat)/\(0<=i)/\(i<=t.n)/\(∀k,0<=k->k<i->t.each k)/\M= [(0,vI),(1,.int .i64 cap),(5,.int .i64 i)]/\Sat w0 w []) ⟨0,rfl,(by omega),(by omega),?_,rfl,hS⟩ ?_
  ·
   intro k h0 h1;omega
  clear hS w
  rintro mm M w ⟨i,rfl,h0,h1,qa,rfl,hS⟩
  refine zx11<|(zP)<|(zP)<|(zV (xln XA hI.slh))<|(zP)<|zlt<|Ze ?_ ?_<;>intro hc
  ·
   refine zx3<|(zP)<|(zP)<|(zV (xix (kk:=3*i) XA hI.slh))<|(zV (xlw (cs:= [.int .i64 (t.S i),.int .i64 (t.V i),.int .i64 (t.M i)]) VR (hI.below hS.below) (Xx (k:=3*i) (i:=i) t.S t.V t.M (by omega))))<|zla (xal (cs:= [_,_,_]) Th hS) ?_;rintro _ w ⟨g1,rfl,hS⟩
   refine zle (xsw 0 VR hS) ?_;clear hS;rintro w hS
   refine zlz<|(zV (xfb 0 fd_137_0))<|(zV (xlb 0 pl_3 hS))<|(zP)<|(zP)<|zlb 20 ?_ ?_<;>intro hc;rotate_left
   refine(zV (xfb 0 fd_137_0))<|(zV (xlb 0 pl_3 hS))<|(zP)<|(zP)<|(zP)<|zlb 25 ?_ ?_<;>intro hc;rotate_left
   refine(zV (xfb 1 fd_137_1))<|(zV (xlb 0 pl_3 hS))<|(zP)<|(zP)<|(zP)<|zlb 30 ?_ ?_<;>intro hc;rotate_left
   refine(zV (xfb 1 fd_137_1))<|(zV (xlb 0 pl_3 hS))<|(zP)<|(zP)<|(zP)<|zlb 35 ?_ ?_<;>intro hc;rotate_left
   refine(zV (xfb 2 fd_137_2))<|(zV (xlb 0 pl_3 hS))<|(zP)<|(zP)<|(zP)<|zlb 40 ?_ ?_<;>intro hc;rotate_left
   refine(zV (xfb 2 fd_137_2))<|(zV (xlb 0 pl_3 hS))<|(zP)<|(zP)<|zlt<|Ze ?_ ?_<;>intro hc
   ·
    refine zsr<|(zP)<|zx2<|zf1 ⟨_,rfl,?_⟩
    exact⟨false_B (by intro hok;have h2:=hok.n;have h3:=hok.c0;have h4:=hok.c1;first|omega|(have hev:=hok.all i h0 (by omega);unfold Its.each Ys at hev;omega)),hS.nl⟩
   refine zx4<|(zP)<|(zV (Zf (r:=i+1)))<|(zP)<|zln<|zlq ⟨i+1,rfl,(by omega),(by omega),?_,rfl,hS.nl⟩
   ·
    intro k h0' h1';rcases Int.lt_or_eq_of_le (show k<=i by omega) with hk|hk;exact qa k h0' hk;rw [hk];unfold Its.each Ys;omega
   all_goals
    refine zOps ?_
    refine zlt<|zct<|zsr ?_
    refine zOps ?_
    refine zx2<|zf1 ⟨_,rfl,?_⟩
    exact⟨false_B (by intro hok;have h2:=hok.n;have h3:=hok.c0;have h4:=hok.c1;first|omega|(have hev:=hok.all i h0 (by omega);unfold Its.each Ys at hev;omega)),hS.nl⟩
  refine zx8<|(zP)<|(zV (xln XA hI.slh))<|(zP)<|(zP)<|zlb 48 ?_ ?_<;>intro hc
  ·
   refine zs4 ?_
   refine zlb 52 ?_ ?_<;>intro hc
   ·
    refine zs4 ?_
    refine zx1<|zf1 ⟨_,rfl,?_⟩
    exact⟨ZA (by exact⟨fun hx=>⟨by omega,by omega,by omega,fun k k0 k1=>qa k k0 (by omega)⟩,fun hok=>hok.c1⟩),hS⟩
   refine(zO)<|(zO)<|(zP)<|(zP)<|zx1<|zf1 ⟨_,rfl,?_⟩
   exact⟨false_B (by intro hok;have h2:=hok.n;have h3:=hok.c0;have h4:=hok.c1;first|omega|(have hev:=hok.all i h0 (by omega);unfold Its.each Ys at hev;omega)),hS⟩
  refine(zO)<|(zO)<|(zP)<|(zP)<|(zO)<|zlo ?_
  refine(zP)<|(zP)<|zx1<|zf1 ⟨_,rfl,?_⟩
  exact⟨false_B (by intro hok;have h2:=hok.n;have h3:=hok.c0;have h4:=hok.c1;first|omega|(have hev:=hok.all i h0 (by omega);unfold Its.each Ys at hev;omega)),hS⟩
theorem ZcM{t:Its}(w0:World)(hI:Row w0 vI 3 t.n (ZM t.S t.V t.M))(hk:t.Ok cap):
    Calls Tryz.prog 128 [vI,.int .i64 cap].toArray w0 fun e w=>∃v,e= .returned v/\∃r vv,v=r/\Slh r (t.n+1)/\Sat w0 w [.own r 1 22 (t.n+1) vv,.sem (Frame.rows 3 (t.n+1) vv (fun _=>cap+1) (KI t))]:=by
  have hn:=hI.slh.n0
  have hk1:=hk.n;have hk2:=hk.c0;have hk3:=hk.c1
  refine Zm Tryz.func128 Tryz.ntmps128 fun w hS=> ?_
  refine zsr<|(zP)<|zlz<|(zP)<|(zV (xln XA hI.slh))<|(zV (Zf (r:=t.n+1)))<|zla (xmk Zi Ya hS) ?_;rintro v1 w ⟨hS,hv1⟩
  refine(zP)<|zlz<|(zP)<|(zP)<|(zV (xln XA hI.slh))<|(zP)<|(zV (Zf (r:=cap+1)))<|zla (xmk Zb Zn hS) ?_;rintro v2 w ⟨hS,hv2⟩
  refine(zV (xix (kk:=t.n) Zi hv1))<|zle (xso 0 pl_22 hS rfl (hv:=hv2.one)) ?_;clear hS;rintro w hS
  refine zx5<|(zP)<|(zV (xln XA hI.slh))<|(zV (ZD (r:=t.n-1)))<|(zP)<|zx6 ?_
  replace hS:=hS.addrows 3 (fun _=>Value.slice none 0 0) (fun _=>cap+1) (fun j=>KI t (t.n-j))
  have yw:=fun k (k0:0<=k) (k1:k<0)=>hS.slhIn 2 rfl k0 k1
  replace hS:=Sat.merge2 (l1:= [_]) (l2:= []) (l3:= []) hS (by omega)
  have qN:=fun k (k0:0<=k) (k1:k<1)=>hS.slhIn 1 rfl k0 k1
  replace hS:=hS.rerows (vv':=gsn (fun _=>Value.slice none 0 0) 0 v2) (ln':=fun _=>cap+1) (f':=fun j=>KI t (t.n-j)) 1 rfl (fun k k0 k1=>by
    by_cases e:k<0
    · exact⟨rfl,Zs e,fun j _ _=>by rw [Zs e]⟩
    · have hk9:k=0:=by omega
      refine⟨rfl,Zr e,fun j j0 j1=> ?_⟩
      rw [Zr e,hk9];rw [show t.n-(0:Int)=t.n by omega,Zbl])
  have dS:=fun k (k0:0<=k) (k1:k<1)=>hS.slhIn 1 rfl k0 k1
  refine zlp (fun mm M w=>∃(nC:Int) (wv:Int->Value) (rv:Int->Value) (i:Int),mm=((i+1).toNat)/\(-1<=i)/\(i<=t.n-1)/\(nC=t.n-i)/\(∀j,0<=j->j<nC->wv (t.n-j)=rv j)/\M= [(0,vI),(1,.int .i64 cap),(4,.slice none 0 0),(5,v1),(6,.int .i64 i)]/\Sat w0 w [.own v1 1 22 (t.n+1) wv,.sem (Frame.rows 3 nC rv (fun _=>cap+1) (fun j=>KI t (t.n-j)))]) ⟨1,upd (fun _=> .slice none 0 0) t.n (v2),gsn (fun _=>Value.slice none 0 0) 0 v2,(t.n-1),rfl,(by omega),(by omega),(by omega),?_,rfl,hS⟩ ?_
  ·
   intro j j0 j1;obtain rfl:j=0:=by omega
   rw [show t.n-(0:Int)=t.n by omega,gu_self,Zr (by omega)]
  clear hS w
  rintro mm M w ⟨nC,wv,rv,i,rfl,i0,i1,hnC,hwv,rfl,hS⟩
  have xe:=fun k (k0:0<=k) (k1:k<nC)=>hS.slhIn 1 rfl k0 k1
  refine zx11<|(zP)<|(zP)<|zlt<|Ze ?_ ?_<;>intro hc
  ·
   refine zx3<|(zP)<|(zP)<|(zV (xix (kk:=3*i) XA hI.slh))<|zlv (xlw (cs:= [.int .i64 (t.S i),.int .i64 (t.V i),.int .i64 (t.M i)]) VR (hI.below hS.below) (Xx (k:=3*i) (i:=i) t.S t.V t.M (by omega))) ?_
   have hev:=hk.all i (by omega) (by omega);unfold Its.each Ys at hev
   refine zla (xal (cs:= [_,_,_]) Th hS) ?_;rintro _ w ⟨g1,rfl,hS⟩
   refine zle (xsw 2 VR hS) ?_;clear hS;rintro w hS
   refine zlz<|(zP)<|(zP)<|(zP)<|(zV (Zf (r:=cap+1)))<|zla (xmk Zb Zn hS) ?_;rintro v3 w ⟨hS,hv3⟩
   refine(zV (xix (kk:=i) Zi hv1))<|zle (xso 0 pl_22 hS rfl (hv:=hv3.one)) ?_;clear hS;rintro w hS
   refine zlz<|(zP)<|zx6<|zlp (fun mm M w=>∃(c:Int) (g:Int->Int),mm=((cap+1-c).toNat)/\(0<=c)/\(c<=cap+1)/\(∀q,0<=q->q<c->g q=R (KI t (i+1)) (t.S i) (t.V i) (t.M i).toNat q)/\(∀q,c<=q->q<=cap->g q=0)/\M= [(0,vI),(1,.int .i64 cap),(4,.slice none 0 0),(5,v1),(6,.int .i64 i),(7,.pointer (some ⟨g1,0,none⟩)),(8,.int .i64 c)]/\Sat w0 w [.own v1 1 22 (t.n+1) (upd wv i (v3)),.sem (Frame.rows 3 nC rv (fun _=>cap+1) (fun j=>KI t (t.n-j))),.blk g1 [.int .i64 (t.S i),.int .i64 (t.V i),.int .i64 (t.M i)],.own v3 1 3 (cap+1) (ints g)]) ⟨0,(fun _=>0),rfl,(by omega),(by omega),?_,?_,rfl,hS⟩ ?_
   ·
    intro q q0 q1;omega
   ·
    intro q q0 q1;rfl
   clear hS w
   rintro mm M w ⟨c,g,rfl,c0,c1,hg,hgz,rfl,hS⟩
   refine zx11<|(zP)<|(zP)<|(zP)<|zlt<|Ze ?_ ?_<;>intro hc
   ·
    refine zx3<|(zP)<|zx6<|zlp (fun mm M w=>∃(k:Int) (g3:Int->Int),mm=((t.M i+1-k).toNat)/\(0<=k)/\(k<=t.M i+1)/\(∀q,q≠c->g3 q=g q)/\((k=0/\g3 c=0)\/(1<=k/\g3 c=R (KI t (i+1)) (t.S i) (t.V i) (k-1).toNat c))/\M= [(0,vI),(1,.int .i64 cap),(4,.slice none 0 0),(5,v1),(6,.int .i64 i),(7,.pointer (some ⟨g1,0,none⟩)),(8,.int .i64 c),(9,.int .i64 k)]/\Sat w0 w [.own v1 1 22 (t.n+1) (upd wv i (v3)),.sem (Frame.rows 3 nC rv (fun _=>cap+1) (fun j=>KI t (t.n-j))),.blk g1 [.int .i64 (t.S i),.int .i64 (t.V i),.int .i64 (t.M i)],.own v3 1 3 (cap+1) (ints g3)]) ⟨0,g,rfl,(by omega),(by omega),?_,?_,rfl,hS⟩ ?_
    ·
     intro q _;rfl
    ·
     exact .inl ⟨rfl,hgz c (by omega) (by omega)⟩
    clear hS w
    rintro mm M w ⟨k,g3,rfl,k0,k1,hgl,hgc,rfl,hS⟩
    refine zx11<|(zP)<|(zV (xfb 2 fd_137_2))<|zlv (xlb 2 pl_3 hS) ?_
    have hkS:=XN (a:=k) (b:=t.S i) (A:=1001) (B:=4000) (by omega) (by omega) (by omega) (by omega)
    refine(zP)<|(zP)<|zlb 47 ?_ ?_<;>intro hc
    ·
     refine(zP)<|(zV (xfb 0 fd_137_0))<|(zV (xlb 2 pl_3 hS))<|(zV (Z4 (r:=(k*(t.S i))) (e:=rfl)))<|(zP)<|(zP)<|(zP)<|zlt<|Ze ?_ ?_<;>intro hc
     ·
      refine zx38<|zdst [0,1,2,3] [0,1,2] 32 mx_ hS ?_;clear hS;intro w hS
      refine zDrv 0 xmv ?_
      have hkV:=XN (a:=k) (b:=t.V i) (A:=1001) (B:=1073741824) (by omega) (by omega) (by omega) (by omega)
      have hkb:=Xa hk (i:=i+1) (by omega) (by omega) (c:=c-k*t.S i) (by omega)
      have hkc:=Xa hk (i:=i+1) (by omega) (by omega) (c:=c) (by omega)
      have hkd:(fun j=>KI t (t.n-j)) (t.n-i-1) (c-k*t.S i)=KI t (i+1) (c-k*t.S i):=by show KI t (t.n-(t.n-i-1)) _=_;congr 1;omega
      refine(zDw 1 xmv)<|(zDw 2 (xix (kk:=i) Zi hv1))<|(zDl 3 (fun w hS=>(xlr (u:=v3) pl_22 (hS.rowN 0 rfl) (e:=(gu_self _ _ _)))))<|(zDw 4 xmv)<|(zDw 5 xmv)<|(zDw 6 xmv)<|(zDw 7 (xix (kk:=i) Zi hv1))<|(zDl 8 (fun w hS=>(xlr (u:=v3) pl_22 (hS.rowN 0 rfl) (e:=(gu_self _ _ _)))))<|(zDw 9 xmv)<|(zDw 10 (xix (kk:=c) Zb hv3))<|zdl 11 (fun w hS=>(xlr (u:= .int .i64 (g3 c)) pl_3 (hS.rowN 3 rfl))) ?_
      refine(zDw 12 xmv)<|(zDw 13 (xfb 1 fd_137_1))<|(zDl 14 (fun w hS=>(xlb 2 pl_3 hS)))<|(zDw 15 (Z4 (r:=(k*(t.V i))) (e:=rfl)))<|(zDw 16 xmv)<|(zDw 17 xmv)<|(zDw 18 (Zf (r:=i+1)))<|(zDw 19 (xix (kk:=i+1) Zi hv1))<|zdla 20 (fun w hS=>(xlr (u:=(rv (t.n-i-1))) pl_22 (hS.rowN 0 rfl) (e:=(by rw [gu_ne (by omega)];have:=hwv (t.n-i-1) (by omega) (by omega);rwa [show t.n-(t.n-i-1)=i+1 by omega] at this)))) ?_
      refine(zDw 21 xmv)<|(zDw 22 xmv)<|(zDw 23 (xfb 0 fd_137_0))<|(zDl 24 (fun w hS=>(xlb 2 pl_3 hS)))<|(zDw 25 (Z4 (r:=(k*(t.S i))) (e:=rfl)))<|(zDw 26 (ZD (r:=c-(k*(t.S i)))))<|(zDw 27 (xix (kk:=c-(k*(t.S i))) Zb (xe (t.n-i-1) (by omega) (by omega))))<|(zDl 28 (fun w hS=>(xlr (u:= .int .i64 ((fun j=>KI t (t.n-j)) (t.n-i-1) (c-(k*(t.S i))))) pl_3 (hS.rowIn (k:=t.n-i-1) 1 rfl (by omega) (by omega)))))<|(zDw 29 (Zf (r:=(k*(t.V i))+((fun j=>KI t (t.n-j)) (t.n-i-1) (c-(k*(t.S i)))))))<|(zDw 30 (ZaI (r:=(max (g3 c) ((k*(t.V i))+((fun j=>KI t (t.n-j)) (t.n-i-1) (c-(k*(t.S i)))))))))<|(zDw 31 (xix (kk:=c) Zb hv3))<|zde 32 (xso 3 pl_3 hS (ZE _ _ _)) ?_;clear hS;rintro w hS
      refine⟨⟨fun h=>absurd h (by decide),hS.pk [0,1,2]⟩,?_⟩
      refine zdd<|zbn<|ztn<|zrg ?_
      refine(zP)<|(zV (Zf (r:=k+1)))<|(zP)<|zln<|zlq ⟨k+1,(upd g3 c (max (g3 c) ((k*(t.V i))+((fun j=>KI t (t.n-j)) (t.n-i-1) (c-(k*(t.S i))))))),rfl,(by omega),(by omega),?_,?_,rfl,hS⟩
      ·
       intro q hq;rw [upd_ne _ _ hq];exact hgl q hq
      ·
       refine .inr ⟨by omega,?_⟩
       rw [ZX,show k+1-1=k by omega,hkd];exact Zdf (by omega) (by omega) hgc
     refine zx21<|(zP)<|(zV (Zf (r:=c+1)))<|(zP)<|zln<|zlq ⟨c+1,g3,rfl,(by omega),(by omega),?_,?_,rfl,hS⟩
     ·
      intro q q0 q1;by_cases e:q=c
      · rw [e];exact Zdg (by omega) c0 (by omega) (by omega) (by omega) hgc
      · rw [hgl q e];exact hg q q0 (by omega)
     ·
      intro q q0 q1;rw [hgl q (by omega)];exact hgz q (by omega) q1
    iterate 6 refine zlo ?_
    refine(zP)<|zlt<|zcf<|zxt<|ztx<|ztx<|zbh<|zbn<|ztn<|zrg ?_
    refine(zP)<|(zV (Zf (r:=c+1)))<|(zP)<|zln<|zlq ⟨c+1,g3,rfl,(by omega),(by omega),?_,?_,rfl,hS⟩
    ·
     intro q q0 q1;by_cases e:q=c
     · rw [e];exact Zdg (by omega) c0 (by omega) (by omega) (by omega) hgc
     · rw [hgl q e];exact hg q q0 (by omega)
    ·
     intro q q0 q1;rw [hgl q (by omega)];exact hgz q (by omega) q1
   refine zx21<|(zP)<|(zV (ZD (r:=i-1)))<|(zP)<|zln ?_
   replace hS:=Sat.merge (l1:= [_]) (l2:= [_]) (l3:= []) hS (by omega)
   have cU:=fun k (k0:0<=k) (k1:k<nC+1)=>hS.slhIn 1 rfl k0 k1
   replace hS:=hS.rerows (vv':=gsn rv nC v3) (ln':=fun _=>cap+1) (f':=fun j=>KI t (t.n-j)) 1 rfl (fun k k0 k1=>by
     by_cases e:k<nC
     · exact⟨rfl,Zs e,fun j _ _=>by rw [Zs e]⟩
     · have hk9:k=nC:=by omega
       refine⟨rfl,Zr e,fun j j0 j1=> ?_⟩
       rw [Zr e,hk9];rw [hnC,show t.n-(t.n-i)=i by omega,Kk t (i:=i) (by omega) (by omega)];exact hg j j0 (by rw [Zr e] at j1;omega))
   have dR:=fun k (k0:0<=k) (k1:k<nC+1)=>hS.slhIn 1 rfl k0 k1
   refine zlq ⟨nC+1,upd wv i (v3),gsn rv nC v3,i-1,rfl,(by omega),(by omega),(by omega),?_,rfl,hS.pk [0,1]⟩
   ·
    intro j j0 j1;by_cases e:j=nC
    · rw [e,hnC,show t.n-(t.n-i)=i by omega,gu_self,Zr (by omega)]
    · rw [gu_ne (by omega),Zs (by omega)];exact hwv j j0 (by omega)
  refine zx8<|(zP)<|(zP)<|zx1<|zf1 ⟨_,rfl,?_⟩
  obtain rfl:i= -1:=by omega
  obtain rfl:nC=t.n+1:=by omega
  replace hS:=Sat.revrows 1 hS rfl
  replace hS:=hS.rerows (vv':=wv) (ln':=fun _=>cap+1) (f':=KI t) 1 rfl (fun k k0 k1=>⟨by rw [<-hwv _ (by omega) (by omega)];congr 1;omega,rfl,fun j _ _=>by show KI t (t.n-(t.n+1-1-k)) j=_;congr 1;omega⟩)
  exact⟨_,_,rfl,hv1,hS.pk [0,1]⟩
theorem ZcK{t:Its}(w0:World)(hI:Row w0 vI 3 t.n (ZM t.S t.V t.M)):
    Calls Tryz.prog 89 [vI,.int .i64 cap].toArray w0 fun e w=>∃v,e= .returned v/\∃r n x val e,v= .tuple #[r,.int .i64 val,.int .i64 e]/\ZgT t cap n x val e/\Slh r n/\Sat w0 w [.own r 1 3 n (ints x)]:=by
  have hn:=hI.slh.n0
  refine Zm Tryz.func89 Tryz.ntmps89 fun w hS=> ?_
  refine zsr<|(zP)<|(zP)<|(zP)<|zx5<|(zP)<|(zP)<|zlc (xc0 Zio) (ZcJ (t:=t) (cap:=cap) w (hI.below hS.below)) ?_;rintro _ w ⟨rfl,hS'⟩
  replace hS:=hS.cmp hS';clear hS'
  refine(zP)<|zlt<|Ze ?_ ?_<;>intro hc
  ·
   refine zsr<|(zP)<|(zP)<|(zP)<|zx14<|zf3 ⟨_,rfl,?_⟩
   exact⟨_,0,fun _=>0,0,1,rfl,.inl ⟨‹¬t.Ok cap›,rfl,rfl,rfl⟩,slh_nil,(hS.addnil 1 3 (ints fun _=>0)).pk [0]⟩
  refine Z7<|zlv xmv ?_
  have hk:t.Ok cap:=by first|assumption|exact Classical.not_not.1 ‹_›
  refine(zP)<|zlc (xc0 Zin) (ZcM (t:=t) (cap:=cap) w (hI.below hS.below) hk) ?_;rintro xG w ⟨_,q7,rfl,xK,hS'⟩
  replace hS:=(hS.comp hS').n2;clear hS'
  have yn:=fun k (k0:0<=k) (k1:k<(t.n+1))=>hS.slhIn 1 rfl k0 k1
  refine(zP)<|zlz<|(zP)<|zlz<|(zP)<|(zP)<|zx5<|(zP)<|zx6 ?_
  replace hS:=hS.addnil 1 3 (ints (fun _=>0))
  have hk1:=hk.n;have hk2:=hk.c0;have hk3:=hk.c1
  refine zlp (fun mm M w=>∃(nx:Int) (c:Int) (i:Int) (wx:Value) (fx:Int->Int),mm=((t.n-i).toNat)/\(0<=i)/\(i<=t.n)/\(nx=i)/\(0<=c)/\(c<=cap)/\(c=cap-KU t fx i.toNat)/\(KX t cap fx i)/\(Slh wx nx)/\M= [(0,vI),(1,.int .i64 cap),(4,.slice none 0 0),(5,.int .i64 0),(6,.int .i64 0),(7,xG),(8,wx),(9,.int .i64 c),(10,.int .i64 i)]/\Sat w0 w [.own xG 1 22 (t.n+1) q7,.sem (Frame.rows 3 (t.n+1) q7 (fun _=>cap+1) (KI t)),.own wx 1 3 nx (ints fx)]) ⟨0,cap,0,(.slice none 0 0),(fun _=>0),rfl,(by omega),(by omega),(by omega),(by omega),(by omega),?_,?_,?_,rfl,hS⟩ ?_
  ·
   show cap=cap-0;omega
  ·
   intro k k0 k1;omega
  ·
   exact slh_nil
  clear hS w
  rintro mm M w ⟨nx,c,i,wx,fx,rfl,i0,i1,hnx,c0,c1,hcu,hkx,hwx,rfl,hS⟩
  refine zx11<|(zP)<|(zP)<|(zV (xln XA hI.slh))<|(zP)<|zlt<|Ze ?_ ?_<;>intro hc
  ·
   refine zx3<|(zP)<|(zP)<|(zV (xix (kk:=3*i) XA hI.slh))<|zlv (xlw (cs:= [.int .i64 (t.S i),.int .i64 (t.V i),.int .i64 (t.M i)]) VR (hI.below hS.below) (Xx (k:=3*i) (i:=i) t.S t.V t.M (by omega))) ?_
   have hev:=hk.all i i0 (by omega);unfold Its.each Ys at hev
   refine zla (xal (cs:= [_,_,_]) Th hS) ?_;rintro _ w ⟨g1,rfl,hS⟩
   refine zle (xsw 3 VR hS) ?_;clear hS;rintro w hS
   refine zlz<|(zP)<|zx5<|(zP)<|zx6<|zlp (fun mm M w=>∃(n:Int) (k:Int),mm=((t.M i+1-k).toNat)/\(0<=k)/\(k<=t.M i+1)/\(SkI t i c k n)/\M= [(0,vI),(1,.int .i64 cap),(4,.slice none 0 0),(5,.int .i64 0),(6,.int .i64 0),(7,xG),(8,wx),(9,.int .i64 c),(10,.int .i64 i),(11,.pointer (some ⟨g1,0,none⟩)),(12,.int .i64 n),(13,.int .i64 k)]/\Sat w0 w [.own xG 1 22 (t.n+1) q7,.sem (Frame.rows 3 (t.n+1) q7 (fun _=>cap+1) (KI t)),.own wx 1 3 nx (ints fx),.blk g1 [.int .i64 (t.S i),.int .i64 (t.V i),.int .i64 (t.M i)]]) ⟨0,0,rfl,(by omega),(by omega),?_,rfl,hS⟩ ?_
   ·
    exact SkI.start t i c
   clear hS w
   rintro mm M w ⟨n,k,rfl,k0,k1,hsk,rfl,hS⟩
   refine zx11<|(zP)<|(zV (xfb 2 fd_137_2))<|(zV (xlb 3 pl_3 hS))<|(zP)<|(zP)<|zlb 36 ?_ ?_<;>intro hc
   ·
    refine zlv xmv ?_
    have hkS:=XN (a:=k) (b:=t.S i) (A:=1001) (B:=4000) (by omega) (by omega) (by omega) (by omega)
    refine(zV (xfb 0 fd_137_0))<|(zV (xlb 3 pl_3 hS))<|(zV (Z4 (r:=(k*(t.S i))) (e:=rfl)))<|(zP)<|(zP)<|(zP)<|zlt<|Ze ?_ ?_<;>intro hc
    ·
     refine zx27<|zdst [0,1,2,3] [0,1,2,3] 1000 mx_ hS ?_;clear hS;intro w hS
     refine zDrv 0 xmv ?_
     have hkV:=XN (a:=k) (b:=t.V i) (A:=1001) (B:=1073741824) (by omega) (by omega) (by omega) (by omega)
     have hkb:=Xa hk (i:=i+1) (by omega) (by omega) (c:=c-k*t.S i) (by omega)
     refine(zDw 1 (xfb 1 fd_137_1))<|(zDl 2 (fun w hS=>(xlb 3 pl_3 hS)))<|(zDw 3 (Z4 (r:=(k*(t.V i))) (e:=rfl)))<|(zDw 4 xmv)<|(zDw 5 xmv)<|(zDw 6 (Zf (r:=i+1)))<|(zDw 7 (xix (kk:=i+1) Zi xK))<|(zDl 8 (fun w hS=>(xlr (u:=(q7 (i+1))) pl_22 (hS.rowN 0 rfl))))<|(zDw 9 xmv)<|(zDw 10 xmv)<|(zDw 11 (xfb 0 fd_137_0))<|(zDl 12 (fun w hS=>(xlb 3 pl_3 hS)))<|(zDw 13 (Z4 (r:=(k*(t.S i))) (e:=rfl)))<|(zDw 14 (ZD (r:=c-(k*(t.S i)))))<|zDrv 15 (xix (kk:=c-(k*(t.S i))) Zb (yn (i+1) (by omega) (by omega))) ?_
     refine(zDl 16 (fun w hS=>(xlr (u:= .int .i64 ((KI t) (i+1) (c-(k*(t.S i))))) pl_3 (hS.rowIn (k:=i+1) 1 rfl (by omega) (by omega)))))<|(zDw 17 (Zf (r:=(k*(t.V i))+((KI t) (i+1) (c-(k*(t.S i)))))))<|(zDw 18 xmv)<|(zDw 19 xmv)<|(zDw 20 (xix (kk:=i) Zi xK))<|(zDl 21 (fun w hS=>(xlr (u:=(q7 i)) pl_22 (hS.rowN 0 rfl))))<|(zDw 22 xmv)<|(zDw 23 (xix (kk:=c) Zb (yn i (by omega) (by omega))))<|(zDl 24 (fun w hS=>(xlr (u:= .int .i64 ((KI t) i c)) pl_3 (hS.rowIn (k:=i) 1 rfl (by omega) (by omega)))))<|(zDw 25 YO)<|zdd<|ztn ?_
     refine Ze ?_ ?_<;>intro hc
     ·
      refine zrg<|(zP)<|(zP)<|zx10<|(zP)<|(zV (Zf (r:=k+1)))<|(zP)<|zln<|zlq ⟨k,k+1,rfl,(by omega),(by omega),?_,rfl,hS⟩
      ·
       first|exact SkI.yes k0 (by omega) (by omega) (by omega)|exact hsk.no (by omega)
     refine zx4<|(zP)<|(zV (Zf (r:=k+1)))<|(zP)<|zln<|zlq ⟨n,k+1,rfl,(by omega),(by omega),?_,rfl,hS⟩
     ·
      first|exact SkI.yes k0 (by omega) (by omega) (by omega)|exact hsk.no (by omega)
    refine zx8<|zlv xmv ?_
    have hfn:=hsk.fin hk i0 (by omega) (by omega) (by omega)
    have hns:=XN (a:=n) (b:=t.S i) (A:=1000) (B:=4000) (by omega) (by omega) (by omega) (by omega)
    refine(zP)<|zla (xli (n:=1) (len:=1) (pv:= [(0,.int .i64 n)]) (cs:= [.int .i64 n]) (c:=ints (fun _=>n)) Zb Zn hS) ?_;rintro v1 w ⟨hS,hv1⟩
    refine zla (xap 2 (r:=nx+1) Zb Zn hS (hS.rowN 4 rfl) (Z1 _ _ _)) ?_;rintro v2 w ⟨hS,hv2⟩
    refine(zP)<|zlt<|zrg<|(zP)<|(zP)<|(zV (xfb 0 fd_137_0))<|(zV (xlb 3 pl_3 hS))<|(zV (Z4 (r:=(n*(t.S i))) (e:=rfl)))<|(zV (ZD (r:=c-(n*(t.S i)))))<|(zP)<|zx10<|(zP)<|(zV (Zf (r:=i+1)))<|(zP)<|zln<|zlq ⟨nx+1,c-(n*(t.S i)),i+1,v2,(snoc fx nx n),rfl,(by omega),(by omega),(by omega),(by omega),(by omega),?_,?_,?_,rfl,hS.pk [0,1,2]⟩
    ·
     rw [hnx,Kj t fx n i0];omega
    ·
     rw [hnx];rw [hcu] at hfn;exact KX.snoc hkx i0 hfn.1 hfn.2.1 hfn.2.2.1 hfn.2.2.2.1 hfn.2.2.2.2
    ·
     exact hv2
   iterate 6 refine zlo ?_
   refine(zP)<|zlt<|zcf<|zxt<|ztx<|ztx<|zbh<|ztn<|zsr ?_
   refine zlv xmv ?_
   have hfn:=hsk.fin hk i0 (by omega) (by omega) (by omega)
   have hns:=XN (a:=n) (b:=t.S i) (A:=1000) (B:=4000) (by omega) (by omega) (by omega) (by omega)
   refine(zP)<|zla (xli (n:=1) (len:=1) (pv:= [(0,.int .i64 n)]) (cs:= [.int .i64 n]) (c:=ints (fun _=>n)) Zb Zn hS) ?_;rintro v3 w ⟨hS,hv3⟩
   refine zla (xap 2 (r:=nx+1) Zb Zn hS (hS.rowN 4 rfl) (Z1 _ _ _)) ?_;rintro v4 w ⟨hS,hv4⟩
   refine(zP)<|zlt<|zrg<|(zP)<|(zP)<|(zV (xfb 0 fd_137_0))<|(zV (xlb 3 pl_3 hS))<|(zV (Z4 (r:=(n*(t.S i))) (e:=rfl)))<|(zV (ZD (r:=c-(n*(t.S i)))))<|(zP)<|zx10<|(zP)<|(zV (Zf (r:=i+1)))<|(zP)<|zln<|zlq ⟨nx+1,c-(n*(t.S i)),i+1,v4,(snoc fx nx n),rfl,(by omega),(by omega),(by omega),(by omega),(by omega),?_,?_,?_,rfl,hS.pk [0,1,2]⟩
   ·
    rw [hnx,Kj t fx n i0];omega
   ·
    rw [hnx];rw [hcu] at hfn;exact KX.snoc hkx i0 hfn.1 hfn.2.1 hfn.2.2.1 hfn.2.2.2.1 hfn.2.2.2.2
   ·
    exact hv4
  refine zxt<|ztx<|ztx<|zbh<|ztn<|zsq<|zdst [0,1,2] [0,1,2] 1000 mx_ hS ?_;clear hS;intro w hS
  refine(zDw 0 xmv)<|(zDw 1 xmv)<|(zDw 2 (xix (kk:=0) Zi xK))<|(zDl 3 (fun w hS=>(xlr (u:=(q7 0)) pl_22 (hS.rowN 0 rfl))))<|(zDw 4 xmv)<|(zDw 5 (xix (kk:=cap) Zb (yn 0 (by omega) (by omega))))<|(zDl 6 (fun w hS=>(xlr (u:= .int .i64 ((KI t) 0 cap)) pl_3 (hS.rowIn (k:=0) 1 rfl (by omega) (by omega)))))<|(zDw 7 xas)<|(zDw 8 xas)<|(zDw 9 xas)<|zdd<|ztn<|zrt<|zf3 ⟨_,rfl,?_⟩
  obtain rfl:i=t.n:=by omega
  subst hnx
  exact⟨_,_,_,_,0,rfl,.inr ⟨hk,rfl,hkx,rfl,rfl⟩,hwx,hS.pk [2]⟩
theorem ZeB{vL vD:Value}{p:Prob}{vY:Value}(w0:World)(h:PAt w0 vL vD p)(hY:Row w0 vY 1 n (ints y)):
    Calls Tryz.prog 51 [.agg #[vL,vD,.int .i64 p.stock,.int .i64 p.kerf],vY].toArray w0 fun e w=>∃v,e= .returned v/\∃r na a worth e,v= .tuple #[r,.int .i64 worth,.int .i64 e]/\PriceR p n y na a worth e/\Slh r na/\Sat w0 w [.own r 1 3 na (ints a)]:=by
  have hm:=h.L.slh.n0;have hm1:=h.L.slh.n1;have hd:=h.D.slh.n0;have hd1:=h.D.slh.n1;have hs:=h.is;have hk:=h.ik
  have hn0:=hY.slh.n0;have hn1:=hY.slh.n1
  refine Zm Tryz.func51 Tryz.ntmps51 fun w hS=> ?_
  refine zsr<|zla (xbx (cs:= [_,_,_,_]) hS) ?_;rintro _ w ⟨g1,rfl,hS⟩
  refine(zP)<|(zP)<|(zP)<|zx5<|(zV (xls 0 ZC hS))<|(zP)<|zlc (xc0 ZjJ) (ZcG (p:=p) (n:=n) (y:=y) w (h.below hS.below) (hY.below hS.below)) ?_;rintro _ w ⟨rfl,hS'⟩
  replace hS:=hS.cmp hS';clear hS'
  refine(zP)<|zlt<|Ze ?_ ?_<;>intro hc
  ·
   refine zsr<|(zP)<|(zP)<|(zP)<|zx14<|zf3 ⟨_,rfl,?_⟩
   exact⟨_,0,fun _=>0,0,1,rfl,.inl ⟨‹¬VN p n y›,rfl,rfl,rfl⟩,slh_nil,(hS.addnil 1 3 (ints fun _=>0)).pk [1]⟩
  refine Z7<|(zP)<|zx5<|(zP)<|zx6 ?_
  have hpr:VN p n y:=by first|assumption|exact Classical.not_not.1 ‹_›
  obtain⟨hok,hnm,hyp⟩:=id hpr
  have hs1:=hok.s1;have hs2:=hok.s2;have hk1:=hok.k1;have hk2:=hok.k2;have hm2:=hok.m2;have hmd:=hok.d
  replace hS:=hS.addnil 3 137 (ZM (fun _=>0) (fun _=>0) (fun _=>0))
  refine zlp (fun mm M w=>∃(nC:Int) (fS:Int->Int) (fV:Int->Int) (fM:Int->Int) (i:Int) (wC:Value),mm=((n-i).toNat)/\(0<=i)/\(i<=n)/\(nC=i)/\(∀k,0<=k->k<i->fS k=(YP p y).S k/\fV k=(YP p y).V k/\fM k=(YP p y).M k)/\(Slh wC nC)/\M= [(1,vY),(2,.pointer (some ⟨g1,0,none⟩)),(4,.slice none 0 0),(5,.int .i64 0),(6,.int .i64 0),(7,wC),(8,.int .i64 i)]/\Sat w0 w [.blk g1 [vL,vD,.int .i64 p.stock,.int .i64 p.kerf],.own wC 3 137 nC (ZM fS fV fM)]) ⟨0,(fun _=>0),(fun _=>0),(fun _=>0),0,(.slice none 0 0),rfl,(by omega),(by omega),(by omega),?_,?_,rfl,hS⟩ ?_
  ·
   intro k k0 k1;omega
  ·
   exact slh_nil
  clear hS w
  rintro mm M w ⟨nC,fS,fV,fM,i,wC,rfl,h0,h1,hnC,hcc,hwC,rfl,hS⟩
  refine zx11<|(zP)<|(zP)<|(zV (xln Zb hY.slh))<|(zP)<|zlt<|Ze ?_ ?_<;>intro hc
  ·
   refine zx38<|zdst [0] [0] 1000 mx_ hS ?_;clear hS;intro w hS
   refine zDrv 0 xmv ?_
   have he:=hok.all i h0 (by omega);unfold Prob.each at he
   refine(zDw 1 (xfb 0 fd_24_0))<|(zDl 2 (fun w hS=>(xlb 0 pl_22 hS)))<|(zDw 3 xmv)<|(zDw 4 (xix (kk:=i) Zb h.L.slh))<|zdla 5 (fun w hS=>(xlr (u:= .int .i64 (p.L i)) pl_3 (h.L.below hS.below))) ?_
   have hbv:=h.iL i
   refine(zDw 6 (xfb 3 fd_24_3))<|(zDl 7 (fun w hS=>(xlb 0 pl_3 hS)))<|(zDw 8 (Zf (r:=p.L i+p.kerf)))<|(zDw 9 xmv)<|(zDw 10 xmv)<|(zDw 11 (xix (kk:=i) Zb hY.slh))<|(zDl 12 (fun w hS=>(xlr (u:= .int .i64 (y i)) pl_3 (hY.below hS.below))))<|(zDw 13 (xfb 1 fd_24_1))<|(zDl 14 (fun w hS=>(xlb 0 pl_22 hS)))<|(zDw 15 xmv)<|(zDw 16 (xix (kk:=i) Zb h.D.slh))<|zdla 17 (fun w hS=>(xlr (u:= .int .i64 (p.D i)) pl_3 (h.D.below hS.below))) ?_
   have hbv:=h.iD i
   refine(zDw 18 (xany (v:= .agg #[.int .i64 (p.L i+p.kerf),.int .i64 (y i),.int .i64 (p.D i)])))<|zda 19 (xli (n:=1) (len:=1) (pv:= [(0,.agg #[.int .i64 (p.L i+p.kerf),.int .i64 (y i),.int .i64 (p.D i)])]) (cs:= [.int .i64 (p.L i+p.kerf),.int .i64 (y i),.int .i64 (p.D i)]) (c:=ZM (fun _=>p.L i+p.kerf) (fun _=>(y i)) (fun _=>p.D i)) XA Th hS) ?_;rintro v1 w ⟨hS,hv1⟩
   refine⟨⟨fun _=>hS.pk [0],hS.pk [0]⟩,?_⟩
   refine zda 20 (xap 1 (r:=nC+1) XA Th hS (hS.rowN 2 rfl) (To ..) (h1:=(fun k _ _=>Tk _ _ _ k))) ?_;rintro v2 w ⟨hS,hv2⟩
   refine⟨⟨fun _=>hS.pk [0],hS.pk [0]⟩,?_⟩
   refine(zDw 21 xas)<|zdd<|zbn<|ztn<|zrg ?_
   refine(zP)<|(zV (Zf (r:=i+1)))<|(zP)<|zln<|zlq ⟨nC+1,(snoc fS nC (p.L i+p.kerf)),(snoc fV nC (y i)),(snoc fM nC (p.D i)),i+1,v2,rfl,(by omega),(by omega),(by omega),?_,?_,rfl,hS.pk [0,1]⟩
   ·
    intro k k0 k1;by_cases e:k<i
    · rw [Zl (by omega),Zl (by omega),Zl (by omega)];exact hcc k k0 e
    · obtain rfl:k=i:=by omega
      rw [Zk (by omega),Zk (by omega),Zk (by omega)];exact⟨rfl,rfl,rfl⟩
   ·
    exact hv2
  refine zx8<|zlv xmv ?_
  obtain rfl:i=p.m:=by omega
  subst hnC
  replace hS:=hS.recont 1 rfl (d:=ZM (YP p y).S (YP p y).V (YP p y).M) (VH hcc)
  refine(zV (xfb 2 fd_24_2))<|(zV (xlb 0 pl_3 hS))<|(zV (xfb 3 fd_24_3))<|(zV (xlb 0 pl_3 hS))<|(zV (Zf (r:=p.stock+p.kerf)))<|zlc (xc0 ZjI) (ZcK (t:=(YP p y)) (cap:=(p.stock+p.kerf)) w (hS.rowN 1 rfl)) ?_;rintro _ w ⟨dE,aX,dz,dA,eN,rfl,ao,ag,hS'⟩
  replace hS:=(hS.comp hS').n3;clear hS'
  refine zs6 ?_
  refine zx1<|zf3 ⟨_,rfl,?_⟩
  have hio:=Zdo hok hyp
  obtain⟨_,q2,q3,q4,q5⟩:=ao.resolve_left (fun hh=>hh.1 hio)
  replace q2:aX=p.m:=q2
  subst q2
  replace hS:=hS.recont 2 rfl (d:=ints (aC p y)) (fun k k0 k1=>by unfold ints;rw [Ze5 (by omega) q3 k k0 (by omega)])
  exact⟨_,_,_,_,_,rfl,.inr ⟨hpr,rfl,rfl,⟨_,q3⟩,q4,q5⟩,ag,hS.pk [2]⟩
theorem PriceR.same{p:Prob}{b:Int->Int}{na nb w1 w2 e1 e2:Int}(h:PriceR p n y na a w1 e1)(h':PriceR p n y nb b w2 e2):na=nb/\(∀k,0<=k->k<na->a k=b k)/\w1=w2/\e1=e2:=by
  rcases h with⟨h1,h2,h3,h4⟩|⟨h1,h2,h3,_,h4,h5⟩<;>rcases h' with⟨g1,g2,g3,g4⟩|⟨g1,g2,g3,_,g4,g5⟩
  · exact⟨by omega,fun k k0 k1=>by omega,by omega,by omega⟩
  · exact absurd g1 h1
  · exact absurd h1 g1
  · exact⟨by omega,fun k k0 k1=>by rw [h3,g3],by omega,by omega⟩
end Go.Proofs.YtopmifmfecfaaaaGreat
namespace Go.Proofs.YtopmifmfecfaaaaGreat
open Go Go.RowKit Go.Proofs.Gw
variable {e e2 u u2:Int} {ml ml2:Int->Int} {mf mf2:Int->Int->Int} {s:So}
theorem Zj8:Zc Tryz.prog 10=true:=by kernel_rfl
theorem Zj6:Zc Tryz.prog 12=true:=by kernel_rfl
theorem Zj0:Zc Tryz.prog 49=true:=by kernel_rfl
theorem ZjZ:Zc Tryz.prog 50=true:=by kernel_rfl
theorem ZjY:Zc Tryz.prog 51=true:=by kernel_rfl
theorem ZgG:Z0 Tryz.prog 38=some (.agg #[.slice none 0 0,.slice none 0 0,.slice none 0 0,.int .i64 0,.int .i64 0],5,88):=by kernel_rfl
theorem UA:Zz Tryz.prog 31 0=some 0:=by kernel_rfl
theorem fd_38_0:Zz Tryz.prog 38 0=some 0:=by kernel_rfl
theorem RO:Zz Tryz.prog 38 1=some 1:=by kernel_rfl
theorem XZ:ZF Tryz.prog 38=some 5:=by kernel_rfl
theorem MSolveR.same{p:Prob}{u:Int}{ml:Int->Int}{mf:Int->Int->Int}{s s2:So}{e e2:Int}(h:MSolveR p u ml mf s e)(h':MSolveR p u ml mf s2 e2):s=s2/\e=e2:=by
  rcases h with⟨h1,h2,h3⟩|⟨h1,h2,h3,h4⟩|⟨h1,h2,h3,h4,⟨k,k0,k1,h5⟩,h6,h7⟩|⟨h1,h2,h3,h4,h5,h6,h7⟩|⟨h1,h2,h3,h4,h5⟩<;>rcases h' with⟨g1,g2,g3⟩|⟨g1,g2,g3,g4⟩|⟨g1,g2,g3,g4,⟨k',k0',k1',g5⟩,g6,g7⟩|⟨g1,g2,g3,g4,g5,g6,g7⟩|⟨g1,g2,g3,g4,g5⟩<;>
    first
    |exact absurd ‹WF p u ml mf› ‹¬WF p u ml mf›
    |(exfalso;omega)
    |exact SolveR.same h5 g5
    |(exfalso;have:=g5 k k0 k1;omega)
    |(exfalso;have:=h5 k' k0' k1';omega)
    |(subst_vars;exact⟨rfl,rfl⟩)
theorem RZ{p:Prob}(hok:p.Ok)(h:CRn p u ml mf e):stN p p.m.toNat<=u:=by
  induction h with
  | start h=>
    rcases h with⟨h,_⟩|⟨_,h,_⟩
    · exact absurd hok h
    · omega
  |go _ _ _ _ ih=>omega
theorem Wo {p:Prob} (hok:p.Ok) (h:CRn p u ml mf e):∀{u2 e2:Int} {ml2:Int->Int} {mf2:Int->Int->Int},CRn p u2 ml2 mf2 e2->u=u2->ml=ml2/\mf=mf2/\e=e2:=by
  induction h with
  | start h=>
    intro u2 e2 ml2 mf2 k hu
    cases k with
    | start k=>
      rcases h with⟨h,_⟩|⟨_,h1,h2,h3,h4⟩
      · exact absurd hok h
      · rcases k with⟨k,_⟩|⟨_,k1,k2,k3,k4⟩
        · exact absurd hok k
        · exact⟨by rw [h2,k2],by rw [h3,k3],by omega⟩
    | go k _ _ _=>
      have h0:=RZ hok k
      rcases h with⟨h,_⟩|⟨_,h,_⟩
      · exact absurd hok h
      · omega
  | @go u na worth f ml mf a s h hs hp hn ih=>
    intro u2 e2 ml2 mf2 k hu
    cases k with
    | start k=>
      have h0:=RZ hok h
      rcases k with⟨k,_⟩|⟨_,k,_⟩
      · exact absurd hok k
      · omega
    | @go u' na' worth' f' ml' mf' a' s' k ks kp kn=>
      have hu':u=u':=by omega
      obtain⟨rfl,rfl,_⟩:=ih k hu'
      subst hu'
      obtain⟨rfl,_⟩:=MSolveR.same hs ks
      have hf:=(WU hok (.go h hs hp hn)).1
      have kf:=(WU hok (.go k ks kp kn)).1
      rcases hp with⟨_,_,_,h1⟩|⟨_,h1,h2,_⟩
      · omega
      · rcases kp with⟨_,_,_,k1⟩|⟨_,k1,k2,_⟩
        · omega
        · subst h1 h2 k1 k2
          exact⟨rfl,rfl,by omega⟩
theorem Zao{p:Prob}(hok:p.Ok)(h:CRn p u2 ml2 mf2 e2):∀{u:Int},stN p p.m.toNat<=u->u<u2->∃ml mf s na a worth f,CRn p u ml mf 0/\MSolveR p u ml mf s 0/\PriceR p s.m s.Y na a worth f/\¬(f=0/\worth<=s.den):=by
  induction h with
  | start h=>
    intro u h1 h2
    rcases h with⟨h,_⟩|⟨_,h,_⟩
    · exact absurd hok h
    · omega
  | @go u' na worth f ml mf a s h hs hp hn ih=>
    intro u h1 h2
    by_cases hu:u=u'
    · subst hu;exact⟨ml,mf,s,na,a,worth,f,h,hs,hp,hn⟩
    · exact ih h1 (by omega)
theorem UC{p:Prob}(hok:p.Ok)(h:CRn p u ml mf 0)(hs:MSolveR p u ml mf s e)(he:e≠0)(k:CRn p u2 ml2 mf2 e2):u2<=u:=by
  by_cases hu:u<u2
  · obtain⟨ml',mf',s',_,_,_,_,h1,h2,_⟩:=Zao hok k (RZ hok h) hu
    obtain⟨rfl,rfl,_⟩:=Wo hok h h1 rfl
    exact absurd (MSolveR.same hs h2).2 he
  · omega
theorem X6{p:Prob}(hok:p.Ok)(h:CRn p u ml mf 0)(hs:MSolveR p u ml mf s 0)(hl:Zch p s)(k:CRn p u2 ml2 mf2 e2):u2<=u:=by
  by_cases hu:u<u2
  · obtain⟨ml',mf',s',_,_,_,_,h1,h2,h3,h4⟩:=Zao hok k (RZ hok h) hu
    obtain⟨rfl,rfl,_⟩:=Wo hok h h1 rfl
    obtain⟨rfl,_⟩:=MSolveR.same hs h2
    obtain⟨na,a,worth,q1,q2⟩:=hl
    obtain⟨_,_,q3,q4⟩:=PriceR.same q1 h3
    exact absurd ⟨q4.symm,by omega⟩ h4
  · omega
theorem ColR.same{p:Prob}{u u2 e e2:Int}{ml ml2:Int->Int}{mf mf2:Int->Int->Int}{s s2:So}(h:ColR p u ml mf s e)(k:ColR p u2 ml2 mf2 s2 e2):ZgS u u2 ml ml2 mf mf2/\s=s2/\e=e2:=by
  have triv:u=0->u2=0->ZgS u u2 ml ml2 mf mf2:=fun h1 h2=>⟨by omega,fun k k0 k1=>by omega⟩
  have errs:∀{e:Int},p.Ok->e≠0->(∃u1 ml1 mf1 e1,CRn p u1 ml1 mf1 e1/\((e1≠0/\e=e1)\/(e1=0/\∃s1,MSolveR p u1 ml1 mf1 s1 e)))->∃u1 ml1 mf1 s1,CRn p u1 ml1 mf1 0/\MSolveR p u1 ml1 mf1 s1 e:=by
    rintro e hok he ⟨u1,ml1,mf1,e1,h1,h2⟩
    have h0:=(WU hok h1).1
    rcases h2 with⟨h2,_⟩|⟨h2,s1,h3⟩
    · exact absurd h0 h2
    · subst h2;exact⟨u1,ml1,mf1,s1,h1,h3⟩
  rcases h with⟨h1,h2,h3,h4⟩|⟨hok,h1,h2,h3,h4⟩|⟨hok,h1,h2,h3,h4⟩<;>rcases k with⟨k1,k2,k3,k4⟩|⟨kok,k1,k2,k3,k4⟩|⟨kok,k1,k2,k3,k4⟩
  · exact⟨triv h2 k2,by rw [h3,k3],by omega⟩
  · exact absurd kok h1
  · exact absurd kok h1
  · exact absurd hok k1
  · obtain⟨a1,b1,c1,d1,q1,q2⟩:=errs hok h1 h4
    obtain⟨a2,b2,c2,d2,r1,r2⟩:=errs hok k1 k4
    have g1:=UC hok q1 q2 h1 r1
    have g2:=UC hok r1 r2 k1 q1
    obtain rfl:a1=a2:=by omega
    obtain⟨rfl,rfl,_⟩:=Wo hok q1 r1 rfl
    exact⟨triv h2 k2,by rw [h3,k3],(MSolveR.same q2 r2).2⟩
  · obtain⟨a1,b1,c1,d1,q1,q2⟩:=errs hok h1 h4
    have g1:=UC hok q1 q2 h1 k2
    have g2:=X6 hok k2 k3 k4 q1
    obtain rfl:a1=u2:=by omega
    obtain⟨rfl,rfl,_⟩:=Wo hok q1 k2 rfl
    exact absurd (MSolveR.same q2 k3).2 h1
  · exact absurd hok k1
  · obtain⟨a1,b1,c1,d1,q1,q2⟩:=errs hok k1 k4
    have g1:=UC hok q1 q2 k1 h2
    have g2:=X6 hok h2 h3 h4 q1
    obtain rfl:a1=u:=by omega
    obtain⟨rfl,rfl,_⟩:=Wo hok q1 h2 rfl
    exact absurd (MSolveR.same q2 h3).2 k1
  · have g1:=X6 hok h2 h3 h4 k2
    have g2:=X6 hok k2 k3 k4 h2
    obtain rfl:u=u2:=by omega
    obtain⟨rfl,rfl,_⟩:=Wo hok h2 k2 rfl
    exact⟨⟨rfl,fun _ _ _=>⟨rfl,fun _ _ _=>rfl⟩⟩,(MSolveR.same h3 k3).1,by omega⟩
theorem ZbY{p:Prob}(hok:¬p.Ok)(h:CRn p u ml mf e):e=1/\u=0:=by
  cases h with
  | start h=>
    rcases h with⟨_,h1,h2⟩|⟨h,_⟩
    · exact⟨h2,h1⟩
    · exact absurd h hok
  |go _ hs _ _=>exact absurd hs.few.1 hok
theorem ColR.of_start{p:Prob}{ml0:Int->Int}{mf0:Int->Int->Int}(h:CRn p u ml mf e)(he:e≠0):ColR p 0 ml0 mf0 So.zero e:=by
  by_cases hok:p.Ok
  · exact absurd (WU hok h).1 he
  · exact .inl ⟨hok,rfl,rfl,(ZbY hok h).1⟩
theorem ColR.of_solve{p:Prob}{ml0:Int->Int}{mf0:Int->Int->Int}(h:CRn p u ml mf 0)(hs:MSolveR p u ml mf s e)(he:e≠0):ColR p 0 ml0 mf0 So.zero e:=by
  by_cases hok:p.Ok
  · exact .inr (.inl ⟨hok,he,rfl,rfl,u,ml,mf,0,h,.inr ⟨rfl,s,hs⟩⟩)
  · have:=(ZbY hok h).1;omega
theorem ColR.of_price{p:Prob}{na worth f:Int}{a:Int->Int}(h:CRn p u ml mf 0)(hs:MSolveR p u ml mf s 0)(hp:PriceR p s.m s.Y na a worth f)(hc:f≠0\/worth<=s.den):ColR p u ml mf s f:=by
  have hok:=hs.few.1
  by_cases hf:f=0
  · subst hf
    exact .inr (.inr ⟨hok,rfl,h,hs,na,a,worth,hp,by omega⟩)
  · exact absurd (WU hok (.go h hs hp fun hh=>hf hh.1)).1 hf
theorem ZcL{vL vD:Value}{p:Prob}(w0:World)(h:PAt w0 vL vD p):
    Calls Tryz.prog 12 [.agg #[vL,vD,.int .i64 p.stock,.int .i64 p.kerf]].toArray w0 fun e w=>∃v,e= .returned v/\∃vP vv vX vY u ml mf s e,v= .tuple #[.agg #[vP,vX,vY,.int .i64 s.val,.int .i64 s.den],.int .i64 e]/\ColR p u ml mf s e/\Slh vP u/\Slh vX s.n/\Slh vY s.m/\Sat w0 w [.own vP 1 22 u vv,.sem (Frame.rows 3 u vv ml mf),.own vX 1 3 s.n (ints s.X),.own vY 1 3 s.m (ints s.Y)]:=by
  have hm:=h.L.slh.n0;have hm1:=h.L.slh.n1;have hd:=h.D.slh.n0;have hd1:=h.D.slh.n1;have hs:=h.is;have hk:=h.ik
  refine Zm Tryz.func12 Tryz.ntmps12 fun w hS=> ?_
  refine zsr<|zla (xbx (cs:= [_,_,_,_]) hS) ?_;rintro _ w ⟨g1,rfl,hS⟩
  refine zla (xal (cs:= [_,_,_,_,_]) ZgG hS) ?_;rintro _ w ⟨g2,rfl,hS⟩
  refine(zP)<|zlz<|(zV (xls 0 ZC hS))<|zlc (xc0 Zj0) (ZcH (p:=p) w (h.below hS.below)) ?_;rintro _ w ⟨ay,y4,zM,az,aA,dv,rfl,zd,aj,hS'⟩
  replace hS:=(hS.comp hS').n4;clear hS'
  have cN:=fun k (k0:0<=k) (k1:k<y4)=>hS.slhIn 3 rfl k0 k1
  refine zs5 ?_
  refine zlt<|zsq<|zbk<|zlp (fun mm M w=>∃(u:Int) (wP:Value) (vv:Int->Value) (ml:Int->Int) (mf:Int->Int->Int) (e:Int),mm=((62-u).toNat)/\(CRn p u ml mf e)/\(Slh wP u)/\(u<=61)/\M= [(1,.pointer (some ⟨g1,0,none⟩)),(2,.pointer (some ⟨g2,0,none⟩)),(4,wP),(5,.int .i64 e)]/\Sat w0 w [.blk g1 [vL,vD,.int .i64 p.stock,.int .i64 p.kerf],.blk g2 [.slice none 0 0,.slice none 0 0,.slice none 0 0,.int .i64 0,.int .i64 0],.own wP 1 22 u vv,.sem (Frame.rows 3 u vv ml mf)]) ⟨y4,ay,zM,az,aA,dv,rfl,?_,?_,?_,rfl,hS⟩ ?_
  ·
   exact .start zd
  ·
   exact aj
  ·
   rcases zd with⟨_,h9,_⟩|⟨h9,h8,_⟩
   · omega
   · have:=Wd p p.m.toNat;have:=h9.m2;have:=h9.m1;omega
  clear hS w
  rintro mm M w ⟨u,wP,vv,ml,mf,e,rfl,hRn,hsP,e7,rfl,hS⟩
  have hrs:=fun k (k0:0<=k) (k1:k<u)=>hS.slhIn 3 rfl k0 k1
  have hu0:=hsP.n0
  refine zx11<|(zP)<|(zP)<|zlt<|Ze ?_ ?_<;>intro hc
  ·
   refine zsk<|ztn<|zbk<|zsr<|zla (xal (cs:= [_,_,_,_]) WA hS) ?_;rintro _ w ⟨g3,rfl,hS⟩
   refine zlz<|(zV (xls 0 ZC hS))<|(zP)<|zlc (xc0 ZjZ) (ZcI (p:=p) (u:=u) (ml:=ml) (mf:=mf) w (h.below hS.below) (⟨(hS.rowN 2 rfl),fun k k0 k1=>hS.rowIn 3 rfl k0 k1,fun k k0 k1=>hS.roomIn 3 rfl k0 k1⟩:MAt _ wP u vv ml mf)) ?_;rintro _ w ⟨yv,yu,qM,zp,rfl,yG,xo,xn,hS'⟩
   replace hS:=(hS.comp hS').n7;clear hS'
   refine(zP)<|(zP)<|(zP)<|zle (xsw 4 st_36 hS (hd:=(Za xo.one (Za xn.one (Za rfl (Za rfl Zg)))))) ?_;clear hS;rintro w hS
   refine(zP)<|zx5<|(zP)<|(zP)<|zlt<|Ze ?_ ?_<;>intro hc
   ·
    refine zxt<|ztx<|zbm<|ztx<|zbh<|ztn<|zsr ?_
    refine(zV (xany (v:= .agg #[.slice none 0 0,.slice none 0 0,.slice none 0 0,.int .i64 0,.int .i64 0])))<|(zP)<|zle (xsw 1 XZ hS) ?_;clear hS;rintro w hS
    refine(zP)<|zx1<|ZW 1 XZ hS ⟨_,rfl,?_⟩
    exact⟨_,fun _=>undef,_,_,0,fun _=>0,fun _ _=>0,So.zero,_,rfl,(by first|exact ColR.of_solve (by rw [show(0:Int)=e by omega];exact hRn) yG (by omega)|exact ColR.of_start hRn (by omega)),slh_nil,slh_nil,slh_nil,((((hS.sub (.cons _ (.cons _ (.cons _ (.cons _ (.cons _ (.cons _ (.cons _ .slnil)))))))).addnil 1 22 (fun _=>undef)).addrows 3 (fun _=>undef) (fun _=>0) (fun _ _=>0)).addnil 1 3 (ints So.zero.X)).addnil 1 3 (ints So.zero.Y)⟩
   refine Z7<|(zV (xls 0 ZC hS))<|(zV (xfb 1 fd_36_1))<|zlv (xlb 4 pl_22 hS) ?_
   have hfe:=yG;rw [show zp=0 by omega] at hfe
   obtain⟨hok,bL,hsm⟩:=hfe.few
   refine zlc (xc0 ZjY) (ZeB (p:=p) (n:=qM.m) (y:=qM.Y) w (h.below hS.below) (hS.rowN 6 rfl)) ?_;rintro _ w ⟨xj,zQ,zJ,aw,zk,rfl,x8,yi,hS'⟩
   replace hS:=(hS.comp hS').n8;clear hS'
   refine zs6 ?_
   refine(zP)<|zx5<|(zP)<|(zP)<|(zP)<|zlb 35 ?_ ?_<;>intro hc
   ·
    iterate 4 refine zlo ?_
    refine(zP)<|zlt<|zct<|zsr ?_
    refine(zP)<|(zV (xls 4 st_36 hS))<|zlv (xany (v:= .agg #[wP,yv,yu,.int .i64 qM.val,.int .i64 qM.den]) (hr:=by obtain⟨_,_,_,_,rfl,_⟩:=hsP;obtain⟨_,_,_,_,rfl,_⟩:=xo;obtain⟨_,_,_,_,rfl,_⟩:=xn;kernel_rfl)) ?_
    refine(zP)<|zle (xsw 1 XZ hS (hd:=(Za hsP.one (Za xo.one (Za xn.one (Za rfl (Za rfl Zg))))))) ?_;clear hS;rintro w hS
    refine(zP)<|zlt<|zrt<|ztr<|zbr<|ztr<|zbr<|ztr<|ZW 1 XZ hS ⟨_,rfl,?_⟩
    exact⟨_,_,_,_,_,_,_,_,_,rfl,ColR.of_price (by rw [show(0:Int)=e by omega];exact hRn) hfe x8 (by omega),hsP,xo,xn,hS.pk [2,3,5,6]⟩
   refine(zP)<|(zV (xfb 3 fd_36_3))<|(zV (xlb 4 pl_3 hS))<|(zP)<|(zP)<|zlt<|Ze ?_ ?_<;>intro hc
   ·
    refine zsr<|(zP)<|(zV (xls 4 st_36 hS))<|zlv (xany (v:= .agg #[wP,yv,yu,.int .i64 qM.val,.int .i64 qM.den]) (hr:=by obtain⟨_,_,_,_,rfl,_⟩:=hsP;obtain⟨_,_,_,_,rfl,_⟩:=xo;obtain⟨_,_,_,_,rfl,_⟩:=xn;kernel_rfl)) ?_
    refine(zP)<|zle (xsw 1 XZ hS (hd:=(Za hsP.one (Za xo.one (Za xn.one (Za rfl (Za rfl Zg))))))) ?_;clear hS;rintro w hS
    refine(zP)<|zlt<|zrt<|ztr<|zbr<|ztr<|zbr<|ztr<|ZW 1 XZ hS ⟨_,rfl,?_⟩
    exact⟨_,_,_,_,_,_,_,_,_,rfl,ColR.of_price (by rw [show(0:Int)=e by omega];exact hRn) hfe x8 (by omega),hsP,xo,xn,hS.pk [2,3,5,6]⟩
   refine zsk<|ztn<|zrg<|(zP)<|(zP)<|zla (xli (n:=1) (len:=1) (pv:= [(0,xj)]) (cs:= [xj]) (c:=(fun _=>xj)) Zi Ya hS (hf:=by obtain⟨_,_,_,_,rfl,_⟩:=yi;kernel_rfl)) ?_;rintro v1 w ⟨hS,hv1⟩
   refine zla (xap 2 (r:=u+1) Zi Ya hS (hS.rowN 8 rfl) (Y8 _ _ _) (h1:=fun _ _ _=>yi.one)) ?_;rintro v2 w ⟨hS,hv2⟩
   replace hS:=Sat.merge (l1:= [_,_,_]) (l2:= [_,_,_]) (l3:= [_]) hS (by omega)
   have qN:=fun k (k0:0<=k) (k1:k<u+1)=>hS.slhIn 3 rfl k0 k1
   refine(zP)<|zln<|zbn<|zlq ⟨u+1,v2,gsn vv u xj,gsn ml u zQ,gsn mf u zJ,zp,rfl,?_,?_,?_,rfl,hS.pk [0,1,2,3]⟩
   ·
    rw [show zp=zk by omega];exact .go (by rw [show(0:Int)=e by omega];exact hRn) hfe x8 (by omega)
   ·
    exact hv2
   ·
    omega
  refine zx8<|(zV (xany (v:= .agg #[.slice none 0 0,.slice none 0 0,.slice none 0 0,.int .i64 0,.int .i64 0])))<|(zP)<|zle (xsw 1 XZ hS) ?_;clear hS;rintro w hS
  refine(zP)<|zx1<|ZW 1 XZ hS ⟨_,rfl,?_⟩
  exact⟨_,fun _=>undef,_,_,0,fun _=>0,fun _ _=>0,So.zero,_,rfl,(by first|exact ColR.of_solve (by rw [show(0:Int)=e by omega];exact hRn) yG (by omega)|exact ColR.of_start hRn (by omega)),slh_nil,slh_nil,slh_nil,((((hS.sub (.cons _ (.cons _ (.cons _ (.cons _ .slnil))))).addnil 1 22 (fun _=>undef)).addrows 3 (fun _=>undef) (fun _=>0) (fun _ _=>0)).addnil 1 3 (ints So.zero.X)).addnil 1 3 (ints So.zero.Y)⟩
end Go.Proofs.YtopmifmfecfaaaaGreat
namespace Go.Proofs.Gw
variable {c e hi i j k lo m mid n s x y z:Int} {a b t u:Int->Int}
def PermOn(lo hi:Int)(a b:Int->Int):Prop:=∃p q:Int->Int,(∀k,p (q k)=k/\q (p k)=k)/\(∀k,¬(lo<=k/\k<hi)->p k=k)/\∀k,b k=a (p k)
theorem PermOn.refl(lo hi:Int)(a:Int->Int):PermOn lo hi a a:=⟨id,id,fun _=>⟨rfl,rfl⟩,fun _ _=>rfl,fun _=>rfl⟩
theorem PermOn.trans{c:Int->Int}(h:PermOn lo hi a b)(k:PermOn lo hi b c):PermOn lo hi a c:=by
  obtain⟨p,q,h1,h2,h3⟩:=h
  obtain⟨p',q',k1,k2,k3⟩:=k
  refine⟨fun x=>p (p' x),fun x=>q' (q x),fun x=>⟨?_,?_⟩,fun x hx=> ?_,fun x=> ?_⟩
  · show p (p' (q' (q x)))=x
    rw [(k1 _).1,(h1 _).1]
  · show q' (q (p (p' x)))=x
    rw [(h1 _).2,(k1 _).2]
  · show p (p' x)=x
    rw [k2 x hx,h2 x hx]
  · rw [k3,h3]
theorem PermOn.mono{lo' hi':Int}(h:PermOn lo hi a b)(h0:lo'<=lo)(h1:hi<=hi'):PermOn lo' hi' a b:=by
  obtain⟨p,q,h2,h3,h4⟩:=h
  exact⟨p,q,h2,fun k hk=>h3 k (by omega),h4⟩
theorem PermOn.out(h:PermOn lo hi a b)(hk:¬(lo<=k/\k<hi)):b k=a k:=by
  obtain⟨p,q,h2,h3,h4⟩:=h
  rw [h4,h3 k hk]
theorem PermOn.fr(h:PermOn lo hi a b)(k0:lo<=k)(k1:k<hi):∃j,lo<=j/\j<hi/\b k=a j:=by
  obtain⟨p,q,h2,h3,h4⟩:=h
  by_cases hj:lo<=p k/\p k<hi
  · exact⟨p k,hj.1,hj.2,h4 k⟩
  · have h5:=h3 (p k) hj
    have h6:p k=k:=by
      have:=congrArg q h5
      rw [(h2 _).2,(h2 _).2] at this;exact this
    rw [h6] at hj
    exact absurd ⟨k0,k1⟩ hj
theorem PermOn.symm{lo hi:Int}{a b:Int->Int}(h:PermOn lo hi a b):PermOn lo hi b a:=by
  obtain⟨p,q,h2,h3,h4⟩:=h
  refine⟨q,p,fun k=>⟨(h2 k).2,(h2 k).1⟩,fun k hk=> ?_,fun k=> ?_⟩
  · have:=congrArg q (h3 k hk)
    rw [(h2 k).2] at this;exact this.symm
  · rw [h4,(h2 k).1]
def swp(a:Int->Int)(i j:Int):Int->Int:=fun k=>if k=i then a j else if k=j then a i else a k
theorem UO(i0:lo<=i)(i1:i<hi)(j0:lo<=j)(j1:j<hi):PermOn lo hi a (swp a i j):=by
  have e:∀k,(fun k=>if k=i then j else if k=j then i else k:Int->Int) ((fun k=>if k=i then j else if k=j then i else k:Int->Int) k)=k:=fun k=>by
    dsimp only;split<;>(try split)<;>(try split)<;>(try split)<;>omega
  refine⟨fun k=>if k=i then j else if k=j then i else k,fun k=>if k=i then j else if k=j then i else k,fun k=>⟨e k,e k⟩,fun k hk=> ?_,fun k=> ?_⟩
  · dsimp only;rw [if_neg (by omega),if_neg (by omega)]
  · unfold swp;dsimp only;split
    · rfl
    · split<;>rfl
def Srt(R:Int->Int->Prop)(lo hi:Int)(a:Int->Int):Prop:=∀i j,lo<=i->i<j->j<hi->R (a i) (a j)
theorem Srt.mono{R:Int->Int->Prop}{lo' hi':Int}(h:Srt R lo hi a)(h0:lo<=lo')(h1:hi'<=hi):Srt R lo' hi' a:=fun i j i0 ij j1=>h i j (by omega) ij (by omega)
theorem Srt.congr{R:Int->Int->Prop}(h:Srt R lo hi a)(e:∀k,lo<=k->k<hi->b k=a k):Srt R lo hi b:=fun i j i0 ij j1=>by
  rw [e i i0 (by omega),e j (by omega) j1];exact h i j i0 ij j1
def Tie(lt:Int->Int->Prop):Int->Int->Prop:=fun x y=>lt x y\/(¬lt y x/\x<y)
structure Swo (lt:Int->Int->Prop):Prop where
  asym:∀x y,lt x y->¬lt y x
  trans:∀x y z,lt x y->lt y z->lt x z
  inc:∀x y z,¬lt x y->¬lt y z->¬lt x z
theorem Tie.trans{lt:Int->Int->Prop}(h:Swo lt){x y z:Int}(a:Tie lt x y)(b:Tie lt y z):Tie lt x z:=by
  rcases a with a|⟨a1,a2⟩<;>rcases b with b|⟨b1,b2⟩
  · exact .inl (h.trans _ _ _ a b)
  · left;exact Classical.byContradiction fun hn=>h.inc _ _ _ hn b1 a
  · left;exact Classical.byContradiction fun hn=>h.inc _ _ _ a1 hn b
  · exact .inr ⟨h.inc _ _ _ b1 a1,by omega⟩
theorem Tie.asym{lt:Int->Int->Prop}(h:Swo lt){x y:Int}(a:Tie lt x y):¬Tie lt y x:=by
  rintro(b|⟨b1,b2⟩)
  · rcases a with a|⟨a1,a2⟩
    · exact h.asym _ _ a b
    · exact a1 b
  · rcases a with a|⟨a1,a2⟩
    · exact b1 a
    · omega
theorem Tie.of{lt:Int->Int->Prop}(h:Swo lt)(hxy:x<y)(hn:¬lt y x):Tie lt x y:=by
  by_cases hl:lt x y
  · exact .inl hl
  · exact .inr ⟨hn,hxy⟩
def Parted(lo c hi:Int)(a:Int->Int):Prop:=∀i j,lo<=i->i<c->c<=j->j<hi->a i<a j
theorem Parted.perm(h:Parted lo c hi a)(hp:∃m,PermOn lo c a m/\PermOn c hi m b):Parted lo c hi b:=fun i j i0 i1 j0 j1=>by
  obtain⟨m,h1,h2⟩:=hp
  obtain⟨i',g0,g1,g2⟩:=h1.fr i0 i1
  obtain⟨j',f0,f1,f2⟩:=h2.fr j0 j1
  rw [h2.out (by omega),g2,f2,h1.out (by omega)]
  exact h i' j' g0 g1 f0 f1
def Uv(lo hi:Int)(a:Int->Int):Prop:=∀i j,lo<=i->i<j->j<hi->a i<a j
structure Ins (lt:Int->Int->Prop) (lo i j:Int) (a b:Int->Int):Prop where
  perm:PermOn lo (i+1) a b
  rest:∀p q,lo<=p->p<q->q<=i->p≠j->q≠j->Tie lt (b p) (b q)
  less:∀q,j<q->q<=i->Tie lt (b j) (b q)
  big:∀p,lo<=p->p<j->b p<b j
theorem Ins.start{lt:Int->Int->Prop}(i0:lo<=i)(hs:Srt (Tie lt) lo i a)(hb:∀p,lo<=p->p<i->a p<a i):Ins lt lo i i a a:=
  ⟨.refl _ _ _,fun p q p0 pq q1 pi qi=>hs p q p0 pq (by omega),fun q q0 q1=>by omega,hb⟩
theorem Ins.step{lt:Int->Int->Prop}(j0:lo<j)(j1:j<=i)(h:Ins lt lo i j a b)(hl:lt (b j) (b (j-1))):Ins lt lo i (j-1) a (swp b j (j-1)):=by
  have e0:swp b j (j-1) j=b (j-1):=by unfold swp;rw [if_pos rfl]
  have e1:swp b j (j-1) (j-1)=b j:=by unfold swp;rw [if_neg (by omega),if_pos rfl]
  have e2:∀k,k≠j->k≠j-1->swp b j (j-1) k=b k:=fun k h1 h2=>by unfold swp;rw [if_neg h1,if_neg h2]
  refine⟨h.perm.trans (UO (by omega) (by omega) (by omega) (by omega)),fun p q p0 pq q1 pj qj=> ?_,fun q q0 q1=> ?_,fun p p0 p1=> ?_⟩
  · by_cases hp:p=j
    · rw [hp,e0,e2 q (by omega) qj];exact h.rest (j-1) q (by omega) (by omega) q1 (by omega) (by omega)
    · rw [e2 p hp pj]
      by_cases hq:q=j
      · rw [hq,e0];exact h.rest p (j-1) p0 (by omega) (by omega) hp (by omega)
      · rw [e2 q hq qj];exact h.rest p q p0 pq q1 hp hq
  · rw [e1]
    by_cases hq:q=j
    · rw [hq,e0];exact .inl hl
    · rw [e2 q hq (by omega)];exact h.less q (by omega) q1
  · rw [e1,e2 p (by omega) (by omega)];exact h.big p p0 (by omega)
theorem Ins.fin{lt:Int->Int->Prop}(hw:Swo lt)(j0:lo<=j)(j1:j<=i)(h:Ins lt lo i j a b)(hl:j=lo\/¬lt (b j) (b (j-1))):Srt (Tie lt) lo (i+1) b:=fun p q p0 pq q1=>by
  have hle:∀p,lo<=p->p<j->Tie lt (b p) (b j):=fun p p0 p1=>by
    rcases hl with hl|hl
    · omega
    · have h1:Tie lt (b (j-1)) (b j):=Tie.of hw (h.big (j-1) (by omega) (by omega)) hl
      by_cases hp:p=j-1
      · rw [hp];exact h1
      · exact(h.rest p (j-1) p0 (by omega) (by omega) (by omega) (by omega)).trans hw h1
  by_cases hp:p=j
  · rw [hp];exact h.less q (by omega) (by omega)
  · by_cases hq:q=j
    · rw [hq];exact hle p p0 (by omega)
    · exact h.rest p q p0 pq (by omega) hp hq
def swr(a:Int->Int)(x y n:Int):Int->Int:=fun k=>if x<=k/\k<x+n then a (k-x+y) else if y<=k/\k<y+n then a (k-y+x) else a k
theorem Ko(a:Int->Int)(x y:Int):swr a x y 0=a:=by
  funext k;unfold swr;rw [if_neg (by omega),if_neg (by omega)]
theorem Kp (h0:0<=i) (h:x+i<y\/y+i<x) (hd:x+i<y\/y+i<x) (hx:x<=y):swp (swr a x y i) (x+i) (y+i)=swr a x y (i+1):=by
  funext k;unfold swp swr
  by_cases h1:k=x+i
  · subst h1
    rw [if_pos rfl,if_neg (by omega),if_neg (by omega),if_pos (by omega)];congr 1<;>omega
  · rw [if_neg h1]
    by_cases h2:k=y+i
    · subst h2
      rw [if_pos rfl,if_neg (by omega),if_neg (by omega),if_neg (by omega),if_pos (by omega)];congr 1<;>omega
    · rw [if_neg h2]
      by_cases h3:x<=k/\k<x+i
      · rw [if_pos h3,if_pos (by omega)]
      · rw [if_neg h3]
        by_cases h4:y<=k/\k<y+i
        · rw [if_pos h4,if_neg (by omega),if_pos (by omega)]
        · rw [if_neg h4,if_neg (by omega),if_neg (by omega)]
def rot(a:Int->Int)(lo c hi:Int):Int->Int:=fun k=>if lo<=k/\k<lo+(hi-c) then a (k+(c-lo)) else if lo+(hi-c)<=k/\k<hi then a (k-(hi-c)) else a k
theorem Vo (h0:1<=j) (h:j<i):rot (swr a (c-i) c j) (c-i+j) c (c+j)=rot a (c-i) c (c+j):=by
  funext k;unfold rot swr
  by_cases h1:c-i<=k/\k<c-i+j
  · rw [if_neg (by omega),if_neg (by omega),if_pos h1,if_pos (by omega)];congr 1<;>omega
  · by_cases h2:c-i+j<=k/\k<c-i+j+j
    · rw [if_pos (by omega),if_neg (show¬(c-i<=k/\k<c-i+(c+j-c)) by omega),if_pos (show c-i+(c+j-c)<=k/\k<c+j by omega)]
      by_cases h3:c-i<=k+(c-(c-i+j))/\k+(c-(c-i+j))<c-i+j
      · exfalso;omega
      · rw [if_neg h3]
        by_cases h4:c<=k+(c-(c-i+j))/\k+(c-(c-i+j))<c+j
        · rw [if_pos h4];congr 1<;>omega
        · exfalso;omega
    · by_cases h3:c-i+j+j<=k/\k<c+j
      · rw [if_neg (by(try omega)),if_pos (by(try omega)),if_neg (by(try omega)),if_neg (by(try omega)),if_neg (by(try omega)),if_pos (by(try omega))]
      · rw [if_neg (by omega),if_neg (by omega),if_neg (by omega),if_neg (by omega),if_neg (by omega),if_neg (by omega)]
theorem WL(h0:1<=i)(h:i<j):rot (swr a (c-i) (c+j-i) i) (c-i) c (c+j-i)=rot a (c-i) c (c+j):=by
  funext k;unfold rot swr
  by_cases h1:c-i<=k/\k<c+j-i-i
  · rw [if_pos (by omega),if_neg (by omega),if_neg (by omega),if_pos (by omega)]
  · by_cases h2:c+j-i-i<=k/\k<c+j-i
    · by_cases h5:k<c-i
      · exfalso;omega
      · rw [if_neg (by omega),if_pos (by omega),if_pos (by omega),if_pos (by omega)];congr 1<;>omega
    · by_cases h3:c+j-i<=k/\k<c+j
      · rw [if_neg (by omega),if_neg (by omega),if_neg (by omega),if_pos (by omega),if_neg (by omega),if_pos (by omega)];congr 1<;>omega
      · rw [if_neg (by omega),if_neg (by omega),if_neg (by omega),if_neg (by omega),if_neg (by omega),if_neg (by omega)]
theorem KA(h0:0<=i):swr a (c-i) c i=rot a (c-i) c (c+i):=by
  funext k;unfold rot swr
  by_cases h1:c-i<=k/\k<c
  · rw [if_pos (by omega),if_pos (by omega)];congr 1<;>omega
  · by_cases h2:c<=k/\k<c+i
    · rw [if_neg (by omega),if_pos (by omega),if_neg (by omega),if_pos (by omega)];congr 1<;>omega
    · rw [if_neg (by omega),if_neg (by omega),if_neg (by omega),if_neg (by omega)]
theorem Yz(h0:lo<=c)(h1:c<=hi):PermOn lo hi a (rot a lo c hi):=by
  refine⟨fun k=>if lo<=k/\k<lo+(hi-c) then k+(c-lo) else if lo+(hi-c)<=k/\k<hi then k-(hi-c) else k,fun k=>if lo<=k/\k<c then k+(hi-c) else if c<=k/\k<hi then k-(c-lo) else k,fun k=>⟨?_,?_⟩,fun k hk=> ?_,fun k=> ?_⟩
  · dsimp only
    by_cases g1:lo<=k/\k<c
    · rw [if_pos g1,if_neg (by omega),if_pos (by omega)];omega
    · rw [if_neg g1]
      by_cases g2:c<=k/\k<hi
      · rw [if_pos g2,if_pos (by omega)];omega
      · rw [if_neg g2,if_neg (by omega),if_neg (by omega)]
  · dsimp only
    by_cases g1:lo<=k/\k<lo+(hi-c)
    · rw [if_pos g1,if_neg (by omega),if_pos (by omega)];omega
    · rw [if_neg g1]
      by_cases g2:lo+(hi-c)<=k/\k<hi
      · rw [if_pos g2,if_pos (by omega)];omega
      · rw [if_neg g2,if_neg (by omega),if_neg (by omega)]
  · dsimp only;rw [if_neg (by omega),if_neg (by omega)]
  · unfold rot;dsimp only;split
    · rfl
    · split<;>rfl
theorem Kw(a:Int->Int)(lo:Int):rot a lo (lo+1) (lo+1)=a:=by
  funext k;unfold rot
  by_cases h:lo<=k/\k<lo+1
  · rw [if_neg (by omega),if_pos (by omega)];congr 1<;>omega
  · rw [if_neg (by omega),if_neg (by omega)]
theorem Kx(h:lo<=k):swp (rot a lo (lo+1) (k+1)) k (k+1)=rot a lo (lo+1) (k+1+1):=by
  funext j;unfold swp rot
  by_cases h1:j=k
  · subst h1
    rw [if_pos rfl,if_neg (by omega),if_neg (by omega),if_pos (by omega)];congr 1<;>omega
  · rw [if_neg h1]
    by_cases h2:j=k+1
    · subst h2
      rw [if_pos rfl,if_neg (by omega),if_pos (by omega),if_neg (by omega),if_pos (by omega)];congr 1<;>omega
    · rw [if_neg h2]
      by_cases h3:lo<=j/\j<k
      · rw [if_pos (by omega),if_pos (by omega)]
      · rw [if_neg (by omega),if_neg (by omega),if_neg (by omega),if_neg (by omega)]
theorem Ku(a:Int->Int)(c:Int):rot a c c (c+1)=a:=by
  funext k;unfold rot
  by_cases h:c<=k/\k<c+1
  · rw [if_pos (by omega)];congr 1<;>omega
  · rw [if_neg (by omega),if_neg (by omega)]
theorem Kv(h:k<=c):swp (rot a k c (c+1)) k (k-1)=rot a (k-1) c (c+1):=by
  funext j;unfold swp rot
  by_cases h1:j=k
  · subst h1
    rw [if_pos rfl,if_neg (by omega),if_neg (by omega),if_neg (by omega),if_pos (by omega)];congr 1<;>omega
  · rw [if_neg h1]
    by_cases h2:j=k-1
    · subst h2
      rw [if_pos rfl,if_pos (by omega),if_pos (by omega)];congr 1<;>omega
    · rw [if_neg h2]
      by_cases h3:k+1<=j/\j<c+1
      · rw [if_neg (by omega),if_pos (by omega),if_neg (by omega),if_pos (by omega)]
      · rw [if_neg (by omega),if_neg (by omega),if_neg (by omega),if_neg (by omega)]
theorem TZ {lt:Int->Int->Prop} (hw:Swo lt) {a b:Int} {s:Int->Int} (hs:Srt (Tie lt) (a+1) b s) (hb:∀j,a+1<=j->j<b->s a<s j) (e0:a+1<=e) (e1:e<=b)
    (h1:e=a+1\/lt (s (e-1)) (s a)) (h2:e=b\/¬lt (s e) (s a)):Srt (Tie lt) a b (rot s a (a+1) e):=fun i j i0 ij j1=>by
  have r1:∀k,a<=k->k<e-1->rot s a (a+1) e k=s (k+1):=fun k k0 k1=>by unfold rot;rw [if_pos (by omega)];congr 1<;>omega
  have r2:rot s a (a+1) e (e-1)=s a:=by unfold rot;rw [if_neg (by omega),if_pos (by omega)];congr 1<;>omega
  have r3:∀k,e<=k->rot s a (a+1) e k=s k:=fun k k0=>by unfold rot;rw [if_neg (by omega),if_neg (by omega)]
  by_cases hi:i<e-1
  · rw [r1 i i0 hi]
    by_cases hj:j<e-1
    · rw [r1 j (by omega) hj];exact hs _ _ (by omega) (by omega) (by omega)
    · by_cases hj2:j=e-1
      · rw [hj2,r2]
        rcases h1 with h1|h1
        · omega
        · by_cases hie:i+1=e-1
          · rw [hie];exact .inl h1
          · exact(hs (i+1) (e-1) (by omega) (by omega) (by omega)).trans hw (.inl h1)
      · rw [r3 j (by omega)];exact hs _ _ (by omega) (by omega) j1
  · by_cases hi2:i=e-1
    · rw [hi2,r2,r3 j (by omega)]
      rcases h2 with h2|h2
      · omega
      · have h3:Tie lt (s a) (s e):=Tie.of hw (hb e e0 (by omega)) h2
        by_cases hje:j=e
        · rw [hje];exact h3
        · exact h3.trans hw (hs e j e0 (by omega) j1)
    · rw [r3 i (by omega),r3 j (by omega)];exact hs i j (by omega) ij j1
theorem U4 {lt:Int->Int->Prop} (hw:Swo lt) {a:Int} {s:Int->Int} (hs:Srt (Tie lt) a m s) (hb:∀i,a<=i->i<m->s i<s m) (e0:a<=e) (e1:e<=m)
    (h1:e=a\/¬lt (s m) (s (e-1))) (h2:e=m\/lt (s m) (s e)):Srt (Tie lt) a (m+1) (rot s e m (m+1)):=fun i j i0 ij j1=>by
  have r1:∀k,k<e->rot s e m (m+1) k=s k:=fun k k0=>by unfold rot;rw [if_neg (by omega),if_neg (by omega)]
  have r2:rot s e m (m+1) e=s m:=by unfold rot;rw [if_pos (by omega)];congr 1<;>omega
  have r3:∀k,e<k->k<m+1->rot s e m (m+1) k=s (k-1):=fun k k0 k1=>by unfold rot;rw [if_neg (by omega),if_pos (by omega)];congr 1<;>omega
  have hlo:∀i,a<=i->i<e->Tie lt (s i) (s m):=fun i i0 i1=>by
    rcases h1 with h1|h1
    · omega
    · have h3:Tie lt (s (e-1)) (s m):=Tie.of hw (hb (e-1) (by omega) (by omega)) h1
      by_cases hie:i=e-1
      · rw [hie];exact h3
      · exact(hs i (e-1) i0 (by omega) (by omega)).trans hw h3
  by_cases hi:i<e
  · rw [r1 i hi]
    by_cases hj:j<e
    · rw [r1 j hj];exact hs i j i0 ij (by omega)
    · by_cases hj2:j=e
      · rw [hj2,r2];exact hlo i i0 hi
      · rw [r3 j (by omega) j1];exact hs i (j-1) i0 (by omega) (by omega)
  · by_cases hi2:i=e
    · rw [hi2,r2,r3 j (by omega) j1]
      rcases h2 with h2|h2
      · omega
      · by_cases hje:j-1=e
        · rw [hje];exact .inl h2
        · exact Tie.trans hw (.inl h2) (hs e (j-1) e0 (by omega) (by omega))
    · rw [r3 i (by omega) (by omega),r3 j (by omega) j1];exact hs (i-1) (j-1) (by omega) (by omega) (by omega)
structure Halves (lt:Int->Int->Prop) (a s mid e b:Int) (t:Int->Int):Prop where
  l1:Srt (Tie lt) a s t
  l2:Srt (Tie lt) s mid t
  r1:Srt (Tie lt) mid e t
  r2:Srt (Tie lt) e b t
  pl:Parted a s mid t
  pr:Parted mid e b t
  cross:∀i j,a<=i->i<mid->mid<=j->j<b->Tie lt (t i) (t j)
theorem Vv {lt:Int->Int->Prop} (hw:Swo lt) {a b:Int} (h1:Srt (Tie lt) a m t) (h2:Srt (Tie lt) m b t) (hp:Parted a m b t) (he:s+e=mid+m) (s0:a<=s) (s1:s<=m) (e0:m<=e) (e1:e<=b)
    (g1:s=a\/e=b\/¬lt (t e) (t (s-1))) (g2:s=m\/e=m\/lt (t (e-1)) (t s)):Halves lt a s mid e b (rot t s m e):=by
  have r0:∀k,k<s->rot t s m e k=t k:=fun k k0=>by unfold rot;rw [if_neg (by omega),if_neg (by omega)]
  have r1:∀k,s<=k->k<mid->rot t s m e k=t (k+(m-s)):=fun k k0 k1=>by unfold rot;rw [if_pos (by omega)]
  have r2:∀k,mid<=k->k<e->rot t s m e k=t (k-(e-m)):=fun k k0 k1=>by unfold rot;rw [if_neg (by omega),if_pos (by omega)]
  have r3:∀k,e<=k->rot t s m e k=t k:=fun k k0=>by unfold rot;rw [if_neg (by omega),if_neg (by omega)]
  have c1:∀i j,a<=i->i<s->e<=j->j<b->Tie lt (t i) (t j):=fun i j i0 i1 j0 j1=>by
    rcases g1 with g1|g1|g1
    · omega
    · omega
    · have h3:Tie lt (t (s-1)) (t e):=Tie.of hw (hp (s-1) e (by omega) (by omega) e0 (by omega)) g1
      have h4:Tie lt (t i) (t e):=by
        by_cases hi:i=s-1
        · rw [hi];exact h3
        · exact(h1 i (s-1) i0 (by omega) (by omega)).trans hw h3
      by_cases hj:j=e
      · rw [hj];exact h4
      · exact h4.trans hw (h2 e j e0 (by omega) j1)
  have c2:∀i j,m<=i->i<e->s<=j->j<m->Tie lt (t i) (t j):=fun i j i0 i1 j0 j1=>by
    rcases g2 with g2|g2|g2
    · omega
    · omega
    · have h4:Tie lt (t i) (t s):=by
        by_cases hi:i=e-1
        · rw [hi];exact .inl g2
        · exact(h2 i (e-1) i0 (by omega) (by omega)).trans hw (.inl g2)
      by_cases hj:j=s
      · rw [hj];exact h4
      · exact h4.trans hw (h1 s j (by omega) (by omega) j1)
  refine⟨fun i j i0 ij j1=> ?_,fun i j i0 ij j1=> ?_,fun i j i0 ij j1=> ?_,fun i j i0 ij j1=> ?_,fun i j i0 i1 j0 j1=> ?_,fun i j i0 i1 j0 j1=> ?_,fun i j i0 i1 j0 j1=> ?_⟩
  · rw [r0 i (by omega),r0 j j1];exact h1 i j i0 ij (by omega)
  · rw [r1 i i0 (by omega),r1 j (by omega) j1];exact h2 _ _ (by omega) (by omega) (by omega)
  · rw [r2 i i0 (by omega),r2 j (by omega) j1];exact h1 _ _ (by omega) (by omega) (by omega)
  · rw [r3 i i0,r3 j (by omega)];exact h2 _ _ (by omega) (by omega) (by omega)
  · rw [r0 i i1,r1 j j0 j1];exact hp _ _ i0 (by omega) (by omega) (by omega)
  · rw [r2 i i0 i1,r3 j j0];exact hp _ _ (by omega) (by omega) (by omega) (by omega)
  · by_cases hi:i<s
    · rw [r0 i hi]
      by_cases hj:j<e
      · rw [r2 j j0 hj];exact h1 _ _ (by omega) (by omega) (by omega)
      · rw [r3 j (by omega)];exact c1 i j i0 hi (by omega) j1
    · rw [r1 i (by omega) i1]
      by_cases hj:j<e
      · rw [r2 j j0 hj];exact c2 _ _ (by omega) (by omega) (by omega) (by omega)
      · rw [r3 j (by omega)];exact h2 _ _ (by omega) (by omega) (by omega)
theorem Halves.left{lt:Int->Int->Prop}{a b:Int}(h:Halves lt a s mid e b t)(hn:¬(a<s/\s<mid))(s0:a<=s)(s1:s<=mid):Srt (Tie lt) a mid t:=by
  by_cases h1:a<s
  · obtain rfl:s=mid:=by omega
    exact h.l1
  · obtain rfl:a=s:=by omega
    exact h.l2
theorem Halves.right{lt:Int->Int->Prop}{a b:Int}(h:Halves lt a s mid e b t)(hn:¬(mid<e/\e<b))(s0:mid<=e)(s1:e<=b):Srt (Tie lt) mid b t:=by
  by_cases h1:mid<e
  · obtain rfl:e=b:=by omega
    exact h.r1
  · obtain rfl:mid=e:=by omega
    exact h.r2
theorem Halves.keep{lt:Int->Int->Prop}{a b:Int}(h:Halves lt a s mid e b t)(hp:PermOn a mid t u):Srt (Tie lt) mid e u/\Srt (Tie lt) e b u/\Parted mid e b u\/e<mid:=by
  by_cases he:mid<=e
  · refine .inl ⟨h.r1.congr fun k k0 k1=>hp.out (by omega),h.r2.congr fun k k0 k1=>hp.out (by omega),fun i j i0 i1 j0 j1=> ?_⟩
    rw [hp.out (by omega),hp.out (by omega)];exact h.pr i j i0 i1 j0 j1
  · exact .inr (by omega)
theorem Halves.join{lt:Int->Int->Prop}(hw:Swo lt){a b:Int}{v:Int->Int}(h:Halves lt a s mid e b t)(a0:a<=mid)(b0:mid<=b)(h1:PermOn a mid t u)(h2:Srt (Tie lt) a mid u)(h3:PermOn mid b u v)(h4:Srt (Tie lt) mid b v):Srt (Tie lt) a b v:=fun i j i0 ij j1=>by
  by_cases hj:j<mid
  · rw [h3.out (by omega),h3.out (by omega)];exact h2 i j i0 ij hj
  · by_cases hi:i<mid
    · rw [h3.out (by omega)]
      obtain⟨i',g0,g1,g2⟩:=h1.fr i0 hi
      obtain⟨j',f0,f1,f2⟩:=h3.fr (show mid<=j by omega) j1
      rw [g2,f2,h1.out (by omega)]
      exact h.cross i' j' g0 g1 f0 f1
    · exact h4 i j (by omega) ij j1
theorem Parted.keep(h:Parted lo c hi a)(hp:PermOn x y a b)(x0:lo<=x)(y0:y<=hi)(hc:y<=c\/c<=x):Parted lo c hi b:=fun i j i0 i1 j0 j1=>by
  have gi:∃i',lo<=i'/\i'<c/\b i=a i':=by
    by_cases hx:x<=i/\i<y
    · obtain⟨i',g0,g1,g2⟩:=hp.fr hx.1 hx.2
      exact⟨i',by omega,by omega,g2⟩
    · exact⟨i,i0,i1,hp.out hx⟩
  have gj:∃j',c<=j'/\j'<hi/\b j=a j':=by
    by_cases hx:x<=j/\j<y
    · obtain⟨j',g0,g1,g2⟩:=hp.fr hx.1 hx.2
      exact⟨j',by omega,by omega,g2⟩
    · exact⟨j,j0,j1,hp.out hx⟩
  obtain⟨i',a1,a2,a3⟩:=gi
  obtain⟨j',b1,b2,b3⟩:=gj
  rw [a3,b3];exact h i' j' a1 a2 b1 b2
def Runs_(lt:Int->Int->Prop)(s n x y:Int)(t:Int->Int):Prop:=∀c,x<=c->c<y->s∣c->Srt (Tie lt) c (min (c+s) n) t/\Parted 0 c n t
theorem Runs_.keep{lt:Int->Int->Prop}{s n x y p q:Int}{t u:Int->Int}(h:Runs_ lt s n x y t)(hp:PermOn p q t u)(p0:0<=p)(q0:q<=n)(hc:∀c,x<=c->c<y->s∣c->min (c+s) n<=p/\c<=p\/q<=c):Runs_ lt s n x y u:=fun c c0 c1 cd=>by
  have h1:=h c c0 c1 cd
  have h2:=hc c c0 c1 cd
  exact⟨h1.1.congr fun k k0 k1=>hp.out (by omega),h1.2.keep hp p0 q0 (by omega)⟩
theorem UB{a:Int}(hs:0<s)(h1:s∣c)(h2:s∣a)(h:c<a):c+s<=a:=by
  have:=Int.le_of_dvd (show 0<a-c by omega) (Int.dvd_sub h2 h1)
  omega
theorem PermOn.dom{N:Int}(h:PermOn lo hi a b)(h0:0<=lo)(h1:hi<=n\/n<=lo)(hd:∀k,0<=k->k<n->0<=a k/\a k<N):∀k,0<=k->k<n->0<=b k/\b k<N:=fun k k0 k1=>by
  by_cases hk:lo<=k/\k<hi
  · obtain⟨j,j0,j1,j2⟩:=h.fr hk.1 hk.2
    rw [j2];exact hd j (by omega) (by omega)
  · rw [h.out hk];exact hd k k0 k1
theorem ZbJ{a b:Int}{s:Int->Int}(hp:PermOn a i s t)(xg:Uv a b s)(hi:i<b):∀p,a<=p->p<i->t p<t i:=fun p p0 p1=>by
  obtain⟨j,j0,j1,j2⟩:=hp.fr p0 p1
  rw [j2,hp.out (by omega)];exact xg j i j0 j1 hi
theorem Vn(h0:x<=m)(h1:m<=e)(h:¬(x<m/\m<e)):rot a x m e=a:=by
  funext k;unfold rot
  by_cases g1:x<=k/\k<x+(e-m)
  · rw [if_pos g1];congr 1;omega
  · rw [if_neg g1]
    by_cases g2:x+(e-m)<=k/\k<e
    · rw [if_pos g2];congr 1;omega
    · rw [if_neg g2]
theorem Wf{lt:Int->Int->Prop}{a b:Int}{s:Int->Int}(hz:0<z)(xg:Uv 0 n s)(hr:Runs_ lt z n 0 a t)(a0:0<=a)(hd:z∣a)(hp:PermOn 0 a s t)(hq:PermOn a b t u)(hs:Srt (Tie lt) a b u)(hb:b=a+z/\b<=n\/b=n/\n<a+z)(ab:a<=b):Runs_ lt z n 0 b u:=fun c c0 c1 cd=>by
  by_cases hc:c<a
  · exact(hr.keep hq a0 (by omega) (fun c c0 c1 cd=> .inl (by have:=UB hz cd hd c1;omega))) c c0 hc cd
  · have hca:c=a:=by
      by_cases h:a<c
      · have:=UB hz hd cd h;omega
      · omega
    subst hca
    refine⟨hs.mono (by omega) (by omega),fun i j i0 i1 j0 j1=> ?_⟩
    obtain⟨i',g0,g1,g2⟩:=hp.fr i0 i1
    rw [hq.out (by omega),g2]
    by_cases hj:j<b
    · obtain⟨j',f0,f1,f2⟩:=hq.fr j0 hj
      rw [f2,hp.out (by omega)];exact xg i' j' g0 (by omega) (by omega)
    · rw [hq.out (by omega),hp.out (by omega)];exact xg i' j g0 (by omega) j1
theorem Vk{lt:Int->Int->Prop}{a b:Int}(hz:0<z)(a0:0<=a)(hd:z∣a)(h:Runs_ lt z n a n t)(hm:a+z<b)(hb:b<=a+2*z)(hn:b<=n):Srt (Tie lt) a (a+z) t/\Srt (Tie lt) (a+z) b t/\Parted a (a+z) b t:=by
  have h1:=h a (Int.le_refl _) (by omega) hd
  have h2:=h (a+z) (by omega) (by omega) (Int.dvd_add hd (Int.dvd_refl z))
  exact⟨h1.1.mono (by omega) (by omega),h2.1.mono (by omega) (by omega),fun i j i0 i1 j0 j1=>h2.2 i j (by omega) i1 j0 (by omega)⟩
theorem Yv {lt:Int->Int->Prop} {a b:Int} (hz:0<z) (a0:0<=a) (hd:2*z∣a) (h2:Runs_ lt (2*z) n 0 a t) (h1:Runs_ lt z n a n t) (hq:PermOn a b t u) (hs:Srt (Tie lt) a b u) (hb:b=a+2*z/\b<=n\/b=n/\n<a+2*z) (ab:a<b):Runs_ lt (2*z) n 0 b u/\Runs_ lt z n b n u:=by
  refine⟨fun c c0 c1 cd=> ?_,fun c c0 c1 cd=> ?_⟩
  · by_cases hc:c<a
    · exact(h2.keep hq a0 (by omega) (fun c c0 c1 cd=> .inl (by have:=UB (by omega) cd hd c1;omega))) c c0 hc cd
    · have hca:c=a:=by
        by_cases h:a<c
        · have:=UB (by omega) hd cd h;omega
        · omega
      subst hca
      exact⟨hs.mono (by omega) (by omega),(h1 c (by omega) (by omega) (Int.dvd_trans (Int.dvd_mul_left 2 z) cd)).2.keep hq a0 (by omega) (.inr (Int.le_refl _))⟩
  · have h3:=h1 c (by omega) c1 cd
    exact⟨h3.1.congr fun k k0 k1=>hq.out (by omega),h3.2.keep hq a0 (by omega) (.inl (by omega))⟩
theorem Kz{lt:Int->Int->Prop}(h:Runs_ lt z n 0 n t)(hz:n<=z):Srt (Tie lt) 0 n t:=fun i j i0 ij j1=>by
  exact(h 0 (Int.le_refl _) (by omega) (Int.dvd_zero z)).1 i j i0 ij (by omega)
theorem Halves.after{lt:Int->Int->Prop}{a b:Int}(h:Halves lt a s mid e b t)(hp:PermOn a mid t u)(hs:Srt (Tie lt) a mid u)(e0:mid<=e)(e1:e<=b):Halves lt a a mid e b u:=by
  refine⟨fun i j i0 ij j1=>by omega,hs,h.r1.congr fun k k0 k1=>hp.out (by omega),h.r2.congr fun k k0 k1=>hp.out (by omega),fun i j i0 i1 j0 j1=>by omega,fun i j i0 i1 j0 j1=> ?_,fun i j i0 i1 j0 j1=> ?_⟩
  · rw [hp.out (by omega),hp.out (by omega)];exact h.pr i j i0 i1 j0 j1
  · obtain⟨i',g0,g1,g2⟩:=hp.fr i0 i1
    rw [g2,hp.out (k:=j) (by omega)];exact h.cross i' j g0 g1 j0 j1
theorem WR{a:Int}{s:Int->Int}(hp:PermOn 0 a s t)(h:Uv 0 n s)(a0:0<=a)(h0:a<=lo)(h1:hi<=n):Uv lo hi t:=fun i j i0 ij j1=>by
  rw [hp.out (by omega),hp.out (by omega)];exact h i j (by omega) ij (by omega)
theorem Vl{lt:Int->Int->Prop}{a:Int}(hz:0<z)(a0:0<=a)(hd:2*z∣a)(h2:Runs_ lt (2*z) n 0 a t)(h1:Runs_ lt z n a n t)(ha:a<=n)(hm:n<=a+z):Runs_ lt (2*z) n 0 n t:=by
  by_cases h:a<n
  · exact(Yv hz a0 hd h2 h1 (.refl _ _ _) ((h1 a (Int.le_refl _) h (Int.dvd_trans (Int.dvd_mul_left 2 z) hd)).1.mono (Int.le_refl _) (by omega)) (.inr ⟨rfl,by omega⟩) h).1
  · obtain rfl:a=n:=by omega
    exact h2
end Go.Proofs.Gw
namespace Go.Proofs.Gw
variable {m n:Int} {cnt ln:Int->Int} {pt:Int->Int->Int} {a b:List Int}
def lst(n:Int)(f:Int->Int):List Int:=(List.range n.toNat).map fun(k:Nat)=>f (k:Int)
theorem YJ(n:Int)(f:Int->Int):(lst n f).length=n.toNat:=by simp [lst]
theorem lst_get(n:Int)(f:Int->Int)(k:Nat):(lst n f)[k]? =if(k:Int)<n then some (f k) else none:=by
  unfold lst
  by_cases h:(k:Int)<n
  · rw [if_pos h,List.getElem?_map,List.getElem?_range (by omega)];rfl
  · rw [if_neg h];simp;omega
theorem Wx{f g:Int->Int}(n0:0<=n)(m0:0<=m):lst n f=lst m g↔n=m/\∀k,0<=k->k<n->f k=g k:=by
  constructor
  · intro h
    have hl:=congrArg List.length h
    rw [YJ,YJ] at hl
    refine⟨by omega,fun k k0 k1=> ?_⟩
    have h1:=congrArg (fun l=>l[k.toNat]?) h
    simp only [lst_get] at h1
    rw [Int.toNat_of_nonneg k0,if_pos k1,if_pos (by omega)] at h1
    injection h1
  · rintro⟨rfl,h⟩
    apply List.ext_getElem?
    intro k
    rw [lst_get,lst_get]
    by_cases hk:(k:Int)<n
    · rw [if_pos hk,if_pos hk,h k (by omega) hk]
    · rw [if_neg hk,if_neg hk]
theorem ZI{f g:Int->Int}(h:∀k,0<=k->k<n->f k=g k):lst n f=lst n g:=by
  apply List.ext_getElem?
  intro k
  rw [lst_get,lst_get]
  by_cases hk:(k:Int)<n
  · rw [if_pos hk,if_pos hk,h k (by omega) hk]
  · rw [if_neg hk,if_neg hk]
def olt:Option Int->Option Int->Prop
  |none,some _=>True
  |some x,some y=>x<y
  |_,_=>False
theorem RI:∀a,¬olt a a
  |none=>id
  |some x=>by simp [olt]
theorem TV:∀{a b c},olt a b->olt b c->olt a c
  |none,some _,some _,_,_=>trivial
  |some x,some y,some z,h,k=>by simp only [olt] at*;omega
theorem Zfq:∀{a b:Option Int},a≠b->olt a b\/olt b a
  |none,none,h=>absurd rfl h
  |none,some _,_=> .inl trivial
  |some _,none,_=> .inr trivial
  |some x,some y,h=>by simp only [olt];have:x≠y:=fun e=>h (by rw [e]);omega
def ahd(a b:List Int):Prop:=∃j:Nat,(∀k<j,a[k]? =b[k]?)/\olt b[j]? a[j]?
theorem ahd_asym(h:ahd a b):¬ahd b a:=by
  rintro⟨j,h1,h2⟩
  obtain⟨i,g1,g2⟩:=h
  rcases Nat.lt_trichotomy i j with h|h|h
  · rw [h1 i h] at g2;exact RI _ g2
  · subst h;exact RI _ (TV g2 h2)
  · rw [g1 j h] at h2;exact RI _ h2
theorem WW{c:List Int}(h:ahd a b)(k:ahd b c):ahd a c:=by
  obtain⟨i,g1,g2⟩:=h
  obtain⟨j,h1,h2⟩:=k
  rcases Nat.lt_trichotomy i j with h|h|h
  · exact⟨i,fun k hk=>(g1 k hk).trans (h1 k (by omega)),by rw [<-h1 i h];exact g2⟩
  · subst h;exact⟨i,fun k hk=>(g1 k hk).trans (h1 k hk),TV h2 g2⟩
  · exact⟨j,fun k hk=>(g1 k (by omega)).trans (h1 k hk),by rw [g1 j h];exact h2⟩
theorem Kh(h:a≠b):ahd a b\/ahd b a:=by
  have hex:∃k:Nat,a[k]? ≠b[k]? :=Classical.byContradiction fun hn=>h (List.ext_getElem? fun k=>Classical.byContradiction fun hk=>hn ⟨k,hk⟩)
  have fC:∃k:Nat,a[k]? ≠b[k]? /\∀j<k,a[j]? =b[j]? :=by
    obtain⟨k,hk⟩:=hex
    induction k using Nat.strongRecOn with
    | ind k ih=>
      by_cases hb:∃j,j<k/\a[j]? ≠b[j]?
      · obtain⟨j,hj,hne⟩:=hb;exact ih j hj hne
      · exact⟨k,hk,fun j hj=>Classical.byContradiction fun hne=>hb ⟨j,hj,hne⟩⟩
  obtain⟨k,hk,hlt⟩:=fC
  rcases Zfq hk with h1|h1
  · exact .inr ⟨k,fun j hj=>(hlt j hj).symm,h1⟩
  · exact .inl ⟨k,hlt,h1⟩
theorem Zgu(a:List Int):¬ahd a a:=fun h=>ahd_asym h h
theorem ahd_gt{f g:Int->Int}{j:Int}(j0:0<=j)(jn:j<n)(jm:j<m)(he:∀k,0<=k->k<j->f k=g k)(h:g j<f j):ahd (lst n f) (lst m g):=by
  refine⟨j.toNat,fun k hk=> ?_,?_⟩
  · rw [lst_get,lst_get,if_pos (by omega),if_pos (by omega),he k (by omega) (by omega)]
  · rw [lst_get,lst_get,Int.toNat_of_nonneg j0,if_pos jn,if_pos jm];exact h
theorem WE{f g:Int->Int}(m0:0<=m)(h:m<n)(he:∀k,0<=k->k<m->f k=g k):ahd (lst n f) (lst m g):=by
  refine⟨m.toNat,fun k hk=> ?_,?_⟩
  · rw [lst_get,lst_get,if_pos (by omega),if_pos (by omega),he k (by omega) (by omega)]
  · rw [lst_get,lst_get,Int.toNat_of_nonneg m0,if_neg (by omega),if_pos h];trivial
theorem Zaz{f g:Int->Int}(he:∀k,0<=k->k<n->f k=g k):¬ahd (lst n f) (lst n g):=by
  rw [ZI he];exact Zgu _
abbrev Us:=List (List Int×Int)
def plL(n:Int)(ln:Int->Int)(pt:Int->Int->Int)(cnt:Int->Int):Us:=(List.range n.toNat).map fun(i:Nat)=>(lst (ln (i:Int)) (pt (i:Int)),cnt (i:Int))
theorem plL_len(n:Int)(ln:Int->Int)(pt:Int->Int->Int)(cnt:Int->Int):(plL n ln pt cnt).length=n.toNat:=by simp [plL]
theorem plL_get(n:Int)(ln:Int->Int)(pt:Int->Int->Int)(cnt:Int->Int)(k:Nat):(plL n ln pt cnt)[k]? =if(k:Int)<n then some (lst (ln k) (pt k),cnt k) else none:=by
  unfold plL
  by_cases h:(k:Int)<n
  · rw [if_pos h,List.getElem?_map,List.getElem?_range (by omega)];rfl
  · rw [if_neg h];simp;omega
theorem WO{ln':Int->Int}{pt':Int->Int->Int}{cnt':Int->Int}(h:∀k,0<=k->k<n->ln k=ln' k/\cnt k=cnt' k/\∀j,0<=j->j<ln k->pt k j=pt' k j):plL n ln pt cnt=plL n ln' pt' cnt':=by
  apply List.ext_getElem?
  intro k
  rw [plL_get,plL_get]
  by_cases hk:(k:Int)<n
  · obtain⟨h1,h2,h3⟩:=h k (by omega) hk
    rw [if_pos hk,if_pos hk,h2,<-h1,ZI h3]
  · rw [if_neg hk,if_neg hk]
theorem XE{i:Int}(i0:0<=i):plL (i+1) ln pt cnt=plL i ln pt cnt++ [(lst (ln i) (pt i),cnt i)]:=by
  unfold plL
  rw [show(i+1).toNat=i.toNat+1 by omega,List.range_succ,List.map_append,List.map_singleton,Int.toNat_of_nonneg i0]
theorem Vs{ln':Int->Int}{pt':Int->Int->Int}{cnt':Int->Int}(n0:0<=n)(h:∀k,0<=k->k<n->ln' k=ln k/\cnt' k=cnt k/\pt' k=pt k){l c:Int}{p:Int->Int}(h1:ln' n=l)(h2:cnt' n=c)(h3:pt' n=p):plL (n+1) ln' pt' cnt'=plL n ln pt cnt++ [(lst l p,c)]:=by
  rw [XE n0,h1,h2,h3]
  congr 1
  exact WO fun k k0 k1=>⟨(h k k0 k1).1,(h k k0 k1).2.1,fun j _ _=>by rw [(h k k0 k1).2.2]⟩
def Xv:Us->List Int×Int->Us
  | [],u=> [u]
  |v::r,u=>if v.1=u.1 then(v.1,v.2+u.2)::r else v::Xv r u
def XR(l:Us):Us:=l.foldl Xv []
theorem ZaB:∀{a:Us} {u:List Int×Int},(∀v∈a,v.1≠u.1)->Xv a u=a++ [u]
  | [],_,_=>rfl
  | v::r,u,h=>by
    rw [Xv,if_neg (h v (by simp)),ZaB fun w hw=>h w (by simp [hw])];rfl
theorem Zce:∀{a:Us} {u:List Int×Int} {j:Nat} {v:List Int×Int},a[j]? =some v->v.1=u.1->(∀k<j,∀w,a[k]? =some w->w.1≠u.1)->Xv a u=a.set j (v.1,v.2+u.2)
  | [],_,_,_,h,_,_=>by simp at h
  | w::r,u,0,v,h,e,_=>by
    simp at h;subst h
    rw [Xv,if_pos e];rfl
  | w::r,u,j+1,v,h,e,hk=>by
    simp at h
    rw [Xv,if_neg (hk 0 (by omega) w (by simp)),Zce h e fun k hk' x hx=>hk (k+1) (by omega) x (by simpa using hx)];rfl
theorem Ua:∀{a:Us} {u:List Int×Int},∀x∈Xv a u,x.1=u.1\/∃y∈a,y.1=x.1
  | [],u,x,h=>by simp [Xv] at h;exact .inl (by rw [h])
  | v ::r,u,x,h=>by
    rw [Xv] at h
    split at h
    · rcases List.mem_cons.1 h with h|h
      · right;exact⟨v,by simp,by rw [h]⟩
      · right;exact⟨x,by simp [h],rfl⟩
    · rcases List.mem_cons.1 h with h|h
      · right;exact⟨v,by simp,by rw [h]⟩
      · rcases Ua x h with h|⟨y,hy,e⟩
        · exact .inl h
        · exact .inr ⟨y,by simp [hy],e⟩
theorem Rk:∀{a:Us} {u:List Int×Int},a.Pairwise (fun x y=>x.1≠y.1)->(Xv a u).Pairwise (fun x y=>x.1≠y.1)
  | [],u,_=>by simp [Xv]
  | v ::r,u,h=>by
    have h1:=List.pairwise_cons.1 h
    rw [Xv]
    split
    · exact List.pairwise_cons.2 ⟨h1.1,h1.2⟩
    · rename_i hne
      refine List.pairwise_cons.2 ⟨fun x hx=> ?_,Rk h1.2⟩
      rcases Ua x hx with e|⟨y,hy,e⟩
      · rw [e];exact hne
      · rw [<-e];exact h1.1 y hy
theorem U8:∀(l a:Us),a.Pairwise (fun x y=>x.1≠y.1)->(l.foldl Xv a).Pairwise (fun x y=>x.1≠y.1)
  | [],_,h=>h
  |u::l,a,h=>U8 l _ (Rk h)
theorem TK(l:Us):(XR l).Pairwise (fun x y=>x.1≠y.1):=U8 l [] .nil
theorem TI(l:Us)(u:List Int×Int):XR (l++ [u])=Xv (XR l) u:=by simp [XR]
theorem ZaA:∀{a:Us} {u:List Int×Int},(∀x∈a,1<=x.2)->1<=u.2->∀x∈Xv a u,1<=x.2
  | [],u,_,hu,x,h=>by simp [Xv] at h;rw [h];exact hu
  | v ::r,u,ha,hu,x,h=>by
    have hv:=ha v (by simp)
    rw [Xv] at h
    split at h
    · rcases List.mem_cons.1 h with h|h
      · rw [h];dsimp only;omega
      · exact ha x (by simp [h])
    · rcases List.mem_cons.1 h with h|h
      · rw [h];exact hv
      · exact ZaA (fun y hy=>ha y (by simp [hy])) hu x h
theorem T5:∀(l a:Us),(∀x∈a,1<=x.2)->(∀x∈l,1<=x.2)->∀x∈l.foldl Xv a,1<=x.2
  | [],_,h,_=>h
  |u::l,a,h,hl=>T5 l _ (ZaA h (hl u (by simp))) fun x hx=>hl x (by simp [hx])
theorem Zc6{l:Us}(h:∀x∈l,1<=x.2):∀x∈XR l,1<=x.2:=T5 l [] (by simp) h
def wsum(f:List Int->Int):Us->Int
  | []=>0
  |u::l=>f u.1*u.2+wsum f l
theorem YF(f:List Int->Int):∀a b:Us,wsum f (a++b)=wsum f a+wsum f b
  | [],b=>by simp [wsum]
  |u::a,b=>by simp only [List.cons_append,wsum,YF f a b];omega
theorem TC(f:List Int->Int):∀(a:Us) (u:List Int×Int),wsum f (Xv a u)=wsum f a+f u.1*u.2
  | [],u=>by simp [Xv,wsum]
  | v ::r,u=>by
    rw [Xv]
    split
    · rename_i e
      simp only [wsum,e,Int.mul_add];omega
    · simp only [wsum,TC f r u];omega
theorem UI(f:List Int->Int):∀(l a:Us),wsum f (l.foldl Xv a)=wsum f a+wsum f l
  | [],a=>by simp [wsum]
  |u::l,a=>by rw [List.foldl_cons,UI f l,TC,wsum];omega
theorem Zci(f:List Int->Int)(l:Us):wsum f (XR l)=wsum f l:=by rw [XR,UI];simp [wsum]
theorem Zcj(f:List Int->Int){a b:Us}(h:a.Perm b):wsum f a=wsum f b:=by
  induction h with
  |nil=>rfl
  |cons x _ ih=>simp only [wsum,ih]
  |swap x y l=>simp only [wsum];omega
  |trans _ _ i1 i2=>rw [i1,i2]
def NormR(l out:Us):Prop:=out.Perm (XR l)/\out.Pairwise (fun u v=>ahd u.1 v.1)
theorem NormR.same{l a b:Us}(h:NormR l a)(k:NormR l b):a=b:=
  (h.1.trans k.1.symm).eq_of_pairwise (le:=fun u v=>ahd u.1 v.1) (fun x y _ _ h1 h2=>absurd h2 (ahd_asym h1)) h.2 k.2
theorem NormR.wsum{l a:Us}(h:NormR l a)(f:List Int->Int):wsum f a=wsum f l:=(Zcj f h.1).trans (Zci f l)
theorem NormR.pos{l a:Us}(h:NormR l a)(hp:∀x∈l,1<=x.2):∀x∈a,1<=x.2:=fun x hx=>Zc6 hp x (h.1.mem_iff.1 hx)
theorem TJ:∀(l a:Us),∀x∈l.foldl Xv a,(∃y∈a,y.1=x.1)\/∃y∈l,y.1=x.1
  | [],a,x,h=> .inl ⟨x,h,rfl⟩
  | u ::l,a,x,h=>by
    rcases TJ l _ x h with⟨y,hy,e⟩|⟨y,hy,e⟩
    · rcases Ua y hy with e2|⟨z,hz,e2⟩
      · exact .inr ⟨u,by simp,by rw [<-e2,e]⟩
      · exact .inl ⟨z,hz,by rw [e2,e]⟩
    · exact .inr ⟨y,by simp [hy],e⟩
theorem NormR.keys{l a:Us}(h:NormR l a):∀x∈a,∃y∈l,y.1=x.1:=fun x hx=>by
  rcases TJ l [] x (h.1.mem_iff.1 hx) with⟨y,hy,_⟩|h
  · simp at hy
  · exact h
theorem U3 {α:Type} {t:Int->Int} (n0:0<=n) (h:PermOn 0 n (fun k=>k) t) (G:Int->α):((List.range n.toNat).map fun(i:Nat)=>G (t (i:Int))).Perm ((List.range n.toNat).map fun(i:Nat)=>G (i:Int)):=by
  have h1:((List.range n.toNat).map fun(i:Nat)=>t (i:Int)).Perm ((List.range n.toNat).map fun(i:Nat)=>(i:Int)):=by
    obtain⟨p,q,e1,e2,e3⟩:=h
    refine(List.perm_ext_iff_of_nodup ?_ ?_).2 fun x=> ?_
    · refine List.pairwise_map.2 (List.Pairwise.imp (R:=fun a b=>a≠b) (fun {a b} hab hh=> ?_) List.nodup_range)
      rw [e3,e3] at hh
      have:=congrArg q hh
      simp only [(e1 _).2] at this
      omega
    · exact List.pairwise_map.2 (List.Pairwise.imp (R:=fun a b=>a≠b) (fun {a b} hab hh=>by omega) List.nodup_range)
    · simp only [List.mem_map,List.mem_range]
      constructor
      · rintro⟨a,ha,rfl⟩
        obtain⟨j,j0,j1,j2⟩:=PermOn.fr (a:=fun k=>k) (b:=t) ⟨p,q,e1,e2,e3⟩ (show(0:Int)<=(a:Int) by omega) (show(a:Int)<n by omega)
        exact⟨j.toNat,by omega,by rw [j2];omega⟩
      · rintro⟨a,ha,rfl⟩
        obtain⟨j,j0,j1,j2⟩:=PermOn.fr (PermOn.symm (a:=fun k=>k) (b:=t) ⟨p,q,e1,e2,e3⟩) (show(0:Int)<=(a:Int) by omega) (show(a:Int)<n by omega)
        exact⟨j.toNat,by omega,by rw [Int.toNat_of_nonneg j0,<-j2]⟩
  have h2:=h1.map G
  simpa [List.map_map,Function.comp_def] using h2
theorem Zfc(f:Int->List Int):Swo (fun x y=>ahd (f x) (f y)):=
  ⟨fun x y h=>ahd_asym h,fun x y z h k=>WW h k,fun x y z h k hh=>by
    by_cases e:f x=f y
    · rw [e] at hh;exact k hh
    · rcases Kh e with h1|h1
      · exact h h1
      · exact k (WW h1 hh)⟩
theorem NormR.of_names {l:Us} {t:Int->Int} (n0:0<=n) (hs:plL n ln pt cnt=XR l) (hp:PermOn 0 n (fun k=>k) t) (ho:Srt (Tie (fun x y=>ahd (lst (ln x) (pt x)) (lst (ln y) (pt y)))) 0 n t):
    NormR l (plL n (fun k=>ln (t k)) (fun k=>pt (t k)) (fun k=>cnt (t k))):=by
  refine⟨?_,?_⟩
  · rw [<-hs]
    exact U3 n0 hp fun x=>(lst (ln x) (pt x),cnt x)
  · rw [List.pairwise_iff_getElem]
    intro i j hi hj hij
    rw [plL_len] at hi hj
    have g:∀(k:Nat) (hk:k<(plL n (fun k=>ln (t k)) (fun k=>pt (t k)) (fun k=>cnt (t k))).length),(plL n (fun k=>ln (t k)) (fun k=>pt (t k)) (fun k=>cnt (t k)))[k]=(lst (ln (t k)) (pt (t k)),cnt (t k)):=fun k hk=>by
      have h1:=plL_get n (fun k=>ln (t k)) (fun k=>pt (t k)) (fun k=>cnt (t k)) k
      rw [plL_len] at hk
      rw [if_pos (by omega),List.getElem?_eq_getElem (by rw [plL_len];exact hk)] at h1
      injection h1
    rw [g,g]
    have h1:=ho i j (by omega) (by omega) (by omega)
    rcases h1 with h1|⟨h1,h2⟩
    · exact h1
    · obtain⟨a,a0,a1,a2⟩:=hp.fr (show(0:Int)<=(i:Int) by omega) (show(i:Int)<n by omega)
      obtain⟨b,b0,b1,b2⟩:=hp.fr (show(0:Int)<=(j:Int) by omega) (show(j:Int)<n by omega)
      have hd:=TK l
      rw [<-hs,List.pairwise_iff_getElem] at hd
      have gg:∀(k:Int) (k0:0<=k) (hk:k<n),∃h:k.toNat<(plL n ln pt cnt).length,(plL n ln pt cnt)[k.toNat]=(lst (ln k) (pt k),cnt k):=fun k k0 hk=>by
        have h1:=plL_get n ln pt cnt k.toNat
        have h3:k.toNat<(plL n ln pt cnt).length:=by rw [plL_len];omega
        rw [Int.toNat_of_nonneg k0,if_pos hk,List.getElem?_eq_getElem h3] at h1
        exact⟨h3,by injection h1⟩
      have hab:a≠b:=fun e=>by rw [<-a2,<-b2] at*;omega
      obtain⟨ha,ea⟩:=gg a a0 a1
      obtain⟨hb,eb⟩:=gg b b0 b1
      have hne:lst (ln a) (pt a)≠lst (ln b) (pt b):=by
        rcases Int.lt_or_gt_of_ne hab with h3|h3
        · have:=hd a.toNat b.toNat ha hb (by omega);rw [ea,eb] at this;exact this
        · have:=hd b.toNat a.toNat hb ha (by omega);rw [ea,eb] at this;exact fun e=>this e.symm
      rcases Kh hne with h3|h3
      · dsimp only at a2 b2⊢;rw [a2,b2];exact h3
      · exact absurd (by dsimp only at a2 b2⊢;rw [a2,b2];exact h3) h1
end Go.Proofs.Gw
namespace Go.Proofs.Gw
open Go Go.RowKit
section
variable {P:Program} {L:List (Nat×Value)} {w w0:World} {o:Oper} {x y:Operand} {T T':TypeId} {l:List Ent}
theorem Uc{m r:Int}(ho:o.op= .binOp .shr T x y T':=by exact rfl)(hx:evL L x=some (.int .u64 m):=by exact rfl)(hy:evL L y=some (.int .u64 1):=by exact rfl)(e:r=m/2:=by exact rfl):Runs P L w o (.value (.int .u64 r)) w:=fun ρ h=>by
  subst e
  simp [execOp,ho,h _ _ hx,h _ _ hy,go_sem]
theorem Zem(v:Value)(k:Int)(h0:0<=k):(cad v k).add 1=cad v (k+1)\/∀a len cap,v≠ .slice (some a) len cap:=by
  cases v with
  | slice a len cap=>cases a with
    |none=>right;intro a len cap h;cases h
    | some a=>
      left
      have:(k+1).toNat=k.toNat+1:=by omega
      simp [cad,Addr.add,this,Nat.add_assoc]
  |_=>right;intro a len cap h;cases h
theorem xso2 (j:Nat) {v u0 u1:Value} {E:TypeId} {n k:Int} {c d:Int->Value} (ht:ZF P T=some 2) (hS:Sat w0 w l) (e:upd (upd c k u0) (k+1) u1=d) (ho:o.op= .store T x y:=by exact rfl) (hi:l[j]? =some (.own v 2 E n c):=by exact rfl) (hx:evL L x=some (.pointer (some (cad v k))):=by exact rfl) (hy:evL L y=some (.agg #[u0,u1]):=by exact rfl)
    (hv:u0.oneCell'=true:=by exact rfl) (hu:u1.oneCell'=true:=by exact rfl) (h0:0<=k:=by omega) (h1:k+1<n*2:=by omega):∃w',Runs P L w o .skip w'/\Sat w0 w' (l.set j (.own v 2 E n d)):=by
  subst e
  obtain⟨_,hsz⟩:=Xw (w:=w) ht
  have hS':=hS
  rw [Yc hi] at hS'
  have hr0:=hS'.get.row
  have dr:(cad v k).add 1=cad v (k+1):=by
    rcases Zem v k h0 with h|h
    · exact h
    · exfalso
      obtain⟨q0,q1,a,cap,rfl,hz⟩:=hr0.slh
      rcases hz with hz|⟨b,off,rfl⟩
      · omega
      · exact h _ _ _ rfl
  have eM:(cad v k).add 0=cad v k:=by simp [Addr.add]
  have c0:=hr0.cell h0 (by omega)
  have f0:w.frozen? (cad v k)=false:=by
    rcases hS'.get.freeRow k with h|h
    · exact absurd h (by
        obtain⟨q0,q1,a,cap,rfl,hz⟩:=hr0.slh
        rcases hz with hz|⟨b,off,rfl⟩
        · omega
        · intro hh;cases hh)
    · exact h
  have hS1:=hS'.setOwn k h0 (by omega) u0
  have hr1:=hS1.get.row
  have c1:=hr1.cell (k:=k+1) (by omega) (by omega)
  have f1:(w.setCell (cad v k) u0).frozen? (cad v (k+1))=false:=by
    rcases hS1.get.freeRow (k+1) with h|h
    · exact absurd h (by
        obtain⟨q0,q1,a,cap,rfl,hz⟩:=hr0.slh
        rcases hz with hz|⟨b,off,rfl⟩
        · omega
        · intro hh;cases hh)
    · exact h
  have hS2:=hS1.setOwn (k+1) (by omega) (by omega) u1
  rw [YL hi]
  refine⟨_,fun ρ h=> ?_,hS2⟩
  simp [execOp,ho,h _ _ hx,h _ _ hy,Instr.storeAt,Instr.sureAddr,storeVar,Value.cells,hsz,storeCells,eM,dr,run_store P w _ u0 _ hv,c0,f0,run_store P _ _ u1 _ hu,c1,f1]
end
theorem XI(pv:Int->Value)(cnt:Int->Int){i k:Int}(s:Value)(x:Int)(h:k=2*i):upd (upd (Zd pv cnt) k s) (k+1) (.int .i64 x)=Zd (fun q=>if q=i then s else pv q) (fun q=>if q=i then x else cnt q):=by
  subst h
  funext q
  unfold upd Zd
  by_cases h1:q=2*i+1
  · subst h1;rw [if_pos rfl,if_neg (by omega)];dsimp only;rw [if_pos (by omega)]
  · rw [if_neg h1]
    by_cases h2:q=2*i
    · subst h2;rw [if_pos rfl,if_pos (by omega)];dsimp only;rw [if_pos (by omega)]
    · rw [if_neg h2]
      by_cases h3:q%2=0
      · rw [if_pos h3,if_pos h3];dsimp only;rw [if_neg (by omega)]
      · rw [if_neg h3,if_neg h3];dsimp only;rw [if_neg (by omega)]
theorem Wc(pv:Int->Value)(cnt s:Int->Int)(i j:Int):Zd (fun q=>if q=j then pv (s i) else(fun q=>if q=i then pv (s j) else(fun k=>pv (s k)) q) q) (fun q=>if q=j then cnt (s i) else(fun q=>if q=i then cnt (s j) else(fun k=>cnt (s k)) q) q)=Zd (fun k=>pv (swp s i j k)) (fun k=>cnt (swp s i j k)):=by
  congr 1
  · funext q;unfold swp;dsimp only
    by_cases h1:q=j
    · rw [if_pos h1]
      by_cases h2:q=i
      · rw [if_pos h2];congr 2;omega
      · rw [if_neg h2,if_pos h1]
    · rw [if_neg h1]
      by_cases h2:q=i
      · rw [if_pos h2,if_pos h2]
      · rw [if_neg h2,if_neg h2,if_neg h1]
  · funext q;unfold swp;dsimp only
    by_cases h1:q=j
    · rw [if_pos h1]
      by_cases h2:q=i
      · rw [if_pos h2];congr 2;omega
      · rw [if_neg h2,if_pos h1]
    · rw [if_neg h1]
      by_cases h2:q=i
      · rw [if_pos h2,if_pos h2]
      · rw [if_neg h2,if_neg h2,if_neg h1]
theorem Vy(s:Int->Int)(i j:Int):upd (upd (ints s) i (.int .i64 (s j))) j (.int .i64 (s i))=ints (swp s i j):=by
  funext q;unfold upd ints swp
  by_cases h1:q=j
  · rw [if_pos h1]
    by_cases h2:q=i
    · rw [if_pos h2];congr 2;omega
    · rw [if_neg h2,if_pos h1]
  · rw [if_neg h1]
    by_cases h2:q=i
    · rw [if_pos h2,if_pos h2]
    · rw [if_neg h2,if_neg h2,if_neg h1]
theorem PermOn.inj{lo hi:Int}{t:Int->Int}(h:PermOn lo hi (fun k=>k) t){i j:Int}(e:t i=t j):i=j:=by
  obtain⟨p,q,e1,e2,e3⟩:=h
  rw [e3,e3] at e
  have:=congrArg q e
  rwa [(e1 _).2,(e1 _).2] at this
theorem Sat.pmrows{w0 w:World}{l:List Ent}(h:Sat w0 w l)(i:Nat){E:TypeId}{n:Int}{vv:Int->Value}{ln:Int->Int}{f:Int->Int->Int}{t:Int->Int}(hp:PermOn 0 n (fun k=>k) t)(hi:l[i]? =some (.sem (Frame.rows E n vv ln f)):=by exact rfl):
    Sat w0 w (l.set i (.sem (Frame.rows E n (fun k=>vv (t k)) (fun k=>ln (t k)) (fun k=>f (t k))))):=
  h.resem i hi (fun⟨h1,h2⟩=>⟨fun k k0 k1=>by
      obtain⟨j,j0,j1,j2⟩:=hp.fr k0 k1
      have e:t k=j:=j2
      show(Ent.own (vv (t k)) 1 E (ln (t k)) (ints (f (t k)))).holds w
      rw [e];exact h1 j j0 j1,fun a b a0 a1 b0 b1 hab g hg hg'=>by
      obtain⟨j,j0,j1,j2⟩:=hp.fr a0 a1
      obtain⟨k,k0,k1,k2⟩:=hp.fr b0 b1
      exact h2 (t a) (t b) (by rw [j2];exact j0) (by rw [j2];exact j1) (by rw [k2];exact k0) (by rw [k2];exact k1) (fun e=>hab (hp.inj e)) g hg hg'⟩)
    (fun g ⟨a,a0,a1,hg⟩=>by
      obtain⟨j,j0,j1,j2⟩:=hp.fr a0 a1
      exact⟨t a,by rw [j2];exact j0,by rw [j2];exact j1,hg⟩)
theorem XO{f:Int->Value}{n:Int}{x:Value}(h:∀k,(f k).oneCell'=true)(hx:x.oneCell'=true):∀k,(gsn f n x k).oneCell'=true:=fun k=>by
  unfold gsn;split
  · exact h k
  · exact hx
end Go.Proofs.Gw
