import Derived.Test.YtopmifmfecfaaaaGreatRpAB
set_option linter.unusedVariables false
set_option linter.unusedSimpArgs false
set_option maxRecDepth 20000
set_option maxHeartbeats 4000000
namespace Go.Proofs.YtopmifmfecfaaaaGreat
open Go Go.RowKit Go.Proofs.Gw
variable {vq vv:Int->Value} {t:Tb} {vA vB vC vF vb vc:Value}
theorem Zir:Zc Tryz.prog 124=true:=by kernel_rfl
theorem Ziq:Zc Tryz.prog 125=true:=by kernel_rfl
theorem Zip:Zc Tryz.prog 126=true:=by kernel_rfl
theorem Zh3:Zc Tryz.prog 158=true:=by kernel_rfl
theorem Zh2:Zc Tryz.prog 159=true:=by kernel_rfl
theorem Zh1:Zc Tryz.prog 160=true:=by kernel_rfl
theorem Tm:Zc Tryz.prog 175=true:=by kernel_rfl
theorem Zec:Zc Tryz.prog 176=true:=by kernel_rfl
theorem ZhP:Zc Tryz.prog 177=true:=by kernel_rfl
theorem ZhO:Zc Tryz.prog 178=true:=by kernel_rfl
theorem YD:Z0 Tryz.prog 175=some (.agg #[.int .i64 0,.int .i64 0,.slice none 0 0,.slice none 0 0,.slice none 0 0],5,88):=by kernel_rfl
theorem WA:Z0 Tryz.prog 36=some (.agg #[.slice none 0 0,.slice none 0 0,.int .i64 0,.int .i64 0],4,64):=by kernel_rfl
theorem ZjA:Z0 Tryz.prog 4=some (.bool false,1,1):=by kernel_rfl
theorem fd_134_0:Zz Tryz.prog 134 0=some 0:=by kernel_rfl
theorem fd_134_1:Zz Tryz.prog 134 1=some 1:=by kernel_rfl
theorem fd_134_2:Zz Tryz.prog 134 2=some 2:=by kernel_rfl
theorem fd_175_0:Zz Tryz.prog 175 0=some 0:=by kernel_rfl
theorem fd_175_1:Zz Tryz.prog 175 1=some 1:=by kernel_rfl
theorem fd_175_2:Zz Tryz.prog 175 2=some 2:=by kernel_rfl
theorem fd_175_3:Zz Tryz.prog 175 3=some 3:=by kernel_rfl
theorem fd_175_4:Zz Tryz.prog 175 4=some 4:=by kernel_rfl
theorem fd_36_0:Zz Tryz.prog 36 0=some 0:=by kernel_rfl
theorem fd_36_1:Zz Tryz.prog 36 1=some 1:=by kernel_rfl
theorem fd_36_2:Zz Tryz.prog 36 2=some 2:=by kernel_rfl
theorem fd_36_3:Zz Tryz.prog 36 3=some 3:=by kernel_rfl
theorem Zfl:Z6 Tryz.prog 4=true:=by kernel_rfl
theorem VU:ZJ Tryz.prog 162=some (4,1):=by kernel_rfl
theorem UQ:ZF Tryz.prog 134=some 3:=by kernel_rfl
theorem Zx:ZF Tryz.prog 175=some 5:=by kernel_rfl
theorem st_36:ZF Tryz.prog 36=some 4:=by kernel_rfl
theorem Zey{p:Lp}(w0:World)(hL:LAt w0 vc vA vb vq p):
    Calls Tryz.prog 158 [.agg #[vc,vA,vb]].toArray w0 fun e w=>∃v,e= .returned v/\v=B (LOk p)/\Sat w0 w []:=by
  have hn:=hL.c.slh.n0;have hn1:=hL.c.slh.n1;have hm:=hL.A.row.slh.n0;have hm1:=hL.A.row.slh.n1;have hk:=hL.b.slh.n0;have hk1:=hL.b.slh.n1
  refine Zm Tryz.func158 Tryz.ntmps158 fun w hS=> ?_
  refine zsr<|zla (xbx (cs:= [_,_,_]) hS) ?_;rintro _ w ⟨g1,rfl,hS⟩
  refine(zP)<|zx5<|(zP)<|zx6<|zlp (fun mm M w=>∃(i:Int),mm=((p.m-i).toNat)/\(0<=i)/\(i<=p.m)/\(∀k,0<=k->k<i->p.ln k=p.n/\∀j,0<=j->j<p.n-> -1000000<=p.A k j/\p.A k j<=1000000)/\M= [(1,.pointer (some ⟨g1,0,none⟩)),(3,.int .i64 i)]/\Sat w0 w [.blk g1 [vc,vA,vb]]) ⟨0,rfl,(by omega),(by omega),?_,rfl,hS⟩ ?_
  ·
   intro k k0 k1;omega
  clear hS w
  rintro mm M w ⟨i,rfl,h0,h1,qa,rfl,hS⟩
  refine zx11<|(zP)<|(zV (xfb 1 fd_134_1))<|(zV (xlb 0 Zu hS))<|(zV (xln Zi hL.A.row.slh))<|(zP)<|zlt<|Ze ?_ ?_<;>intro hc
  ·
   refine zx27<|zdst [0] [0] 1000 mx_ hS ?_;clear hS;intro w hS
   refine(zDw 0 (xfb 1 fd_134_1))<|(zDl 1 (fun w hS=>(xlb 0 Zu hS)))<|(zDw 2 xmv)<|(zDw 3 (xix (kk:=i) Zi hL.A.row.slh))<|(zDl 4 (fun w hS=>(xlr (u:=(vq i)) pl_22 (hL.A.row.below hS.below))))<|(zDw 5 (xln Zb (hL.A.p i (by omega) (by omega)).slh))<|(zDw 6 (xfb 0 fd_134_0))<|(zDl 7 (fun w hS=>(xlb 0 pl_22 hS)))<|(zDw 8 (xln Zb hL.c.slh))<|(zDw 9 YN)<|(zDw 10 xmv)<|zdb 21 ?_ ?_<;>intro hc
   ·
    refine(zDo 11)<|(zDo 12)<|(zDo 13)<|(zDo 14)<|(zDo 15)<|(zDo 16)<|(zDo 17)<|(zDw 18 xpt)<|zdd<|ztn<|zct<|zsr ?_
    refine(zP)<|zx2<|zf1 ⟨_,rfl,?_⟩
    exact⟨false_B (by intro hl;have b1:=hl.n1;have b2:=hl.n2;have b3:=hl.m2;have b4:=hl.k;first|omega|exact absurd (fun j j0 j1=>by have:=hl.c j j0 j1;omega) ‹¬∀k,0<=k->k<p.n->0<=p.c k/\p.c k<=1000000›|(have:=(hl.rows i h0 (by omega)).1;omega)|exact absurd (fun j j0 j1=>(hl.rows i h0 (by omega)).2 j j0 (by have:=(hl.rows i h0 (by omega)).1;omega)) ‹¬∀k,0<=k->k<p.ln i-> -1000000<=p.A i k/\p.A i k<=1000000›),hS.nl⟩
   refine(zDw 11 (xfb 1 fd_134_1))<|(zDl 12 (fun w hS=>(xlb 0 Zu hS)))<|(zDw 13 xmv)<|(zDw 14 (xix (kk:=i) Zi hL.A.row.slh))<|(zDl 15 (fun w hS=>(xlr (u:=(vq i)) pl_22 (hL.A.row.below hS.below))))<|zdc 16 (xc0 Tm) (WB (n:=(p.ln i)) (lo:=(-1000000)) (hi:=1000000) (f:=(p.A i)) w ((hL.A.p i (by omega) (by omega)).below hS.below)) ?_;rintro _ w ⟨rfl,hS'⟩
   replace hS:=hS.cmp hS';clear hS'
   refine⟨⟨fun _=>hS,hS⟩,?_⟩
   refine(zDw 17 YK)<|(zDw 18 xpf)<|zdd<|ztn ?_
   refine Ze ?_ ?_<;>intro hc
   ·
    refine zsr<|(zP)<|zx2<|zf1 ⟨_,rfl,?_⟩
    exact⟨false_B (by intro hl;have b1:=hl.n1;have b2:=hl.n2;have b3:=hl.m2;have b4:=hl.k;first|omega|exact absurd (fun j j0 j1=>by have:=hl.c j j0 j1;omega) ‹¬∀k,0<=k->k<p.n->0<=p.c k/\p.c k<=1000000›|(have:=(hl.rows i h0 (by omega)).1;omega)|exact absurd (fun j j0 j1=>(hl.rows i h0 (by omega)).2 j j0 (by have:=(hl.rows i h0 (by omega)).1;omega)) ‹¬∀k,0<=k->k<p.ln i-> -1000000<=p.A i k/\p.A i k<=1000000›),hS.nl⟩
   refine zx4<|(zP)<|(zV (Zf (r:=i+1)))<|(zP)<|zln<|zlq ⟨i+1,rfl,(by omega),(by omega),?_,rfl,hS⟩
   ·
    have hq:∀k,0<=k->k<p.ln i-> -1000000<=p.A i k/\p.A i k<=1000000:=by first|assumption|exact Classical.not_not.1 ‹_›
    intro k h0' h1';rcases Int.lt_or_eq_of_le (show k<=i by omega) with hk|hk;exact qa k h0' hk;rw [hk];exact⟨by omega,fun j j0 j1=>hq j j0 (by omega)⟩
  refine zx8<|(zV (xfb 0 fd_134_0))<|(zV (xlb 0 pl_22 hS))<|(zV (xln Zb hL.c.slh))<|(zP)<|(zP)<|zlb 34 ?_ ?_<;>intro hc
  ·
   refine(zV (xfb 0 fd_134_0))<|(zV (xlb 0 pl_22 hS))<|(zV (xln Zb hL.c.slh))<|(zP)<|(zP)<|(zP)<|zlb 40 ?_ ?_<;>intro hc
   ·
    refine(zV (xfb 1 fd_134_1))<|(zV (xlb 0 Zu hS))<|(zV (xln Zi hL.A.row.slh))<|(zP)<|(zP)<|(zP)<|zlb 46 ?_ ?_<;>intro hc
    ·
     refine(zV (xfb 2 fd_134_2))<|(zV (xlb 0 pl_22 hS))<|(zV (xln Zb hL.b.slh))<|(zV (xfb 1 fd_134_1))<|(zV (xlb 0 Zu hS))<|(zV (xln Zi hL.A.row.slh))<|(zP)<|(zP)<|(zP)<|zlb 55 ?_ ?_<;>intro hc
     ·
      refine(zV (xfb 0 fd_134_0))<|(zV (xlb 0 pl_22 hS))<|zlc (xc0 Tm) (WB (n:=p.n) (lo:=0) (hi:=1000000) (f:=p.c) w (hL.c.below hS.below)) ?_;rintro _ w ⟨rfl,hS'⟩
      replace hS:=hS.cmp hS';clear hS'
      refine(zP)<|(zP)<|zlb 60 ?_ ?_<;>intro hc
      ·
       refine(zV (xfb 2 fd_134_2))<|(zV (xlb 0 pl_22 hS))<|zlc (xc0 Tm) (WB (n:=p.k) (lo:=(-1000000)) (hi:=1000000) (f:=p.b) w (hL.b.below hS.below)) ?_;rintro _ w ⟨rfl,hS'⟩
       replace hS:=hS.cmp hS';clear hS'
       refine(zP)<|(zP)<|zx1<|zf1 ⟨_,rfl,?_⟩
       exact⟨ZA ⟨fun hx=>⟨by omega,by omega,by omega,by omega,‹∀k,0<=k->k<p.n->0<=p.c k/\p.c k<=1000000›,fun k k0 k1=>hx k k0 (by omega),fun k k0 k1=>qa k k0 (by omega)⟩,fun hl k k0 k1=>hl.b k k0 (by have:=hl.k;omega)⟩,hS.nl⟩
      iterate 3 refine zlo ?_
      refine(zP)<|(zP)<|zx1<|zf1 ⟨_,rfl,?_⟩
      exact⟨false_B (by intro hl;have b1:=hl.n1;have b2:=hl.n2;have b3:=hl.m2;have b4:=hl.k;first|omega|exact absurd (fun j j0 j1=>by have:=hl.c j j0 j1;omega) ‹¬∀k,0<=k->k<p.n->0<=p.c k/\p.c k<=1000000›|(have:=(hl.rows i h0 (by omega)).1;omega)|exact absurd (fun j j0 j1=>(hl.rows i h0 (by omega)).2 j j0 (by have:=(hl.rows i h0 (by omega)).1;omega)) ‹¬∀k,0<=k->k<p.ln i-> -1000000<=p.A i k/\p.A i k<=1000000›),hS.nl⟩
     iterate 3 refine zlo ?_
     refine zs2 ?_
     iterate 3 refine zlo ?_
     refine(zP)<|(zP)<|zx1<|zf1 ⟨_,rfl,?_⟩
     exact⟨false_B (by intro hl;have b1:=hl.n1;have b2:=hl.n2;have b3:=hl.m2;have b4:=hl.k;first|omega|exact absurd (fun j j0 j1=>by have:=hl.c j j0 j1;omega) ‹¬∀k,0<=k->k<p.n->0<=p.c k/\p.c k<=1000000›|(have:=(hl.rows i h0 (by omega)).1;omega)|exact absurd (fun j j0 j1=>(hl.rows i h0 (by omega)).2 j j0 (by have:=(hl.rows i h0 (by omega)).1;omega)) ‹¬∀k,0<=k->k<p.ln i-> -1000000<=p.A i k/\p.A i k<=1000000›),hS.nl⟩
    iterate 7 refine zlo ?_
    refine zs2 ?_
    iterate 3 refine zlo ?_
    refine zs2 ?_
    iterate 3 refine zlo ?_
    refine(zP)<|(zP)<|zx1<|zf1 ⟨_,rfl,?_⟩
    exact⟨false_B (by intro hl;have b1:=hl.n1;have b2:=hl.n2;have b3:=hl.m2;have b4:=hl.k;first|omega|exact absurd (fun j j0 j1=>by have:=hl.c j j0 j1;omega) ‹¬∀k,0<=k->k<p.n->0<=p.c k/\p.c k<=1000000›|(have:=(hl.rows i h0 (by omega)).1;omega)|exact absurd (fun j j0 j1=>(hl.rows i h0 (by omega)).2 j j0 (by have:=(hl.rows i h0 (by omega)).1;omega)) ‹¬∀k,0<=k->k<p.ln i-> -1000000<=p.A i k/\p.A i k<=1000000›),hS.nl⟩
   iterate 4 refine zlo ?_
   refine zs2 ?_
   iterate 7 refine zlo ?_
   refine zs2 ?_
   iterate 3 refine zlo ?_
   refine zs2 ?_
   iterate 3 refine zlo ?_
   refine(zP)<|(zP)<|zx1<|zf1 ⟨_,rfl,?_⟩
   exact⟨false_B (by intro hl;have b1:=hl.n1;have b2:=hl.n2;have b3:=hl.m2;have b4:=hl.k;first|omega|exact absurd (fun j j0 j1=>by have:=hl.c j j0 j1;omega) ‹¬∀k,0<=k->k<p.n->0<=p.c k/\p.c k<=1000000›|(have:=(hl.rows i h0 (by omega)).1;omega)|exact absurd (fun j j0 j1=>(hl.rows i h0 (by omega)).2 j j0 (by have:=(hl.rows i h0 (by omega)).1;omega)) ‹¬∀k,0<=k->k<p.ln i-> -1000000<=p.A i k/\p.A i k<=1000000›),hS.nl⟩
  iterate 4 refine zlo ?_
  refine zs2 ?_
  iterate 4 refine zlo ?_
  refine zs2 ?_
  iterate 7 refine zlo ?_
  refine zs2 ?_
  iterate 3 refine zlo ?_
  refine zs2 ?_
  iterate 3 refine zlo ?_
  refine(zP)<|(zP)<|zx1<|zf1 ⟨_,rfl,?_⟩
  exact⟨false_B (by intro hl;have b1:=hl.n1;have b2:=hl.n2;have b3:=hl.m2;have b4:=hl.k;first|omega|exact absurd (fun j j0 j1=>by have:=hl.c j j0 j1;omega) ‹¬∀k,0<=k->k<p.n->0<=p.c k/\p.c k<=1000000›|(have:=(hl.rows i h0 (by omega)).1;omega)|exact absurd (fun j j0 j1=>(hl.rows i h0 (by omega)).2 j j0 (by have:=(hl.rows i h0 (by omega)).1;omega)) ‹¬∀k,0<=k->k<p.ln i-> -1000000<=p.A i k/\p.A i k<=1000000›),hS.nl⟩
theorem Zcd(t:Tb){k:Int}(k0:0<=k):(cat t.nb (cat 0 (fun _=>0) t.B) t.F) k=cat t.nb t.B t.F k:=by
  unfold cat;(repeat' split)<;>first|rfl|omega|(congr 1;omega)
theorem X8(hp:TPrp t)(hm:0<=t.nb):PermF (cat t.nb (cat 0 (fun _=>0) t.B) t.F) (t.nb+t.nf):=
  (TT (by have:=hp.n1;omega) hm hp.perm).congr fun k k0 _=>(Zcd t k0).symm
theorem Rh(w0:World)(hT:TAt w0 vB vF vC vv t):
    Calls Tryz.prog 176 [.agg #[.int .i64 t.vars,.int .i64 t.den,vB,vF,vC]].toArray w0 fun e w=>∃v,e= .returned v/\v=B (TPrp t)/\Sat w0 w []:=by
  have hn:=hT.F.slh.n0;have hn1:=hT.F.slh.n1;have hb:=hT.B.slh.n0;have hb1:=hT.B.slh.n1;have hc0:=hT.C.row.slh.n0;have hc1:=hT.C.row.slh.n1
  refine Zm Tryz.func176 Tryz.ntmps176 fun w hS=> ?_
  refine zsr<|zla (xbx (cs:= [_,_,_,_,_]) hS) ?_;rintro _ w ⟨g1,rfl,hS⟩
  refine(zP)<|zx7<|zdst [0] [0] 1000 mx_ hS ?_;clear hS;intro w hS
  refine(zDw 0 (xfb 2 fd_175_2))<|(zDl 1 (fun w hS=>(xlb 0 pl_22 hS)))<|(zDw 2 (xln Zb hT.B.slh))<|(zDw 3 (xfb 3 fd_175_3))<|(zDl 4 (fun w hS=>(xlb 0 pl_22 hS)))<|(zDw 5 (xln Zb hT.F.slh))<|(zDw 6 xas)<|(zDw 7 xas)<|zdd<|ztn<|zsq<|zsr ?_
  refine(zP)<|(zP)<|(zP)<|zlb 17 ?_ ?_<;>intro hc;rotate_left
  refine zs4 ?_
  refine zlb 21 ?_ ?_<;>intro hc;rotate_left
  refine zs4 ?_
  refine zlb 25 ?_ ?_<;>intro hc;rotate_left
  refine(zV (xfb 0 fd_175_0))<|(zV (xlb 0 pl_3 hS))<|zs4 ?_
  refine zlb 31 ?_ ?_<;>intro hc;rotate_left
  refine(zV (xfb 4 fd_175_4))<|(zV (xlb 0 Zu hS))<|(zV (xln Zi hT.C.row.slh))<|(zP)<|(zV (Zf (r:=t.nb+1)))<|(zP)<|(zP)<|(zP)<|zlb 39 ?_ ?_<;>intro hc;rotate_left
  refine(zV (xfb 1 fd_175_1))<|(zV (xlb 0 pl_3 hS))<|(zP)<|(zP)<|(zP)<|zlb 44 ?_ ?_<;>intro hc;rotate_left
  refine(zV (xfb 1 fd_175_1))<|(zV (xlb 0 pl_3 hS))<|(zP)<|(zP)<|zlt<|Ze ?_ ?_<;>intro hc
  ·
   refine zsr<|(zP)<|zx14<|zf1 ⟨_,rfl,?_⟩
   exact⟨false_B (by
    intro hp;have b1:=hp.n1;have b2:=hp.n2;have b3:=hp.m2;have b4:=hp.v;have b5:=hp.d1;have b6:=hp.d2;have b7:=hp.c;have b8:=X8 hp (by omega)
    first
    |omega
    |(have hr:=(hp.rows i h0 (by omega)).1;omega)
    |exact absurd (fun j j0 j1=>(hp.rows i h0 (by omega)).2 j j0 j1) ‹¬(∀k,0<=k->k<t.ln i-> -1073741824<=t.C i k/\t.C i k<=1073741824)›
    |(have:=b8.1 q q0 (by omega);omega)
    |(obtain⟨j,j0,j1,e⟩:=‹∃j,0<=j/\j<q/\(cat t.nb (cat 0 (fun _=>0) t.B) t.F) j=(cat t.nb (cat 0 (fun _=>0) t.B) t.F) q›;have:=b8.2 j q j0 (by omega) q0 (by omega) e;omega)),hS.nl⟩
  refine Xb<|(zP)<|zx6<|zlp (fun mm M w=>∃(i:Int),mm=((t.nc-i).toNat)/\(0<=i)/\(i<=t.nc)/\(∀k,0<=k->k<i->t.rowOk k)/\M= [(1,.pointer (some ⟨g1,0,none⟩)),(3,.int .i64 t.nb),(4,.int .i64 t.nf),(5,.int .i64 i)]/\Sat w0 w [.blk g1 [.int .i64 t.vars,.int .i64 t.den,vB,vF,vC]]) ⟨0,rfl,(by omega),(by omega),?_,rfl,hS⟩ ?_
  ·
   intro k k0 k1;omega
  clear hS w
  rintro mm M w ⟨i,rfl,h0,h1,qa,rfl,hS⟩
  refine zx11<|(zP)<|(zV (xfb 4 fd_175_4))<|(zV (xlb 0 Zu hS))<|(zV (xln Zi hT.C.row.slh))<|(zP)<|zlt<|Ze ?_ ?_<;>intro hc
  ·
   refine zx3<|(zV (xfb 4 fd_175_4))<|(zV (xlb 0 Zu hS))<|(zP)<|(zV (xix (kk:=i) Zi hT.C.row.slh))<|(zV (xlr (u:=(vv i)) pl_22 (hT.C.row.below hS.below)))<|(zV (xln Zb (hT.C.p i (by omega) (by omega)).slh))<|(zP)<|(zV (Zf (r:=t.nf+1)))<|(zP)<|(zP)<|zlb 65 ?_ ?_<;>intro hc
   ·
    iterate 7 refine zlo ?_
    refine(zP)<|zlt<|zct<|zsr ?_
    refine(zP)<|zx2<|zf1 ⟨_,rfl,?_⟩
    exact⟨false_B (by
     intro hp;have b1:=hp.n1;have b2:=hp.n2;have b3:=hp.m2;have b4:=hp.v;have b5:=hp.d1;have b6:=hp.d2;have b7:=hp.c;have b8:=X8 hp (by omega)
     first
     |omega
     |(have hr:=(hp.rows i h0 (by omega)).1;omega)
     |exact absurd (fun j j0 j1=>(hp.rows i h0 (by omega)).2 j j0 j1) ‹¬(∀k,0<=k->k<t.ln i-> -1073741824<=t.C i k/\t.C i k<=1073741824)›
     |(have:=b8.1 q q0 (by omega);omega)
     |(obtain⟨j,j0,j1,e⟩:=‹∃j,0<=j/\j<q/\(cat t.nb (cat 0 (fun _=>0) t.B) t.F) j=(cat t.nb (cat 0 (fun _=>0) t.B) t.F) q›;have:=b8.2 j q j0 (by omega) q0 (by omega) e;omega)),hS.nl⟩
   refine(zV (xfb 4 fd_175_4))<|(zV (xlb 0 Zu hS))<|(zP)<|(zV (xix (kk:=i) Zi hT.C.row.slh))<|(zV (xlr (u:=(vv i)) pl_22 (hT.C.row.below hS.below)))<|zlc (xc0 Tm) (WB (n:=(t.ln i)) (lo:=(-1073741824)) (hi:=1073741824) (f:=(t.C i)) w ((hT.C.p i (by omega) (by omega)).below hS.below)) ?_;rintro _ w ⟨rfl,hS'⟩
   replace hS:=hS.cmp hS';clear hS'
   refine(zP)<|(zP)<|zlt<|Ze ?_ ?_<;>intro hc
   ·
    refine zsr<|(zP)<|zx2<|zf1 ⟨_,rfl,?_⟩
    exact⟨false_B (by
     intro hp;have b1:=hp.n1;have b2:=hp.n2;have b3:=hp.m2;have b4:=hp.v;have b5:=hp.d1;have b6:=hp.d2;have b7:=hp.c;have b8:=X8 hp (by omega)
     first
     |omega
     |(have hr:=(hp.rows i h0 (by omega)).1;omega)
     |exact absurd (fun j j0 j1=>(hp.rows i h0 (by omega)).2 j j0 j1) ‹¬(∀k,0<=k->k<t.ln i-> -1073741824<=t.C i k/\t.C i k<=1073741824)›
     |(have:=b8.1 q q0 (by omega);omega)
     |(obtain⟨j,j0,j1,e⟩:=‹∃j,0<=j/\j<q/\(cat t.nb (cat 0 (fun _=>0) t.B) t.F) j=(cat t.nb (cat 0 (fun _=>0) t.B) t.F) q›;have:=b8.2 j q j0 (by omega) q0 (by omega) e;omega)),hS.nl⟩
   refine zx4<|(zP)<|(zV (Zf (r:=i+1)))<|(zP)<|zln<|zlq ⟨i+1,rfl,(by omega),(by omega),?_,rfl,hS⟩
   ·
    have hq:∀k,0<=k->k<t.ln i-> -1073741824<=t.C i k/\t.C i k<=1073741824:=by first|assumption|exact Classical.not_not.1 ‹_›
    intro k h0' h1';rcases Int.lt_or_eq_of_le (show k<=i by omega) with hk|hk;exact qa k h0' hk;rw [hk];exact⟨by omega,fun j j0 j1=>hq j j0 j1⟩
  refine zxt<|ztx<|ztx<|zbh<|ztn<|zsq<|zdst [0] [0] 1000 mx_ hS ?_;clear hS;intro w hS
  refine(zDw 1 (xfb 2 fd_175_2))<|(zDl 2 (fun w hS=>(xlb 0 pl_22 hS)))<|(zDw 4 (xfb 3 fd_175_3))<|(zDl 5 (fun w hS=>(xlb 0 pl_22 hS)))<|zda 0 (xl0 (c:=ints (fun _=>0)) Zb hS) ?_;rintro v1 w ⟨hS,hv1⟩
  refine⟨⟨fun _=>hS.pk [0],hS.pk [0]⟩,?_⟩
  refine zda 3 (xap 1 (r:=t.nb) (f:=ints (cat 0 (fun _=>0) t.B)) Zb Zn hS (hT.B.below hS.below) (by exact Zp _ _ _)) ?_;rintro v2 w ⟨hS,hv2⟩
  refine⟨⟨fun _=>hS.pk [0],hS.pk [0]⟩,?_⟩
  refine zda 6 (xap 1 (r:=t.nb+t.nf) (f:=ints (cat t.nb (cat 0 (fun _=>0) t.B) t.F)) Zb Zn hS (hT.F.below hS.below) (by exact Zp _ _ _)) ?_;rintro v3 w ⟨hS,hv3⟩
  refine⟨⟨fun _=>hS.pk [0],hS.pk [0]⟩,?_⟩
  refine(zDw 7 xas)<|zdd<|ztn<|zsr ?_
  refine(zP)<|(zP)<|(zV (Zf (r:=t.nb+t.nf)))<|zla (xmk VU ZjA hS) ?_;rintro v4 w ⟨hS,hv4⟩
  refine(zP)<|zx5<|(zP)<|zx6<|zlp (fun mm M w=>∃(cS:Int->Value) (q:Int),mm=((t.nb+t.nf-q).toNat)/\(0<=q)/\(q<=t.nb+t.nf)/\(∀k,0<=k->k<t.nb+t.nf->cS k=B (∃j,0<=j/\j<q/\(cat t.nb (cat 0 (fun _=>0) t.B) t.F) j=k))/\(∀k,0<=k->k<q->0<=(cat t.nb (cat 0 (fun _=>0) t.B) t.F) k/\(cat t.nb (cat 0 (fun _=>0) t.B) t.F) k<t.nb+t.nf)/\(∀k j,0<=k->k<q->0<=j->j<q->(cat t.nb (cat 0 (fun _=>0) t.B) t.F) k=(cat t.nb (cat 0 (fun _=>0) t.B) t.F) j->k=j)/\M= [(3,.int .i64 t.nb),(4,.int .i64 t.nf),(6,v3),(7,v4),(8,.int .i64 q)]/\Sat w0 w [.blk g1 [.int .i64 t.vars,.int .i64 t.den,vB,vF,vC],.own v3 1 3 (t.nb+t.nf) (ints (cat t.nb (cat 0 (fun _=>0) t.B) t.F)),.own v4 1 4 (t.nb+t.nf) cS]) ⟨(fun _=> .bool false),0,rfl,(by omega),(by omega),?_,?_,?_,rfl,hS⟩ ?_
  ·
   intro k k0 k1;exact(B_false (by rintro⟨j,j0,j1,_⟩;omega)).symm
  ·
   intro k k0 k1;omega
  ·
   intro k j k0 k1;omega
  clear hS w
  rintro mm M w ⟨cS,q,rfl,q0,q1,hcS,hrg,hin,rfl,hS⟩
  refine zx11<|(zP)<|(zP)<|(zV (xln Zb hv3))<|(zP)<|zlt<|Ze ?_ ?_<;>intro hc
  ·
   refine zsk<|ztn<|zsq<|zbk<|zsq<|zsr<|(zP)<|(zP)<|(zV (xix (kk:=q) Zb hv3))<|(zV (xlr (u:= .int .i64 ((cat t.nb (cat 0 (fun _=>0) t.B) t.F) q)) pl_3 (hS.rowN 1 rfl)))<|(zP)<|(zP)<|zlb 96 ?_ ?_<;>intro hc;rotate_left
   refine(zP)<|(zP)<|(zV (xix (kk:=q) Zb hv3))<|(zV (xlr (u:= .int .i64 ((cat t.nb (cat 0 (fun _=>0) t.B) t.F) q)) pl_3 (hS.rowN 1 rfl)))<|(zP)<|(zP)<|(zV (Zf (r:=t.nb+t.nf)))<|(zP)<|(zP)<|(zP)<|zlb 106 ?_ ?_<;>intro hc;rotate_left
   refine(zP)<|(zP)<|(zP)<|(zV (xix (kk:=q) Zb hv3))<|(zV (xlr (u:= .int .i64 ((cat t.nb (cat 0 (fun _=>0) t.B) t.F) q)) pl_3 (hS.rowN 1 rfl)))<|(zV (xix (kk:=(cat t.nb (cat 0 (fun _=>0) t.B) t.F) q) VU hv4))<|(zV (xlr (u:=B (∃j,0<=j/\j<q/\(cat t.nb (cat 0 (fun _=>0) t.B) t.F) j=(cat t.nb (cat 0 (fun _=>0) t.B) t.F) q)) Zfl (hS.rowN 2 rfl) (e:=(hcS _ (by omega) (by omega)))))<|(zP)<|zlt<|Ze ?_ ?_<;>intro hc
   ·
    refine zsr<|(zP)<|zlt<|zrt<|ztr<|zbr<|ztr<|ztr<|zbr<|ztr<|zf1 ⟨_,rfl,?_⟩
    exact⟨false_B (by
     intro hp;have b1:=hp.n1;have b2:=hp.n2;have b3:=hp.m2;have b4:=hp.v;have b5:=hp.d1;have b6:=hp.d2;have b7:=hp.c;have b8:=X8 hp (by omega)
     first
     |omega
     |(have hr:=(hp.rows i h0 (by omega)).1;omega)
     |exact absurd (fun j j0 j1=>(hp.rows i h0 (by omega)).2 j j0 j1) ‹¬(∀k,0<=k->k<t.ln i-> -1073741824<=t.C i k/\t.C i k<=1073741824)›
     |(have:=b8.1 q q0 (by omega);omega)
     |(obtain⟨j,j0,j1,e⟩:=‹∃j,0<=j/\j<q/\(cat t.nb (cat 0 (fun _=>0) t.B) t.F) j=(cat t.nb (cat 0 (fun _=>0) t.B) t.F) q›;have:=b8.2 j q j0 (by omega) q0 (by omega) e;omega)),hS.nl⟩
   refine zsk<|ztn<|zrg<|(zP)<|(zP)<|(zP)<|(zV (xix (kk:=q) Zb hv3))<|(zV (xlr (u:= .int .i64 ((cat t.nb (cat 0 (fun _=>0) t.B) t.F) q)) pl_3 (hS.rowN 1 rfl)))<|(zV (xix (kk:=(cat t.nb (cat 0 (fun _=>0) t.B) t.F) q) VU hv4))<|zle (xso 2 Zfl hS rfl) ?_;clear hS;rintro w hS
   refine zx10<|(zP)<|(zV (Zf (r:=q+1)))<|(zP)<|zln<|zlq ⟨upd cS ((cat t.nb (cat 0 (fun _=>0) t.B) t.F) q) (.bool true),q+1,rfl,(by omega),(by omega),?_,?_,?_,rfl,hS⟩
   ·
    intro k k0 k1;by_cases e:k=(cat t.nb (cat 0 (fun _=>0) t.B) t.F) q
    · rw [e,ZX];exact(YM ⟨q,q0,by omega,rfl⟩).symm
    · rw [upd_ne _ _ e,hcS k k0 k1];exact ZA ⟨fun⟨j,j0,j1,h⟩=>⟨j,j0,by omega,h⟩,fun⟨j,j0,j1,h⟩=>⟨j,j0,by rcases Int.lt_or_eq_of_le (show j<=q by omega) with hh|hh;exact hh;exact absurd (by rw [<-h,hh]) e,h⟩⟩
   ·
    intro k k0 k1;rcases Int.lt_or_eq_of_le (show k<=q by omega) with hk|hk;exact hrg k k0 hk;rw [hk];omega
   ·
    have hns:¬(∃j,0<=j/\j<q/\(cat t.nb (cat 0 (fun _=>0) t.B) t.F) j=(cat t.nb (cat 0 (fun _=>0) t.B) t.F) q):=‹_›
    intro k j k0 k1 j0 j1 e;rcases Int.lt_or_eq_of_le (show k<=q by omega) with hk|hk<;>rcases Int.lt_or_eq_of_le (show j<=q by omega) with hj|hj
    · exact hin k j k0 hk j0 hj e
    · exact absurd ⟨k,k0,hk,by rw [e,hj]⟩ hns
    · exact absurd ⟨j,j0,hj,by rw [<-e,hk]⟩ hns
    · omega
   all_goals
    refine zOps ?_
    refine zlt<|zct<|zsr ?_
    refine zOps ?_
    refine zlt<|zrt<|ztr<|zbr<|ztr<|ztr<|zbr<|ztr<|zf1 ⟨_,rfl,?_⟩
    exact⟨false_B (by
     intro hp;have b1:=hp.n1;have b2:=hp.n2;have b3:=hp.m2;have b4:=hp.v;have b5:=hp.d1;have b6:=hp.d2;have b7:=hp.c;have b8:=X8 hp (by omega)
     first
     |omega
     |(have hr:=(hp.rows i h0 (by omega)).1;omega)
     |exact absurd (fun j j0 j1=>(hp.rows i h0 (by omega)).2 j j0 j1) ‹¬(∀k,0<=k->k<t.ln i-> -1073741824<=t.C i k/\t.C i k<=1073741824)›
     |(have:=b8.1 q q0 (by omega);omega)
     |(obtain⟨j,j0,j1,e⟩:=‹∃j,0<=j/\j<q/\(cat t.nb (cat 0 (fun _=>0) t.B) t.F) j=(cat t.nb (cat 0 (fun _=>0) t.B) t.F) q›;have:=b8.2 j q j0 (by omega) q0 (by omega) e;omega)),hS.nl⟩
  refine zx8<|(zP)<|zx1<|zf1 ⟨_,rfl,?_⟩
  obtain rfl:q=t.nb+t.nf:=by omega
  have hpp:PermF (cat t.nb (cat 0 (fun _=>0) t.B) t.F) (t.nb+t.nf):=⟨hrg,hin⟩
  exact⟨ZU ⟨by omega,by omega,by omega,by omega,by omega,by omega,by omega,TT (by omega) (by omega) (hpp.congr fun k k0 _=>Zcd t k0),fun k k0 k1=>qa k k0 (by omega)⟩,hS.nl⟩
  all_goals
   refine zOps ?_
   refine zlt<|zct<|zsr ?_
   refine zOps ?_
   refine zx14<|zf1 ⟨_,rfl,?_⟩
   exact⟨false_B (by
    intro hp;have b1:=hp.n1;have b2:=hp.n2;have b3:=hp.m2;have b4:=hp.v;have b5:=hp.d1;have b6:=hp.d2;have b7:=hp.c;have b8:=X8 hp (by omega)
    first
    |omega
    |(have hr:=(hp.rows i h0 (by omega)).1;omega)
    |exact absurd (fun j j0 j1=>(hp.rows i h0 (by omega)).2 j j0 j1) ‹¬(∀k,0<=k->k<t.ln i-> -1073741824<=t.C i k/\t.C i k<=1073741824)›
    |(have:=b8.1 q q0 (by omega);omega)
    |(obtain⟨j,j0,j1,e⟩:=‹∃j,0<=j/\j<q/\(cat t.nb (cat 0 (fun _=>0) t.B) t.F) j=(cat t.nb (cat 0 (fun _=>0) t.B) t.F) q›;have:=b8.2 j q j0 (by omega) q0 (by omega) e;omega)),hS.nl⟩
theorem ZcP(w0:World)(hT:TAt w0 vB vF vC vv t)(hp:TPrp t):
    Calls Tryz.prog 177 [.agg #[.int .i64 t.vars,.int .i64 t.den,vB,vF,vC]].toArray w0 fun e w=>∃v,e= .returned v/\v= .int .i64 (ZR t t.nb.toNat)/\Sat w0 w []:=by
  have hn:=hT.F.slh.n0;have hn1:=hT.F.slh.n1;have hb:=hT.B.slh.n0;have hb1:=hT.B.slh.n1;have hc0:=hT.C.row.slh.n0;have hc1:=hT.C.row.slh.n1
  have b1:=hp.n1;have b2:=hp.n2;have b3:=hp.m2;have b4:=hp.v;have b5:=hp.d1;have b6:=hp.d2;have b7:=hp.c
  refine Zm Tryz.func177 Tryz.ntmps177 fun w hS=> ?_
  refine zsr<|zla (xbx (cs:= [_,_,_,_,_]) hS) ?_;rintro _ w ⟨g1,rfl,hS⟩
  refine(zP)<|zlz<|(zP)<|zx5<|(zP)<|zx6<|zlp (fun mm M w=>∃(r:Int) (i:Int),mm=((t.nb-i).toNat)/\(0<=i)/\(i<=t.nb)/\(r=ZR t i.toNat)/\M= [(1,.pointer (some ⟨g1,0,none⟩)),(2,.int .i64 0),(3,.int .i64 r),(4,.int .i64 i)]/\Sat w0 w [.blk g1 [.int .i64 t.vars,.int .i64 t.den,vB,vF,vC]]) ⟨(-1),0,rfl,(by omega),(by omega),?_,rfl,hS⟩ ?_
  ·
   rfl
  clear hS w
  rintro mm M w ⟨r,i,rfl,h0,h1,hr,rfl,hS⟩
  have hrr:=YG t i.toNat;rw [<-hr] at hrr
  refine zx11<|(zP)<|(zV (xfb 2 fd_175_2))<|(zV (xlb 0 pl_22 hS))<|(zV (xln Zb hT.B.slh))<|(zP)<|zlt<|Ze ?_ ?_<;>intro hc
  ·
   refine zx27<|zdst [0] [0] 1000 mx_ hS ?_;clear hS;intro w hS
   refine zDrv 0 (xfb 4 fd_175_4) ?_
   have yc:=hp.len (i:=i+1) (by omega) (by omega)
   refine(zDl 1 (fun w hS=>(xlb 0 Zu hS)))<|(zDw 2 xmv)<|(zDw 3 (Zf (r:=i+1)))<|(zDw 4 (xix (kk:=i+1) Zi hT.C.row.slh))<|(zDl 5 (fun w hS=>(xlr (u:=(vv (i+1))) pl_22 (hT.C.row.below hS.below))))<|(zDw 6 (xix (kk:=0) Zb (hT.C.p (i+1) (by omega) (by omega)).slh))<|(zDl 7 (fun w hS=>(xlr (u:= .int .i64 ((t.C (i+1)) 0)) pl_3 ((hT.C.p (i+1) (by omega) (by omega)).below hS.below))))<|(zDw 8 ZZ)<|(zDw 9 xmv)<|zdb 21 ?_ ?_<;>intro hc
   ·
    refine(zDw 10 xmv)<|(zDw 11 ZZ)<|(zDw 12 xmv)<|zdb 24 ?_ ?_<;>intro hc
    ·
     refine(zDo 13)<|(zDo 14)<|(zDo 15)<|(zDo 16)<|(zDo 17)<|(zDo 18)<|(zDo 19)<|(zDo 20)<|(zDo 21)<|(zDo 22)<|(zDo 23)<|(zDw 24 xpt)<|(zDw 25 xpt)<|zdd<|ztn<|zct<|zrg ?_
     refine(zP)<|(zP)<|zx10<|(zP)<|(zV (Zf (r:=i+1)))<|(zP)<|zln<|zlq ⟨i,i+1,rfl,(by omega),(by omega),?_,rfl,hS⟩
     ·
      rw [YV t h0,<-hr];split<;>omega
    refine(zDw 13 (xfb 2 fd_175_2))<|(zDl 14 (fun w hS=>(xlb 0 pl_22 hS)))<|(zDw 15 xmv)<|(zDw 16 (xix (kk:=i) Zb hT.B.slh))<|(zDl 17 (fun w hS=>(xlr (u:= .int .i64 (t.B i)) pl_3 (hT.B.below hS.below))))<|(zDw 18 (xfb 2 fd_175_2))<|(zDl 19 (fun w hS=>(xlb 0 pl_22 hS)))<|(zDw 20 xmv)<|(zDw 21 (xix (kk:=r) Zb hT.B.slh))<|(zDl 22 (fun w hS=>(xlr (u:= .int .i64 (t.B r)) pl_3 (hT.B.below hS.below))))<|(zDw 23 ZZ)<|(zDw 24 xpf)<|(zDw 25 xpt)<|zdd<|ztn ?_
    refine Ze ?_ ?_<;>intro hc
    ·
     refine zrg<|(zP)<|(zP)<|zx10<|(zP)<|(zV (Zf (r:=i+1)))<|(zP)<|zln<|zlq ⟨i,i+1,rfl,(by omega),(by omega),?_,rfl,hS⟩
     ·
      rw [YV t h0,<-hr];split<;>omega
    refine zx4<|(zP)<|(zV (Zf (r:=i+1)))<|(zP)<|zln<|zlq ⟨r,i+1,rfl,(by omega),(by omega),?_,rfl,hS⟩
    ·
     rw [YV t h0,<-hr];split<;>omega
   refine(zDo 10)<|(zDo 11)<|(zDo 12)<|(zDo 13)<|(zDo 14)<|(zDo 15)<|(zDo 16)<|(zDo 17)<|(zDo 18)<|(zDo 19)<|(zDo 20)<|(zDo 21)<|(zDo 22)<|(zDo 23)<|Ur 24 ?_
   refine(zDw 25 xpf)<|zdd<|ztn<|zcf<|zsk<|zbn<|ztn<|zrg ?_
   refine(zP)<|(zV (Zf (r:=i+1)))<|(zP)<|zln<|zlq ⟨r,i+1,rfl,(by omega),(by omega),?_,rfl,hS⟩
   ·
    rw [YV t h0,<-hr];split<;>omega
  refine zx8<|(zP)<|(zP)<|zx1<|zf1 ⟨_,rfl,?_⟩
  obtain rfl:i=t.nb:=by omega
  exact⟨by rw [hr],hS.nl⟩
theorem Zf5(w0:World)(hT:TAt w0 vB vF vC vv t):
    Calls Tryz.prog 159 [.agg #[.int .i64 t.vars,.int .i64 t.den,vB,vF,vC]].toArray w0 fun e w=>∃v,e= .returned v/\∃r c d e,v= .tuple #[.int .i64 r,.int .i64 c,.bool d,.int .i64 e]/\NextR t r c d e/\Sat w0 w []:=by
  have hn:=hT.F.slh.n0;have hn1:=hT.F.slh.n1;have hb:=hT.B.slh.n0;have hb1:=hT.B.slh.n1;have hc0:=hT.C.row.slh.n0;have hc1:=hT.C.row.slh.n1
  refine Zm Tryz.func159 Tryz.ntmps159 fun w hS=> ?_
  refine zsr<|zla (xbx (cs:= [_,_,_,_,_]) hS) ?_;rintro _ w ⟨g1,rfl,hS⟩
  refine zs4 ?_
  refine zx5<|(zV (xls 0 Zx hS))<|zlc (xc0 Zec) (Rh (t:=t) w (hT.below hS.below)) ?_;rintro _ w ⟨rfl,hS'⟩
  replace hS:=hS.cmp hS';clear hS'
  refine(zP)<|(zP)<|zlb 15 ?_ ?_<;>intro hc
  ·
   iterate 7 refine zlo ?_
   refine(zP)<|zlt<|zct<|zsr ?_
   refine zs4 ?_
   refine zx14<|zf4 ⟨_,rfl,?_⟩
   refine⟨_,_,_,_,rfl,.inl ⟨?_,rfl,rfl,rfl,rfl⟩,hS.nl⟩
   first|exact fun hh=>absurd hh.1 ‹_›|(rintro⟨_,hco⟩;exact absurd (show∀k,0<=k->k<t.ln 0-1->0<=t.C 0 (k+1)/\t.C 0 (k+1)<=1073741824 from fun k k0 k1=>⟨hco (k+1) (by omega) (by omega),(hp.cell (i:=0) (j:=k+1) (by omega) (by omega) (by omega) (by omega)).2⟩) (by assumption))
  refine(zV (xfb 4 fd_175_4))<|zlv (xlb 0 Zu hS) ?_
  have hp:TPrp t:=by first|assumption|exact Classical.not_not.1 ‹¬¬(TPrp t)›
  have b1:=hp.n1
  have b2:=hp.n2
  have b3:=hp.m2
  have b4:=hp.v
  have b5:=hp.d1
  have b6:=hp.d2
  have b7:=hp.c
  have hl0:=hp.len (i:=0) (by omega) (by omega)
  refine(zV (xix (kk:=0) Zi hT.C.row.slh))<|(zV (xlr (u:=(vv 0)) pl_22 (hT.C.row.below hS.below)))<|Tx rfl rfl rfl (YX (q:=1) rfl Zb rfl rfl rfl (hT.C.p 0 (by omega) (by omega)).slh rfl (by omega) (by omega)) ?_
  refine zlc (xc0 Tm) (WB (n:=((t.ln 0)-1)) (lo:=0) (hi:=1073741824) (f:=(fun k=>(t.C 0) (k+1))) w ((Xe (q:=1) (hT.C.p 0 (by omega) (by omega)).slh (hT.C.room 0 (by omega) (by omega)) (by omega)).row (by omega) ((hT.C.p 0 (by omega) (by omega)).below hS.below))) ?_;rintro _ w ⟨rfl,hS'⟩
  replace hS:=hS.cmp hS';clear hS'
  refine(zP)<|(zP)<|zlt<|Ze ?_ ?_<;>intro hc
  ·
   refine zsr<|zs4 ?_
   refine zx14<|zf4 ⟨_,rfl,?_⟩
   refine⟨_,_,_,_,rfl,.inl ⟨?_,rfl,rfl,rfl,rfl⟩,hS.nl⟩
   first|exact fun hh=>absurd hh.1 ‹_›|(rintro⟨_,hco⟩;exact absurd (show∀k,0<=k->k<t.ln 0-1->0<=t.C 0 (k+1)/\t.C 0 (k+1)<=1073741824 from fun k k0 k1=>⟨hco (k+1) (by omega) (by omega),(hp.cell (i:=0) (j:=k+1) (by omega) (by omega) (by omega) (by omega)).2⟩) (by assumption))
  refine Z7<|zlv (xls 0 Zx hS) ?_
  have hcq:∀k,0<=k->k<t.ln 0-1->0<=t.C 0 (k+1)/\t.C 0 (k+1)<=1073741824:=by first|assumption|exact Classical.not_not.1 ‹_›
  have hrr:=YG t t.nb.toNat
  refine zlc (xc0 ZhP) (ZcP (t:=t) w (hT.below hS.below) hp) ?_;rintro _ w ⟨rfl,hS'⟩
  replace hS:=hS.cmp hS';clear hS'
  refine(zP)<|zx5<|(zP)<|(zP)<|zlt<|Ze ?_ ?_<;>intro hc
  ·
   refine zsr<|zs4 ?_
   refine zx14<|zf4 ⟨_,rfl,?_⟩
   exact⟨_,_,_,_,rfl,.inr (.inl ⟨hp,(fun j j0 j1=>by have:=hcq (j-1) (by omega) (by omega);rw [show j-1+1=j by omega] at this;omega),by omega,rfl,rfl,rfl,rfl⟩),hS.nl⟩
  refine Z7<|(zP)<|zx5<|(zP)<|zx6<|zlp (fun mm M w=>∃(c:Int) (j:Int),mm=((t.nf-j).toNat)/\(0<=j)/\(j<=t.nf)/\(c=Yd t (ZR t t.nb.toNat) j.toNat)/\M= [(1,.pointer (some ⟨g1,0,none⟩)),(2,.int .i64 0),(3,.int .i64 0),(4,.bool false),(5,.int .i64 0),(6,.int .i64 (ZR t t.nb.toNat)),(7,.int .i64 c),(8,.int .i64 j)]/\Sat w0 w [.blk g1 [.int .i64 t.vars,.int .i64 t.den,vB,vF,vC]]) ⟨(-1),0,rfl,(by omega),(by omega),?_,rfl,hS⟩ ?_
  ·
   rfl
  clear hS w
  rintro mm M w ⟨c,j,rfl,j0,j1,hcc,rfl,hS⟩
  have hcr:=Xm t (ZR t t.nb.toNat) j.toNat;rw [<-hcc] at hcr
  refine zx11<|(zP)<|(zV (xfb 3 fd_175_3))<|(zV (xlb 0 pl_22 hS))<|(zV (xln Zb hT.F.slh))<|(zP)<|zlt<|Ze ?_ ?_<;>intro hc
  ·
   refine zx3<|(zV (xfb 4 fd_175_4))<|(zV (xlb 0 Zu hS))<|zlv xmv ?_
   have hlr:=hp.len (i:=(ZR t t.nb.toNat)+1) (by omega) (by omega)
   refine(zV (Zf (r:=(ZR t t.nb.toNat)+1)))<|(zV (xix (kk:=(ZR t t.nb.toNat)+1) Zi hT.C.row.slh))<|(zV (xlr (u:=(vv ((ZR t t.nb.toNat)+1))) pl_22 (hT.C.row.below hS.below)))<|(zP)<|(zV (Zf (r:=j+1)))<|(zV (xix (kk:=j+1) Zb (hT.C.p ((ZR t t.nb.toNat)+1) (by omega) (by omega)).slh))<|(zV (xlr (u:= .int .i64 ((t.C ((ZR t t.nb.toNat)+1)) (j+1))) pl_3 ((hT.C.p ((ZR t t.nb.toNat)+1) (by omega) (by omega)).below hS.below)))<|(zP)<|zx5<|(zP)<|(zP)<|zlt<|Ze ?_ ?_<;>intro hc
   ·
    refine zxt<|ztx<|zbh<|ztn<|zrg<|(zP)<|(zV (Zf (r:=j+1)))<|(zP)<|zln<|zlq ⟨c,j+1,rfl,(by omega),(by omega),?_,rfl,hS⟩
    ·
     rw [Yk t (ZR t t.nb.toNat) j0,<-hcc];(repeat' split)<;>omega
   refine Xb<|(zP)<|(zP)<|zlt<|Ze ?_ ?_<;>intro hc
   ·
    refine zsr<|(zP)<|(zP)<|zlt<|zxt<|ztx<|zbh<|ztn<|zrg<|(zP)<|(zV (Zf (r:=j+1)))<|(zP)<|zln<|zlq ⟨j,j+1,rfl,(by omega),(by omega),?_,rfl,hS⟩
    ·
     rw [Yk t (ZR t t.nb.toNat) j0,<-hcc];(repeat' split)<;>omega
   refine zsk<|ztn<|zsq<|zdst [0] [0] 1000 mx_ hS ?_;clear hS;intro w hS
   refine(zDw 0 (xfb 4 fd_175_4))<|(zDl 1 (fun w hS=>(xlb 0 Zu hS)))<|(zDw 2 (xix (kk:=0) Zi hT.C.row.slh))<|(zDl 3 (fun w hS=>(xlr (u:=(vv 0)) pl_22 (hT.C.row.below hS.below))))<|zDrv 4 xmv ?_
   have hcr:=Xm t (ZR t t.nb.toNat) j.toNat;rw [<-hcc] at hcr
   have hm1:=YY (hp.cell (i:=0) (j:=j+1) (by omega) (by omega) (by omega) (by omega)) (hp.cell (i:=(ZR t t.nb.toNat)+1) (j:=c+1) (by omega) (by omega) (by omega) (by omega));have hm2:=YY (hp.cell (i:=0) (j:=c+1) (by omega) (by omega) (by omega) (by omega)) (hp.cell (i:=(ZR t t.nb.toNat)+1) (j:=j+1) (by omega) (by omega) (by omega) (by omega))
   refine(zDw 5 (Zf (r:=j+1)))<|(zDw 6 (xix (kk:=j+1) Zb (hT.C.p 0 (by omega) (by omega)).slh))<|(zDl 7 (fun w hS=>(xlr (u:= .int .i64 ((t.C 0) (j+1))) pl_3 ((hT.C.p 0 (by omega) (by omega)).below hS.below))))<|(zDw 8 (xfb 4 fd_175_4))<|(zDl 9 (fun w hS=>(xlb 0 Zu hS)))<|(zDw 10 xmv)<|(zDw 11 (Zf (r:=(ZR t t.nb.toNat)+1)))<|(zDw 12 (xix (kk:=(ZR t t.nb.toNat)+1) Zi hT.C.row.slh))<|(zDl 13 (fun w hS=>(xlr (u:=(vv ((ZR t t.nb.toNat)+1))) pl_22 (hT.C.row.below hS.below))))<|(zDw 14 xmv)<|(zDw 15 (Zf (r:=c+1)))<|(zDw 16 (xix (kk:=c+1) Zb (hT.C.p ((ZR t t.nb.toNat)+1) (by omega) (by omega)).slh))<|(zDl 17 (fun w hS=>(xlr (u:= .int .i64 ((t.C ((ZR t t.nb.toNat)+1)) (c+1))) pl_3 ((hT.C.p ((ZR t t.nb.toNat)+1) (by omega) (by omega)).below hS.below))))<|(zDw 18 (Z4 (r:=(((t.C 0) (j+1))*((t.C ((ZR t t.nb.toNat)+1)) (c+1)))) (e:=rfl)))<|zDrv 19 (xfb 4 fd_175_4) ?_
   refine(zDl 20 (fun w hS=>(xlb 0 Zu hS)))<|(zDw 21 (xix (kk:=0) Zi hT.C.row.slh))<|(zDl 22 (fun w hS=>(xlr (u:=(vv 0)) pl_22 (hT.C.row.below hS.below))))<|(zDw 23 xmv)<|(zDw 24 (Zf (r:=c+1)))<|(zDw 25 (xix (kk:=c+1) Zb (hT.C.p 0 (by omega) (by omega)).slh))<|(zDl 26 (fun w hS=>(xlr (u:= .int .i64 ((t.C 0) (c+1))) pl_3 ((hT.C.p 0 (by omega) (by omega)).below hS.below))))<|(zDw 27 xmv)<|(zDw 28 (Z4 (r:=(((t.C 0) (c+1))*((t.C ((ZR t t.nb.toNat)+1)) (j+1)))) (e:=rfl)))<|(zDw 29 xas)<|(zDw 30 xas)<|zdd<|ztn<|zsq ?_
   refine zdst [0] [0] 1000 mx_ hS ?_;clear hS;intro w hS
   refine zDrv 0 xmv ?_
   have hne:t.F j≠t.F c:=fun hh=>by have:=hp.injF (i:=j) (j:=c) (by omega) (by omega) (by omega) (by omega) (by omega) hh;omega
   refine(zDw 1 xmv)<|(zDw 2 ZZ)<|(zDw 3 xmv)<|zdb 82 ?_ ?_<;>intro hc
   ·
    refine(zDo 4)<|(zDo 5)<|(zDo 6)<|(zDo 7)<|(zDo 8)<|(zDo 9)<|(zDo 10)<|(zDo 11)<|(zDo 12)<|(zDo 13)<|(zDo 14)<|(zDo 15)<|(zDo 16)<|(zDo 17)<|Ur 18 ?_
    refine(zDo 19)<|(zDw 20 xpt)<|zdd<|ztn<|zct<|zrg ?_
    refine(zP)<|(zP)<|zx10<|(zP)<|(zV (Zf (r:=j+1)))<|(zP)<|zln<|zlq ⟨j,j+1,rfl,(by omega),(by omega),?_,rfl,hS⟩
    ·
     rw [Yk t (ZR t t.nb.toNat) j0,<-hcc];(repeat' split)<;>omega
   refine(zDw 4 xmv)<|(zDw 5 xmv)<|(zDw 6 YO)<|(zDw 7 xmv)<|zdb 86 ?_ ?_<;>intro hc
   ·
    refine(zDw 8 (xfb 3 fd_175_3))<|(zDl 9 (fun w hS=>(xlb 0 pl_22 hS)))<|(zDw 10 xmv)<|(zDw 11 (xix (kk:=j) Zb hT.F.slh))<|(zDl 12 (fun w hS=>(xlr (u:= .int .i64 (t.F j)) pl_3 (hT.F.below hS.below))))<|(zDw 13 (xfb 3 fd_175_3))<|(zDl 14 (fun w hS=>(xlb 0 pl_22 hS)))<|(zDw 15 xmv)<|(zDw 16 (xix (kk:=c) Zb hT.F.slh))<|(zDl 17 (fun w hS=>(xlr (u:= .int .i64 (t.F c)) pl_3 (hT.F.below hS.below))))<|(zDw 18 ZZ)<|(zDw 19 xpt)<|(zDw 20 xpf)<|zdd<|ztn ?_
    refine Ze ?_ ?_<;>intro hc
    ·
     refine zrg<|(zP)<|(zP)<|zx10<|(zP)<|(zV (Zf (r:=j+1)))<|(zP)<|zln<|zlq ⟨j,j+1,rfl,(by omega),(by omega),?_,rfl,hS⟩
     ·
      rw [Yk t (ZR t t.nb.toNat) j0,<-hcc];(repeat' split)<;>omega
    refine zx4<|(zP)<|(zV (Zf (r:=j+1)))<|(zP)<|zln<|zlq ⟨c,j+1,rfl,(by omega),(by omega),?_,rfl,hS⟩
    ·
     rw [Yk t (ZR t t.nb.toNat) j0,<-hcc];(repeat' split)<;>omega
   refine(zDo 8)<|(zDo 9)<|(zDo 10)<|(zDo 11)<|(zDo 12)<|(zDo 13)<|(zDo 14)<|(zDo 15)<|(zDo 16)<|(zDo 17)<|(zDo 18)<|(zDw 19 xpf)<|(zDw 20 xpf)<|zdd<|ztn<|zcf<|zsk<|zbn<|ztn<|zrg ?_
   refine(zP)<|(zV (Zf (r:=j+1)))<|(zP)<|zln<|zlq ⟨c,j+1,rfl,(by omega),(by omega),?_,rfl,hS⟩
   ·
    rw [Yk t (ZR t t.nb.toNat) j0,<-hcc];(repeat' split)<;>omega
  refine zx18<|(zP)<|(zP)<|zlt<|Ze ?_ ?_<;>intro hc
  ·
   refine zsr<|zs4 ?_
   refine zx14<|zf4 ⟨_,rfl,?_⟩
   obtain rfl:j=t.nf:=by omega
   exact⟨_,_,_,_,rfl,.inr (.inr (.inl ⟨hp,(fun j j0 j1=>by have:=hcq (j-1) (by omega) (by omega);rw [show j-1+1=j by omega] at this;omega),by omega,by omega,rfl,rfl,rfl,rfl⟩)),hS.nl⟩
  refine Z7<|zs6 ?_
  refine zx1<|zf4 ⟨_,rfl,?_⟩
  obtain rfl:j=t.nf:=by omega
  exact⟨_,_,_,_,rfl,.inr (.inr (.inr ⟨hp,(fun j j0 j1=>by have:=hcq (j-1) (by omega) (by omega);rw [show j-1+1=j by omega] at this;omega),by omega,by omega,rfl,hcc,rfl,rfl⟩)),hS.nl⟩
theorem Zi7{i j r s:Int}(w0:World)(hT:TAt w0 vB vF vC vv t)(hp:TPrp t)(i0:0<=i)(i1:i<=t.nb)(j0:0<=j)(j1:j<=t.nf)(r0:0<=r)(r1:r<=t.nb)(s0:0<=s)(s1:s<=t.nf):
    Calls Tryz.prog 178 [.agg #[.int .i64 t.vars,.int .i64 t.den,vB,vF,vC],.int .i64 i,.int .i64 j,.int .i64 r,.int .i64 s].toArray w0 fun e w=>∃v,e= .returned v/\∃(n:Int) (ok:Value),v= .tuple #[.int .i64 n,ok]/\n=ZS t r s i j/\ok=B (RU t r s i j)/\Sat w0 w []:=by
  have hn:=hT.F.slh.n0;have hn1:=hT.F.slh.n1;have hb:=hT.B.slh.n0;have hb1:=hT.B.slh.n1;have hc0:=hT.C.row.slh.n0;have hc1:=hT.C.row.slh.n1
  have b1:=hp.n1;have b2:=hp.n2;have b3:=hp.m2;have b4:=hp.v;have b5:=hp.d1;have b6:=hp.d2;have b7:=hp.c
  have fU:=hp.cell (i:=r) (j:=s) (by omega) (by omega) (by omega) (by omega);have fT:=hp.cell (i:=i) (j:=j) (by omega) (by omega) (by omega) (by omega);have fR:=hp.cell (i:=i) (j:=s) (by omega) (by omega) (by omega) (by omega);have fQ:=hp.cell (i:=r) (j:=j) (by omega) (by omega) (by omega) (by omega)
  have hm1:=YY fU fT;have hm2:=YY fR fQ;have hli:=hp.len (i:=i) (by omega) (by omega);have hlr:=hp.len (i:=r) (by omega) (by omega)
  have hqd:=Yx (a:=t.C r s*t.C i j-t.C i s*t.C r j) (d:=t.den) (A:=2305843009213693952) (by omega) (by omega)
  refine Zm Tryz.func178 Tryz.ntmps178 fun w hS=> ?_
  refine zsr<|zla (xbx (cs:= [_,_,_,_,_]) hS) ?_;rintro _ w ⟨g1,rfl,hS⟩
  refine(zP)<|(zP)<|zlz<|(zV (xfb 4 fd_175_4))<|(zV (xlb 0 Zu hS))<|(zP)<|(zV (xix (kk:=r) Zi hT.C.row.slh))<|(zV (xlr (u:=(vv r)) pl_22 (hT.C.row.below hS.below)))<|(zP)<|(zV (xix (kk:=s) Zb (hT.C.p r (by omega) (by omega)).slh))<|(zV (xlr (u:= .int .i64 ((t.C r) s)) pl_3 ((hT.C.p r (by omega) (by omega)).below hS.below)))<|(zP)<|zlt<|zsq<|zbk<|zsr<|zs4 ?_
  refine zlb 26 ?_ ?_<;>intro hc
  ·
   refine zs5 ?_
   refine zlt<|Ze ?_ ?_<;>intro hc
   ·
    refine zsr<|(zV (xfb 1 fd_175_1))<|(zV (xlb 0 pl_3 hS))<|(zP)<|(zP)<|X9<|zf2 ⟨_,rfl,?_⟩
    skip
    exact⟨(_),_,rfl,by unfold ZS;first|exact(if_pos ⟨by omega,by omega⟩).symm|(rw [if_neg (by omega)];exact(if_pos (by omega)).symm)|(rw [if_neg (by omega),if_neg (by omega)];exact(if_pos (by omega)).symm),ZU (fun h1 h2=>by omega),hS.nl⟩
   refine zsr<|(zP)<|(zP)<|(zV (xkt YO))<|(zP)<|zlt<|zct<|zsr ?_
   refine(zV (xfb 4 fd_175_4))<|(zV (xlb 0 Zu hS))<|(zP)<|(zV (xix (kk:=r) Zi hT.C.row.slh))<|(zV (xlr (u:=(vv r)) pl_22 (hT.C.row.below hS.below)))<|(zP)<|(zV (xix (kk:=j) Zb (hT.C.p r (by omega) (by omega)).slh))<|(zV (xlr (u:= .int .i64 ((t.C r) j)) pl_3 ((hT.C.p r (by omega) (by omega)).below hS.below)))<|(zV (ZaG (r:= -(((t.C r) j)))))<|(zP)<|(zP)<|X9<|zf2 ⟨_,rfl,?_⟩
   obtain rfl:i=r:=by omega
   skip
   exact⟨(_),_,rfl,by unfold ZS;first|exact(if_pos ⟨by omega,by omega⟩).symm|(rw [if_neg (by omega)];exact(if_pos (by omega)).symm)|(rw [if_neg (by omega),if_neg (by omega)];exact(if_pos (by omega)).symm),ZU (fun h1 h2=>by omega),hS.nl⟩
  iterate 3 refine zlo ?_
  refine(zP)<|(zP)<|zlt<|zcf<|zsr ?_
  refine zs4 ?_
  refine zlt<|Ze ?_ ?_<;>intro hc
  ·
   exfalso;omega
  refine zsr<|zs4 ?_
  refine zlt<|Ze ?_ ?_<;>intro hc
  ·
   refine zsr<|(zV (xfb 4 fd_175_4))<|(zV (xlb 0 Zu hS))<|(zP)<|(zV (xix (kk:=i) Zi hT.C.row.slh))<|(zV (xlr (u:=(vv i)) pl_22 (hT.C.row.below hS.below)))<|(zP)<|(zV (xix (kk:=s) Zb (hT.C.p i (by omega) (by omega)).slh))<|(zV (xlr (u:= .int .i64 ((t.C i) s)) pl_3 ((hT.C.p i (by omega) (by omega)).below hS.below)))<|(zP)<|(zP)<|X9<|zf2 ⟨_,rfl,?_⟩
   obtain rfl:j=s:=by omega
   skip
   exact⟨(_),_,rfl,by unfold ZS;first|exact(if_pos ⟨by omega,by omega⟩).symm|(rw [if_neg (by omega)];exact(if_pos (by omega)).symm)|(rw [if_neg (by omega),if_neg (by omega)];exact(if_pos (by omega)).symm),ZU (fun h1 h2=>by omega),hS.nl⟩
  refine zsk<|zbn<|ztn<|zsq<|zdst [0] [0] 1000 mx_ hS ?_;clear hS;intro w hS
  refine(zDw 0 xmv)<|(zDw 1 (xfb 4 fd_175_4))<|(zDl 2 (fun w hS=>(xlb 0 Zu hS)))<|(zDw 3 xmv)<|(zDw 4 (xix (kk:=i) Zi hT.C.row.slh))<|(zDl 5 (fun w hS=>(xlr (u:=(vv i)) pl_22 (hT.C.row.below hS.below))))<|(zDw 6 xmv)<|(zDw 7 (xix (kk:=j) Zb (hT.C.p i (by omega) (by omega)).slh))<|(zDl 8 (fun w hS=>(xlr (u:= .int .i64 ((t.C i) j)) pl_3 ((hT.C.p i (by omega) (by omega)).below hS.below))))<|(zDw 9 (Z4 (r:=(((t.C r) s)*((t.C i) j))) (e:=rfl)))<|(zDw 10 (xfb 4 fd_175_4))<|(zDl 11 (fun w hS=>(xlb 0 Zu hS)))<|(zDw 12 xmv)<|(zDw 13 (xix (kk:=i) Zi hT.C.row.slh))<|zdla 14 (fun w hS=>(xlr (u:=(vv i)) pl_22 (hT.C.row.below hS.below))) ?_
  refine(zDw 15 xmv)<|(zDw 16 (xix (kk:=s) Zb (hT.C.p i (by omega) (by omega)).slh))<|(zDl 17 (fun w hS=>(xlr (u:= .int .i64 ((t.C i) s)) pl_3 ((hT.C.p i (by omega) (by omega)).below hS.below))))<|(zDw 18 (xfb 4 fd_175_4))<|(zDl 19 (fun w hS=>(xlb 0 Zu hS)))<|(zDw 20 xmv)<|(zDw 21 (xix (kk:=r) Zi hT.C.row.slh))<|(zDl 22 (fun w hS=>(xlr (u:=(vv r)) pl_22 (hT.C.row.below hS.below))))<|(zDw 23 xmv)<|(zDw 24 (xix (kk:=j) Zb (hT.C.p r (by omega) (by omega)).slh))<|(zDl 25 (fun w hS=>(xlr (u:= .int .i64 ((t.C r) j)) pl_3 ((hT.C.p r (by omega) (by omega)).below hS.below))))<|(zDw 26 (Z4 (r:=(((t.C i) s)*((t.C r) j))) (e:=rfl)))<|(zDw 27 (ZD (r:=(((t.C r) s)*((t.C i) j))-(((t.C i) s)*((t.C r) j)))))<|(zDw 28 xas)<|zdd<|ztn<|zsq ?_
  refine zdst [0] [0] 1000 mx_ hS ?_;clear hS;intro w hS
  refine(zDw 0 xmv)<|(zDw 1 (xfb 1 fd_175_1))<|(zDl 2 (fun w hS=>(xlb 0 pl_3 hS)))<|(zDw 3 (Ut (r:=(Int.tdiv ((((t.C r) s)*((t.C i) j))-(((t.C i) s)*((t.C r) j))) t.den))))<|(zDw 4 xmv)<|(zDw 5 (xfb 1 fd_175_1))<|(zDl 6 (fun w hS=>(xlb 0 pl_3 hS)))<|(zDw 7 (Rq (r:=(Int.tmod ((((t.C r) s)*((t.C i) j))-(((t.C i) s)*((t.C r) j))) t.den))))<|(zDw 8 YO)<|(zDw 9 xas)<|(zDw 10 xas)<|zdd<|ztn<|zrt<|zf2 ⟨_,rfl,?_⟩
  exact⟨_,_,rfl,by unfold ZS;rw [if_neg (by omega),if_neg (by omega),if_neg (by omega)],ZA ⟨fun h _ _=>h,fun h=>h (by omega) (by omega)⟩,hS.nl⟩
theorem Zfn {row col:Int} (ha:Vu t row col) (hb:∀a b,0<=a->a<=t.nb->0<=b->b<=t.nf-> -1073741824<=ZS t (row+1) (col+1) a b/\ZS t (row+1) (col+1) a b<=1073741824):TPrp (piv t row col):=by
  obtain⟨hp,r0,r1,c0,c1,hne⟩:=ha
  have hcl:=hp.cell (i:=row+1) (j:=col+1) (by omega) (by omega) (by omega) (by omega)
  have hs:=Vj (t.C (row+1) (col+1))
  have yN:1<=(piv t row col).den/\(piv t row col).den<=1073741824:=by
    rw [Ux];unfold sg;split<;>omega
  have hcc:=hp.c
  refine⟨hp.n1,hp.n2,hp.m2,hp.v,yN.1,yN.2,hp.c,?_,fun i i0 i1=>⟨(hp.rows i i0 i1).1,fun j j0 j1=> ?_⟩⟩
  · have tr:∀i,0<=i->i<t.nf+t.nb->∃k,0<=k/\k<t.nf+t.nb/\cat t.nf (upd t.F col (t.B row)) (upd t.B row (t.F col)) i=cat t.nf t.F t.B k/\(i=col->k=t.nf+row)/\(i=t.nf+row->k=col)/\(i≠col->i≠t.nf+row->k=i):=fun i i0 i1=>by
      by_cases e1:i=col
      · refine⟨t.nf+row,by omega,by omega,?_,fun _=>rfl,fun h=>by omega,fun h=>absurd e1 h⟩
        unfold cat;rw [if_pos (by omega),if_neg (by omega),e1,ZX];congr 1;omega
      · by_cases e2:i=t.nf+row
        · refine⟨col,by omega,by omega,?_,fun h=>by omega,fun _=>rfl,fun _ h=>absurd e2 h⟩
          unfold cat;rw [if_neg (by omega),if_pos (by omega),e2,show t.nf+row-t.nf=row by omega,ZX]
        · refine⟨i,by omega,by omega,?_,fun h=>by omega,fun h=>by omega,fun _ _=>rfl⟩
          unfold cat;split
          · rw [upd_ne _ _ e1]
          · rw [upd_ne _ _ (by omega)]
    refine⟨fun i i0 i1=> ?_,fun i j i0 i1 j0 j1 e=> ?_⟩
    · obtain⟨k,k0,k1,e,_⟩:=tr i i0 i1
      have:=hp.perm.1 k k0 k1
      have h3:0<=cat t.nf (upd t.F col (t.B row)) (upd t.B row (t.F col)) i/\cat t.nf (upd t.F col (t.B row)) (upd t.B row (t.F col)) i<t.nf+t.nb:=by rw [e];exact this
      exact h3
    · obtain⟨k,k0,k1,e1,x1,x2,x3⟩:=tr i i0 i1
      obtain⟨q,q0,q1,e2,y1,y2,y3⟩:=tr j j0 j1
      have:=hp.perm.2 k q k0 k1 q0 q1 (by rw [<-e1,<-e2];exact e)
      by_cases a1:i=col<;>by_cases a2:i=t.nf+row<;>by_cases b1:j=col<;>by_cases b2:j=t.nf+row<;>simp only [a1,a2,b1,b2,true_implies,false_implies,not_true,not_false_eq_true,ne_eq] at x1 x2 x3 y1 y2 y3<;>omega
  · have h1:t.ln i=t.nf+1:=(hp.rows i i0 i1).1
    have j2:j<t.ln i:=j1
    have i2:i<t.nc:=i1
    have:=hb i j i0 (by omega) j0 (by omega)
    rw [X1]
    rcases hs with h|h<;>rw [h]<;>omega
theorem ZeC {row col:Int} (w0:World) (hT:TAt w0 vB vF vC vv t) (dT: -9223372036854775808<=row/\row<=9223372036854775807) (eH: -9223372036854775808<=col/\col<=9223372036854775807):
    Calls Tryz.prog 160 [.agg #[.int .i64 t.vars,.int .i64 t.den,vB,vF,vC],.int .i64 row,.int .i64 col].toArray w0 fun e w=>∃v,e= .returned v/\∃vB vF vC vv t' e,v= .tuple #[.agg #[.int .i64 t'.vars,.int .i64 t'.den,vB,vF,vC],.int .i64 e]/\PivR t row col t' e/\Slh vB t'.nb/\Slh vF t'.nf/\Slh vC t'.nc/\Sat w0 w [.own vB 1 3 t'.nb (ints t'.B),.own vF 1 3 t'.nf (ints t'.F),.own vC 1 22 t'.nc vv,.sem (Frame.rows 3 t'.nc vv t'.ln t'.C)]:=by
  have hn:=hT.F.slh.n0;have hn1:=hT.F.slh.n1;have hb:=hT.B.slh.n0;have hb1:=hT.B.slh.n1;have hc0:=hT.C.row.slh.n0;have hc1:=hT.C.row.slh.n1
  refine Zm Tryz.func160 Tryz.ntmps160 fun w hS=> ?_
  refine zsr<|zla (xbx (cs:= [_,_,_,_,_]) hS) ?_;rintro _ w ⟨g1,rfl,hS⟩
  refine zla (xal (cs:= [_,_,_,_,_]) YD hS) ?_;rintro _ w ⟨g2,rfl,hS⟩
  refine(zP)<|zx5<|(zV (xls 0 Zx hS))<|zlc (xc0 Zec) (Rh (t:=t) w (hT.below hS.below)) ?_;rintro _ w ⟨rfl,hS'⟩
  replace hS:=hS.cmp hS';clear hS'
  refine(zP)<|(zP)<|zlb 21 ?_ ?_<;>intro hc;rotate_left
  refine zlv xmv ?_
  have hp:TPrp t:=by first|assumption|exact Classical.not_not.1 ‹¬¬(TPrp t)›
  have b1:=hp.n1
  have b2:=hp.n2
  have b3:=hp.m2
  have b4:=hp.v
  have b5:=hp.d1
  have b6:=hp.d2
  have b7:=hp.c
  have hl0:=hp.len (i:=0) (by omega) (by omega)
  refine(zP)<|(zP)<|(zP)<|zlb 25 ?_ ?_<;>intro hc;rotate_left
  refine(zP)<|(zV (xfb 2 fd_175_2))<|(zV (xlb 0 pl_22 hS))<|(zV (xln Zb hT.B.slh))<|(zP)<|(zP)<|(zP)<|zlb 32 ?_ ?_<;>intro hc;rotate_left
  refine zs4 ?_
  refine zlb 36 ?_ ?_<;>intro hc;rotate_left
  refine(zP)<|(zV (xfb 3 fd_175_3))<|(zV (xlb 0 pl_22 hS))<|(zV (xln Zb hT.F.slh))<|(zP)<|(zP)<|(zP)<|zlb 43 ?_ ?_<;>intro hc;rotate_left
  refine(zV (xfb 4 fd_175_4))<|(zV (xlb 0 Zu hS))<|(zP)<|(zV (Zf (r:=row+1)))<|(zV (xix (kk:=row+1) Zi hT.C.row.slh))<|(zV (xlr (u:=(vv (row+1))) pl_22 (hT.C.row.below hS.below)))<|zlv xmv ?_
  have hlr:=hp.len (i:=row+1) (by omega) (by omega)
  refine(zV (Zf (r:=col+1)))<|(zV (xix (kk:=col+1) Zb (hT.C.p (row+1) (by omega) (by omega)).slh))<|(zV (xlr (u:= .int .i64 ((t.C (row+1)) (col+1))) pl_3 ((hT.C.p (row+1) (by omega) (by omega)).below hS.below)))<|(zP)<|(zP)<|zlt<|Ze ?_ ?_<;>intro hc
  ·
   refine zsr<|(zV (xany (v:= .agg #[.int .i64 0,.int .i64 0,.slice none 0 0,.slice none 0 0,.slice none 0 0])))<|zle (xsw 1 Zx hS) ?_;clear hS;rintro w hS
   refine(zP)<|zx14<|ZW 1 Zx hS ⟨_,rfl,?_⟩
   exact⟨_,_,_,fun _=>undef,Tb.zero,1,rfl,.inl ⟨by first|exact fun hh=>absurd hh.1 ‹_›|(rintro⟨_,p1,p2,p3,p4,p5⟩;omega),rfl,rfl⟩,slh_nil,slh_nil,slh_nil,((((hS.sub (.cons _ (.cons _ .slnil))).addnil 1 3 (ints Tb.zero.B)).addnil 1 3 (ints Tb.zero.F)).addnil 1 22 (fun _=>undef)).addrows 3 (fun _=>undef) Tb.zero.ln Tb.zero.C⟩
  refine Z7<|zlv xmv ?_
  have hnz:t.C (row+1) (col+1)≠0:=by omega
  have hpb:=hp.cell (i:=row+1) (j:=col+1) (by omega) (by omega) (by omega) (by omega)
  refine(zV (Zf (r:=row+1)))<|(zP)<|(zV (Zf (r:=col+1)))<|(zP)<|(zP)<|zlz<|(zP)<|zx7 ?_
  refine XX (fun M w=>∃(sn9:Int),(sg (t.C (row+1) (col+1))=sn9/\(sn9=1\/sn9= -1))/\M= [(0,.agg #[.int .i64 t.vars,.int .i64 t.den,vB,vF,vC]),(1,.int .i64 row),(2,.int .i64 col),(3,.pointer (some ⟨g1,0,none⟩)),(6,.pointer (some ⟨g2,0,none⟩)),(7,.int .i64 0),(18,.agg #[.int .i64 t.vars,.int .i64 t.den,vB,vF,vC]),(19,B (TPrp t)),(20,B (¬(TPrp t))),(21,.bool false),(22,.int .i64 row),(23,B (row<0)),(24,B (row<0)),(25,.bool false),(26,.int .i64 row),(27,.pointer (some ⟨g1,2,none⟩)),(28,vB),(29,.int .i64 t.nb),(30,B (t.nb<=row)),(31,B (t.nb<=row)),(32,.bool false),(33,.int .i64 col),(34,B (col<0)),(35,B (col<0)),(36,.bool false),(37,.int .i64 col),(38,.pointer (some ⟨g1,3,none⟩)),(39,vF),(40,.int .i64 t.nf),(41,B (t.nf<=col)),(42,B (t.nf<=col)),(43,.bool false),(44,.pointer (some ⟨g1,4,none⟩)),(45,vC),(46,.int .i64 row),(47,.int .i64 (row+1)),(48,.pointer (some (cad vC (row+1)))),(49,(vv (row+1))),(50,.int .i64 col),(51,.int .i64 (col+1)),(52,.pointer (some (cad (vv (row+1)) (col+1)))),(53,.int .i64 ((t.C (row+1)) (col+1))),(54,B (((t.C (row+1)) (col+1))=0)),(55,B (((t.C (row+1)) (col+1))=0)),(57,.int .i64 row),(58,.int .i64 (row+1)),(59,.int .i64 col),(60,.int .i64 (col+1)),(8,.int .i64 (row+1)),(9,.int .i64 (col+1)),(10,.int .i64 sn9)]/\Sat w0 w [.blk g1 [.int .i64 t.vars,.int .i64 t.den,vB,vF,vC],.blk g2 [.int .i64 0,.int .i64 0,.slice none 0 0,.slice none 0 0,.slice none 0 0]]) ?_ ?_
  ·
   refine zsr<|(zV (xfb 4 fd_175_4))<|(zV (xlb 0 Zu hS))<|(zP)<|(zV (xix (kk:=row+1) Zi hT.C.row.slh))<|(zV (xlr (u:=(vv (row+1))) pl_22 (hT.C.row.below hS.below)))<|(zP)<|(zV (xix (kk:=col+1) Zb (hT.C.p (row+1) (by omega) (by omega)).slh))<|(zV (xlr (u:= .int .i64 ((t.C (row+1)) (col+1))) pl_3 ((hT.C.p (row+1) (by omega) (by omega)).below hS.below)))<|(zP)<|zlt<|Ze ?_ ?_<;>intro hc
   ·
    refine zrg<|(zP)<|zln<|zgj ⟨(-1),?_,rfl,hS⟩
    · exact⟨by unfold sg;first|rw [if_pos (by omega)]|rw [if_neg (by omega)],by omega⟩
   refine zsk<|zgj ⟨1,?_,rfl,hS⟩
   · exact⟨by unfold sg;first|rw [if_pos (by omega)]|rw [if_neg (by omega)],by omega⟩
  clear hS w;rintro M w ⟨sn9,fe,rfl,hS⟩
  obtain⟨hsg,hs9⟩:=fe
  have gS:sn9*t.C (row+1) (col+1)=t.C (row+1) (col+1)\/sn9*t.C (row+1) (col+1)= -t.C (row+1) (col+1):=by rcases hs9 with h|h<;>rw [h]<;>omega
  refine ztn<|zsq<| ?_
  refine XX (fun M w=>∃(g3:Nat) (v1:Value) (v2:Value) (v3:Value) (v4:Value),(Slh v2 t.nb)/\(Slh v4 t.nf)/\M= [(0,.agg #[.int .i64 t.vars,.int .i64 t.den,vB,vF,vC]),(1,.int .i64 row),(2,.int .i64 col),(3,.pointer (some ⟨g1,0,none⟩)),(6,.pointer (some ⟨g2,0,none⟩)),(7,.int .i64 0),(18,.agg #[.int .i64 t.vars,.int .i64 t.den,vB,vF,vC]),(19,B (TPrp t)),(20,B (¬(TPrp t))),(21,.bool false),(22,.int .i64 row),(23,B (row<0)),(24,B (row<0)),(25,.bool false),(26,.int .i64 row),(27,.pointer (some ⟨g1,2,none⟩)),(28,vB),(29,.int .i64 t.nb),(30,B (t.nb<=row)),(31,B (t.nb<=row)),(32,.bool false),(33,.int .i64 col),(34,B (col<0)),(35,B (col<0)),(36,.bool false),(37,.int .i64 col),(38,.pointer (some ⟨g1,3,none⟩)),(39,vF),(40,.int .i64 t.nf),(41,B (t.nf<=col)),(42,B (t.nf<=col)),(43,.bool false),(44,.pointer (some ⟨g1,4,none⟩)),(45,vC),(46,.int .i64 row),(47,.int .i64 (row+1)),(48,.pointer (some (cad vC (row+1)))),(49,(vv (row+1))),(50,.int .i64 col),(51,.int .i64 (col+1)),(52,.pointer (some (cad (vv (row+1)) (col+1)))),(53,.int .i64 ((t.C (row+1)) (col+1))),(54,B (((t.C (row+1)) (col+1))=0)),(55,B (((t.C (row+1)) (col+1))=0)),(57,.int .i64 row),(58,.int .i64 (row+1)),(59,.int .i64 col),(60,.int .i64 (col+1)),(8,.int .i64 (row+1)),(9,.int .i64 (col+1)),(10,.int .i64 sn9),(70,.pointer (some ⟨g1,0,none⟩)),(71,.int .i64 t.vars),(72,.int .i64 sn9),(73,.pointer (some ⟨g1,4,none⟩)),(74,vC),(75,.int .i64 (row+1)),(76,.pointer (some (cad vC (row+1)))),(77,(vv (row+1))),(78,.int .i64 (col+1)),(79,.pointer (some (cad (vv (row+1)) (col+1)))),(80,.int .i64 ((t.C (row+1)) (col+1))),(81,.int .i64 (sn9*((t.C (row+1)) (col+1)))),(83,.pointer (some ⟨g1,2,none⟩)),(84,vB),(87,.pointer (some ⟨g1,3,none⟩)),(88,vF),(82,v1),(85,v2),(86,v3),(89,v4),(90,.agg #[.int .i64 t.vars,.int .i64 (sn9*((t.C (row+1)) (col+1))),v2,v4,.slice none 0 0]),(11,.pointer (some ⟨g3,0,none⟩))]/\Sat w0 w [.blk g1 [.int .i64 t.vars,.int .i64 t.den,vB,vF,vC],.blk g2 [.int .i64 0,.int .i64 0,.slice none 0 0,.slice none 0 0,.slice none 0 0],.own v2 1 3 t.nb (ints (cat 0 (fun _=>0) t.B)),.own v4 1 3 t.nf (ints (cat 0 (fun _=>0) t.F)),.blk g3 [.int .i64 t.vars,.int .i64 (sn9*((t.C (row+1)) (col+1))),v2,v4,.slice none 0 0]]) ?_ ?_
  ·
   refine zdst [0,1] [0,1] 22 mx_ hS ?_;clear hS;intro w hS
   refine(zDw 0 (xfb 0 fd_175_0))<|(zDl 1 (fun w hS=>(xlb 0 pl_3 hS)))<|(zDw 2 xmv)<|(zDw 3 (xfb 4 fd_175_4))<|(zDl 4 (fun w hS=>(xlb 0 Zu hS)))<|(zDw 5 xmv)<|(zDw 6 (xix (kk:=row+1) Zi hT.C.row.slh))<|(zDl 7 (fun w hS=>(xlr (u:=(vv (row+1))) pl_22 (hT.C.row.below hS.below))))<|(zDw 8 xmv)<|(zDw 9 (xix (kk:=col+1) Zb (hT.C.p (row+1) (by omega) (by omega)).slh))<|(zDl 10 (fun w hS=>(xlr (u:= .int .i64 ((t.C (row+1)) (col+1))) pl_3 ((hT.C.p (row+1) (by omega) (by omega)).below hS.below))))<|(zDw 11 (Z4 (r:=(sn9*((t.C (row+1)) (col+1)))) (e:=rfl)))<|(zDw 13 (xfb 2 fd_175_2))<|(zDl 14 (fun w hS=>(xlb 0 pl_22 hS)))<|zDrv 17 (xfb 3 fd_175_3) ?_
   refine(zDl 18 (fun w hS=>(xlb 0 pl_22 hS)))<|YS (r:= [12,16,21]) ((ZO ?_ (ZO ?_ (ZO ?_ YR))))
   ·
    refine zka (xl0 (c:=ints (fun _=>0)) Zb hS) ?_;rintro v1 w ⟨hS,hv1⟩
    refine⟨⟨fun _=>hS.pk [0,1],hS.pk [0,1]⟩,?_⟩
    refine YS (r:= [15,16,21]) ((ZO ?_ (ZO ?_ (ZO ?_ YR))))
    ·
     refine zka (xap 2 (r:=t.nb) (f:=ints (cat 0 (fun _=>0) t.B)) Zb Zn hS (hT.B.below hS.below) (by exact Zp _ _ _)) ?_;rintro v2 w ⟨hS,hv2⟩
     refine⟨⟨fun _=>hS.pk [0,1],hS.pk [0,1]⟩,?_⟩
     refine YS (r:= [16,21]) ((ZO ?_ (ZO ?_ YR)))
     ·
      refine zka (xl0 (c:=ints (fun _=>0)) Zb hS) ?_;rintro v3 w ⟨hS,hv3⟩
      refine⟨⟨fun _=>hS.pk [0,1],hS.pk [0,1]⟩,?_⟩
      refine YS (r:= [19,21]) ((ZO ?_ (ZO ?_ YR)))
      ·
       refine zka (xap 3 (r:=t.nf) (f:=ints (cat 0 (fun _=>0) t.F)) Zb Zn hS (hT.F.below hS.below) (by exact Zp _ _ _)) ?_;rintro v4 w ⟨hS,hv4⟩
       refine⟨⟨fun _=>hS.pk [0,1],hS.pk [0,1]⟩,?_⟩
       refine zdv 20 (fun _=>(xany (v:= .agg #[.int .i64 t.vars,.int .i64 (sn9*((t.C (row+1)) (col+1))),v2,v4,.slice none 0 0]) (hr:=by obtain⟨_,_,_,_,rfl,_⟩:=hv2;obtain⟨_,_,_,_,rfl,_⟩:=hv4;kernel_rfl))) ?_
       refine zda 21 (xal (cs:= [_,_,_,_,_]) YD hS) ?_;rintro _ w ⟨g3,rfl,hS⟩
       refine⟨⟨fun _=>hS.pk [0,1],hS.pk [0,1]⟩,?_⟩
       refine zde 22 (xsw 4 Zx hS (hd:=(Za rfl (Za rfl (Za hv2.one (Za hv4.one (Za rfl Zg))))))) ?_;clear hS;rintro w hS
       refine⟨⟨fun h=>absurd h (by decide),hS.pk [0,1]⟩,?_⟩
       refine zdd<|zgj ⟨g3,v1,v2,v3,v4,hv2,hv4,rfl,hS⟩
      refine zka (xal (cs:= [_,_,_,_,_]) YD hS) ?_;rintro _ w ⟨g3,rfl,hS⟩
      refine⟨⟨fun _=>hS.pk [0,1],hS.pk [0,1]⟩,?_⟩
      refine zda 19 (xap 3 (r:=t.nf) (f:=ints (cat 0 (fun _=>0) t.F)) Zb Zn hS (hT.F.below hS.below) (by exact Zp _ _ _)) ?_;rintro v4 w ⟨hS,hv4⟩
      refine⟨⟨fun _=>hS.pk [0,1],hS.pk [0,1]⟩,?_⟩
      refine zdv 20 (fun _=>(xany (v:= .agg #[.int .i64 t.vars,.int .i64 (sn9*((t.C (row+1)) (col+1))),v2,v4,.slice none 0 0]) (hr:=by obtain⟨_,_,_,_,rfl,_⟩:=hv2;obtain⟨_,_,_,_,rfl,_⟩:=hv4;kernel_rfl))) ?_
      refine zde 22 (xsw 4 Zx hS (hd:=(Za rfl (Za rfl (Za hv2.one (Za hv4.one (Za rfl Zg))))))) ?_;clear hS;rintro w hS
      refine⟨⟨fun h=>absurd h (by decide),hS.pk [0,1]⟩,?_⟩
      refine zdd<|zgj ⟨g3,v1,v2,v3,v4,hv2,hv4,rfl,hS⟩
     refine zka (xal (cs:= [_,_,_,_,_]) YD hS) ?_;rintro _ w ⟨g3,rfl,hS⟩
     refine⟨⟨fun _=>hS.pk [0,1],hS.pk [0,1]⟩,?_⟩
     refine zda 16 (xl0 (c:=ints (fun _=>0)) Zb hS) ?_;rintro v3 w ⟨hS,hv3⟩
     refine⟨⟨fun _=>hS.pk [0,1],hS.pk [0,1]⟩,?_⟩
     refine zda 19 (xap 4 (r:=t.nf) (f:=ints (cat 0 (fun _=>0) t.F)) Zb Zn hS (hT.F.below hS.below) (by exact Zp _ _ _)) ?_;rintro v4 w ⟨hS,hv4⟩
     refine⟨⟨fun _=>hS.pk [0,1],hS.pk [0,1]⟩,?_⟩
     refine zdv 20 (fun _=>(xany (v:= .agg #[.int .i64 t.vars,.int .i64 (sn9*((t.C (row+1)) (col+1))),v2,v4,.slice none 0 0]) (hr:=by obtain⟨_,_,_,_,rfl,_⟩:=hv2;obtain⟨_,_,_,_,rfl,_⟩:=hv4;kernel_rfl))) ?_
     refine zde 22 (xsw 3 Zx hS (hd:=(Za rfl (Za rfl (Za hv2.one (Za hv4.one (Za rfl Zg))))))) ?_;clear hS;rintro w hS
     refine⟨⟨fun h=>absurd h (by decide),hS.pk [0,1]⟩,?_⟩
     refine zdd<|zgj ⟨g3,v1,v2,v3,v4,hv2,hv4,rfl,hS.pk [0,1,2,4,3]⟩
    ·
     refine zka (xl0 (c:=ints (fun _=>0)) Zb hS) ?_;rintro v2 w ⟨hS,hv2⟩
     refine⟨⟨fun _=>hS.pk [0,1],hS.pk [0,1]⟩,?_⟩
     refine YS (r:= [15,21]) ((ZO ?_ (ZO ?_ YR)))
     ·
      refine zka (xap 2 (r:=t.nb) (f:=ints (cat 0 (fun _=>0) t.B)) Zb Zn hS (hT.B.below hS.below) (by exact Zp _ _ _)) ?_;rintro v3 w ⟨hS,hv3⟩
      refine⟨⟨fun _=>hS.pk [0,1],hS.pk [0,1]⟩,?_⟩
      refine YS (r:= [19,21]) ((ZO ?_ (ZO ?_ YR)))
      ·
       refine zka (xap 3 (r:=t.nf) (f:=ints (cat 0 (fun _=>0) t.F)) Zb Zn hS (hT.F.below hS.below) (by exact Zp _ _ _)) ?_;rintro v4 w ⟨hS,hv4⟩
       refine⟨⟨fun _=>hS.pk [0,1],hS.pk [0,1]⟩,?_⟩
       refine zdv 20 (fun _=>(xany (v:= .agg #[.int .i64 t.vars,.int .i64 (sn9*((t.C (row+1)) (col+1))),v3,v4,.slice none 0 0]) (hr:=by obtain⟨_,_,_,_,rfl,_⟩:=hv3;obtain⟨_,_,_,_,rfl,_⟩:=hv4;kernel_rfl))) ?_
       refine zda 21 (xal (cs:= [_,_,_,_,_]) YD hS) ?_;rintro _ w ⟨g3,rfl,hS⟩
       refine⟨⟨fun _=>hS.pk [0,1],hS.pk [0,1]⟩,?_⟩
       refine zde 22 (xsw 4 Zx hS (hd:=(Za rfl (Za rfl (Za hv3.one (Za hv4.one (Za rfl Zg))))))) ?_;clear hS;rintro w hS
       refine⟨⟨fun h=>absurd h (by decide),hS.pk [0,1]⟩,?_⟩
       refine zdd<|zgj ⟨g3,v1,v3,v2,v4,hv3,hv4,rfl,hS⟩
      refine zka (xal (cs:= [_,_,_,_,_]) YD hS) ?_;rintro _ w ⟨g3,rfl,hS⟩
      refine⟨⟨fun _=>hS.pk [0,1],hS.pk [0,1]⟩,?_⟩
      refine zda 19 (xap 3 (r:=t.nf) (f:=ints (cat 0 (fun _=>0) t.F)) Zb Zn hS (hT.F.below hS.below) (by exact Zp _ _ _)) ?_;rintro v4 w ⟨hS,hv4⟩
      refine⟨⟨fun _=>hS.pk [0,1],hS.pk [0,1]⟩,?_⟩
      refine zdv 20 (fun _=>(xany (v:= .agg #[.int .i64 t.vars,.int .i64 (sn9*((t.C (row+1)) (col+1))),v3,v4,.slice none 0 0]) (hr:=by obtain⟨_,_,_,_,rfl,_⟩:=hv3;obtain⟨_,_,_,_,rfl,_⟩:=hv4;kernel_rfl))) ?_
      refine zde 22 (xsw 4 Zx hS (hd:=(Za rfl (Za rfl (Za hv3.one (Za hv4.one (Za rfl Zg))))))) ?_;clear hS;rintro w hS
      refine⟨⟨fun h=>absurd h (by decide),hS.pk [0,1]⟩,?_⟩
      refine zdd<|zgj ⟨g3,v1,v3,v2,v4,hv3,hv4,rfl,hS⟩
     refine zka (xal (cs:= [_,_,_,_,_]) YD hS) ?_;rintro _ w ⟨g3,rfl,hS⟩
     refine⟨⟨fun _=>hS.pk [0,1],hS.pk [0,1]⟩,?_⟩
     refine zda 15 (xap 2 (r:=t.nb) (f:=ints (cat 0 (fun _=>0) t.B)) Zb Zn hS (hT.B.below hS.below) (by exact Zp _ _ _)) ?_;rintro v3 w ⟨hS,hv3⟩
     refine⟨⟨fun _=>hS.pk [0,1],hS.pk [0,1]⟩,?_⟩
     refine zda 19 (xap 3 (r:=t.nf) (f:=ints (cat 0 (fun _=>0) t.F)) Zb Zn hS (hT.F.below hS.below) (by exact Zp _ _ _)) ?_;rintro v4 w ⟨hS,hv4⟩
     refine⟨⟨fun _=>hS.pk [0,1],hS.pk [0,1]⟩,?_⟩
     refine zdv 20 (fun _=>(xany (v:= .agg #[.int .i64 t.vars,.int .i64 (sn9*((t.C (row+1)) (col+1))),v3,v4,.slice none 0 0]) (hr:=by obtain⟨_,_,_,_,rfl,_⟩:=hv3;obtain⟨_,_,_,_,rfl,_⟩:=hv4;kernel_rfl))) ?_
     refine zde 22 (xsw 4 Zx hS (hd:=(Za rfl (Za rfl (Za hv3.one (Za hv4.one (Za rfl Zg))))))) ?_;clear hS;rintro w hS
     refine⟨⟨fun h=>absurd h (by decide),hS.pk [0,1]⟩,?_⟩
     refine zdd<|zgj ⟨g3,v1,v3,v2,v4,hv3,hv4,rfl,hS⟩
    refine zka (xal (cs:= [_,_,_,_,_]) YD hS) ?_;rintro _ w ⟨g3,rfl,hS⟩
    refine⟨⟨fun _=>hS.pk [0,1],hS.pk [0,1]⟩,?_⟩
    refine YS (r:= [15,16]) ((ZO ?_ (ZO ?_ YR)))
    ·
     refine zka (xap 2 (r:=t.nb) (f:=ints (cat 0 (fun _=>0) t.B)) Zb Zn hS (hT.B.below hS.below) (by exact Zp _ _ _)) ?_;rintro v2 w ⟨hS,hv2⟩
     refine⟨⟨fun _=>hS.pk [0,1],hS.pk [0,1]⟩,?_⟩
     refine zda 16 (xl0 (c:=ints (fun _=>0)) Zb hS) ?_;rintro v3 w ⟨hS,hv3⟩
     refine⟨⟨fun _=>hS.pk [0,1],hS.pk [0,1]⟩,?_⟩
     refine zda 19 (xap 4 (r:=t.nf) (f:=ints (cat 0 (fun _=>0) t.F)) Zb Zn hS (hT.F.below hS.below) (by exact Zp _ _ _)) ?_;rintro v4 w ⟨hS,hv4⟩
     refine⟨⟨fun _=>hS.pk [0,1],hS.pk [0,1]⟩,?_⟩
     refine zdv 20 (fun _=>(xany (v:= .agg #[.int .i64 t.vars,.int .i64 (sn9*((t.C (row+1)) (col+1))),v2,v4,.slice none 0 0]) (hr:=by obtain⟨_,_,_,_,rfl,_⟩:=hv2;obtain⟨_,_,_,_,rfl,_⟩:=hv4;kernel_rfl))) ?_
     refine zde 22 (xsw 3 Zx hS (hd:=(Za rfl (Za rfl (Za hv2.one (Za hv4.one (Za rfl Zg))))))) ?_;clear hS;rintro w hS
     refine⟨⟨fun h=>absurd h (by decide),hS.pk [0,1]⟩,?_⟩
     refine zdd<|zgj ⟨g3,v1,v2,v3,v4,hv2,hv4,rfl,hS.pk [0,1,2,4,3]⟩
    refine zka (xl0 (c:=ints (fun _=>0)) Zb hS) ?_;rintro v2 w ⟨hS,hv2⟩
    refine⟨⟨fun _=>hS.pk [0,1],hS.pk [0,1]⟩,?_⟩
    refine zda 15 (xap 2 (r:=t.nb) (f:=ints (cat 0 (fun _=>0) t.B)) Zb Zn hS (hT.B.below hS.below) (by exact Zp _ _ _)) ?_;rintro v3 w ⟨hS,hv3⟩
    refine⟨⟨fun _=>hS.pk [0,1],hS.pk [0,1]⟩,?_⟩
    refine zda 19 (xap 4 (r:=t.nf) (f:=ints (cat 0 (fun _=>0) t.F)) Zb Zn hS (hT.F.below hS.below) (by exact Zp _ _ _)) ?_;rintro v4 w ⟨hS,hv4⟩
    refine⟨⟨fun _=>hS.pk [0,1],hS.pk [0,1]⟩,?_⟩
    refine zdv 20 (fun _=>(xany (v:= .agg #[.int .i64 t.vars,.int .i64 (sn9*((t.C (row+1)) (col+1))),v3,v4,.slice none 0 0]) (hr:=by obtain⟨_,_,_,_,rfl,_⟩:=hv3;obtain⟨_,_,_,_,rfl,_⟩:=hv4;kernel_rfl))) ?_
    refine zde 22 (xsw 3 Zx hS (hd:=(Za rfl (Za rfl (Za hv3.one (Za hv4.one (Za rfl Zg))))))) ?_;clear hS;rintro w hS
    refine⟨⟨fun h=>absurd h (by decide),hS.pk [0,1]⟩,?_⟩
    refine zdd<|zgj ⟨g3,v1,v3,v2,v4,hv3,hv4,rfl,hS.pk [0,1,2,4,3]⟩
   ·
    refine zka (xl0 (c:=ints (fun _=>0)) Zb hS) ?_;rintro v1 w ⟨hS,hv1⟩
    refine⟨⟨fun _=>hS.pk [0,1],hS.pk [0,1]⟩,?_⟩
    refine YS (r:= [12,21]) ((ZO ?_ (ZO ?_ YR)))
    ·
     refine zka (xl0 (c:=ints (fun _=>0)) Zb hS) ?_;rintro v2 w ⟨hS,hv2⟩
     refine⟨⟨fun _=>hS.pk [0,1],hS.pk [0,1]⟩,?_⟩
     refine YS (r:= [15,21]) ((ZO ?_ (ZO ?_ YR)))
     ·
      refine zka (xap 3 (r:=t.nb) (f:=ints (cat 0 (fun _=>0) t.B)) Zb Zn hS (hT.B.below hS.below) (by exact Zp _ _ _)) ?_;rintro v3 w ⟨hS,hv3⟩
      refine⟨⟨fun _=>hS.pk [0,1],hS.pk [0,1]⟩,?_⟩
      refine YS (r:= [19,21]) ((ZO ?_ (ZO ?_ YR)))
      ·
       refine zka (xap 2 (r:=t.nf) (f:=ints (cat 0 (fun _=>0) t.F)) Zb Zn hS (hT.F.below hS.below) (by exact Zp _ _ _)) ?_;rintro v4 w ⟨hS,hv4⟩
       refine⟨⟨fun _=>hS.pk [0,1],hS.pk [0,1]⟩,?_⟩
       refine zdv 20 (fun _=>(xany (v:= .agg #[.int .i64 t.vars,.int .i64 (sn9*((t.C (row+1)) (col+1))),v3,v4,.slice none 0 0]) (hr:=by obtain⟨_,_,_,_,rfl,_⟩:=hv3;obtain⟨_,_,_,_,rfl,_⟩:=hv4;kernel_rfl))) ?_
       refine zda 21 (xal (cs:= [_,_,_,_,_]) YD hS) ?_;rintro _ w ⟨g3,rfl,hS⟩
       refine⟨⟨fun _=>hS.pk [0,1],hS.pk [0,1]⟩,?_⟩
       refine zde 22 (xsw 4 Zx hS (hd:=(Za rfl (Za rfl (Za hv3.one (Za hv4.one (Za rfl Zg))))))) ?_;clear hS;rintro w hS
       refine⟨⟨fun h=>absurd h (by decide),hS.pk [0,1]⟩,?_⟩
       refine zdd<|zgj ⟨g3,v2,v3,v1,v4,hv3,hv4,rfl,hS.pk [0,1,3,2,4]⟩
      refine zka (xal (cs:= [_,_,_,_,_]) YD hS) ?_;rintro _ w ⟨g3,rfl,hS⟩
      refine⟨⟨fun _=>hS.pk [0,1],hS.pk [0,1]⟩,?_⟩
      refine zda 19 (xap 2 (r:=t.nf) (f:=ints (cat 0 (fun _=>0) t.F)) Zb Zn hS (hT.F.below hS.below) (by exact Zp _ _ _)) ?_;rintro v4 w ⟨hS,hv4⟩
      refine⟨⟨fun _=>hS.pk [0,1],hS.pk [0,1]⟩,?_⟩
      refine zdv 20 (fun _=>(xany (v:= .agg #[.int .i64 t.vars,.int .i64 (sn9*((t.C (row+1)) (col+1))),v3,v4,.slice none 0 0]) (hr:=by obtain⟨_,_,_,_,rfl,_⟩:=hv3;obtain⟨_,_,_,_,rfl,_⟩:=hv4;kernel_rfl))) ?_
      refine zde 22 (xsw 4 Zx hS (hd:=(Za rfl (Za rfl (Za hv3.one (Za hv4.one (Za rfl Zg))))))) ?_;clear hS;rintro w hS
      refine⟨⟨fun h=>absurd h (by decide),hS.pk [0,1]⟩,?_⟩
      refine zdd<|zgj ⟨g3,v2,v3,v1,v4,hv3,hv4,rfl,hS.pk [0,1,3,2,4]⟩
     refine zka (xal (cs:= [_,_,_,_,_]) YD hS) ?_;rintro _ w ⟨g3,rfl,hS⟩
     refine⟨⟨fun _=>hS.pk [0,1],hS.pk [0,1]⟩,?_⟩
     refine zda 15 (xap 3 (r:=t.nb) (f:=ints (cat 0 (fun _=>0) t.B)) Zb Zn hS (hT.B.below hS.below) (by exact Zp _ _ _)) ?_;rintro v3 w ⟨hS,hv3⟩
     refine⟨⟨fun _=>hS.pk [0,1],hS.pk [0,1]⟩,?_⟩
     refine zda 19 (xap 2 (r:=t.nf) (f:=ints (cat 0 (fun _=>0) t.F)) Zb Zn hS (hT.F.below hS.below) (by exact Zp _ _ _)) ?_;rintro v4 w ⟨hS,hv4⟩
     refine⟨⟨fun _=>hS.pk [0,1],hS.pk [0,1]⟩,?_⟩
     refine zdv 20 (fun _=>(xany (v:= .agg #[.int .i64 t.vars,.int .i64 (sn9*((t.C (row+1)) (col+1))),v3,v4,.slice none 0 0]) (hr:=by obtain⟨_,_,_,_,rfl,_⟩:=hv3;obtain⟨_,_,_,_,rfl,_⟩:=hv4;kernel_rfl))) ?_
     refine zde 22 (xsw 4 Zx hS (hd:=(Za rfl (Za rfl (Za hv3.one (Za hv4.one (Za rfl Zg))))))) ?_;clear hS;rintro w hS
     refine⟨⟨fun h=>absurd h (by decide),hS.pk [0,1]⟩,?_⟩
     refine zdd<|zgj ⟨g3,v2,v3,v1,v4,hv3,hv4,rfl,hS.pk [0,1,3,2,4]⟩
    refine zka (xal (cs:= [_,_,_,_,_]) YD hS) ?_;rintro _ w ⟨g3,rfl,hS⟩
    refine⟨⟨fun _=>hS.pk [0,1],hS.pk [0,1]⟩,?_⟩
    refine zda 12 (xl0 (c:=ints (fun _=>0)) Zb hS) ?_;rintro v2 w ⟨hS,hv2⟩
    refine⟨⟨fun _=>hS.pk [0,1],hS.pk [0,1]⟩,?_⟩
    refine zda 15 (xap 4 (r:=t.nb) (f:=ints (cat 0 (fun _=>0) t.B)) Zb Zn hS (hT.B.below hS.below) (by exact Zp _ _ _)) ?_;rintro v3 w ⟨hS,hv3⟩
    refine⟨⟨fun _=>hS.pk [0,1],hS.pk [0,1]⟩,?_⟩
    refine zda 19 (xap 2 (r:=t.nf) (f:=ints (cat 0 (fun _=>0) t.F)) Zb Zn hS (hT.F.below hS.below) (by exact Zp _ _ _)) ?_;rintro v4 w ⟨hS,hv4⟩
    refine⟨⟨fun _=>hS.pk [0,1],hS.pk [0,1]⟩,?_⟩
    refine zdv 20 (fun _=>(xany (v:= .agg #[.int .i64 t.vars,.int .i64 (sn9*((t.C (row+1)) (col+1))),v3,v4,.slice none 0 0]) (hr:=by obtain⟨_,_,_,_,rfl,_⟩:=hv3;obtain⟨_,_,_,_,rfl,_⟩:=hv4;kernel_rfl))) ?_
    refine zde 22 (xsw 3 Zx hS (hd:=(Za rfl (Za rfl (Za hv3.one (Za hv4.one (Za rfl Zg))))))) ?_;clear hS;rintro w hS
    refine⟨⟨fun h=>absurd h (by decide),hS.pk [0,1]⟩,?_⟩
    refine zdd<|zgj ⟨g3,v2,v3,v1,v4,hv3,hv4,rfl,hS.pk [0,1,4,2,3]⟩
   refine zka (xal (cs:= [_,_,_,_,_]) YD hS) ?_;rintro _ w ⟨g3,rfl,hS⟩
   refine⟨⟨fun _=>hS.pk [0,1],hS.pk [0,1]⟩,?_⟩
   refine YS (r:= [12,16]) ((ZO ?_ (ZO ?_ YR)))
   ·
    refine zka (xl0 (c:=ints (fun _=>0)) Zb hS) ?_;rintro v1 w ⟨hS,hv1⟩
    refine⟨⟨fun _=>hS.pk [0,1],hS.pk [0,1]⟩,?_⟩
    refine YS (r:= [15,16]) ((ZO ?_ (ZO ?_ YR)))
    ·
     refine zka (xap 3 (r:=t.nb) (f:=ints (cat 0 (fun _=>0) t.B)) Zb Zn hS (hT.B.below hS.below) (by exact Zp _ _ _)) ?_;rintro v2 w ⟨hS,hv2⟩
     refine⟨⟨fun _=>hS.pk [0,1],hS.pk [0,1]⟩,?_⟩
     refine zda 16 (xl0 (c:=ints (fun _=>0)) Zb hS) ?_;rintro v3 w ⟨hS,hv3⟩
     refine⟨⟨fun _=>hS.pk [0,1],hS.pk [0,1]⟩,?_⟩
     refine zda 19 (xap 4 (r:=t.nf) (f:=ints (cat 0 (fun _=>0) t.F)) Zb Zn hS (hT.F.below hS.below) (by exact Zp _ _ _)) ?_;rintro v4 w ⟨hS,hv4⟩
     refine⟨⟨fun _=>hS.pk [0,1],hS.pk [0,1]⟩,?_⟩
     refine zdv 20 (fun _=>(xany (v:= .agg #[.int .i64 t.vars,.int .i64 (sn9*((t.C (row+1)) (col+1))),v2,v4,.slice none 0 0]) (hr:=by obtain⟨_,_,_,_,rfl,_⟩:=hv2;obtain⟨_,_,_,_,rfl,_⟩:=hv4;kernel_rfl))) ?_
     refine zde 22 (xsw 2 Zx hS (hd:=(Za rfl (Za rfl (Za hv2.one (Za hv4.one (Za rfl Zg))))))) ?_;clear hS;rintro w hS
     refine⟨⟨fun h=>absurd h (by decide),hS.pk [0,1]⟩,?_⟩
     refine zdd<|zgj ⟨g3,v1,v2,v3,v4,hv2,hv4,rfl,hS.pk [0,1,3,4,2]⟩
    refine zka (xl0 (c:=ints (fun _=>0)) Zb hS) ?_;rintro v2 w ⟨hS,hv2⟩
    refine⟨⟨fun _=>hS.pk [0,1],hS.pk [0,1]⟩,?_⟩
    refine zda 15 (xap 3 (r:=t.nb) (f:=ints (cat 0 (fun _=>0) t.B)) Zb Zn hS (hT.B.below hS.below) (by exact Zp _ _ _)) ?_;rintro v3 w ⟨hS,hv3⟩
    refine⟨⟨fun _=>hS.pk [0,1],hS.pk [0,1]⟩,?_⟩
    refine zda 19 (xap 4 (r:=t.nf) (f:=ints (cat 0 (fun _=>0) t.F)) Zb Zn hS (hT.F.below hS.below) (by exact Zp _ _ _)) ?_;rintro v4 w ⟨hS,hv4⟩
    refine⟨⟨fun _=>hS.pk [0,1],hS.pk [0,1]⟩,?_⟩
    refine zdv 20 (fun _=>(xany (v:= .agg #[.int .i64 t.vars,.int .i64 (sn9*((t.C (row+1)) (col+1))),v3,v4,.slice none 0 0]) (hr:=by obtain⟨_,_,_,_,rfl,_⟩:=hv3;obtain⟨_,_,_,_,rfl,_⟩:=hv4;kernel_rfl))) ?_
    refine zde 22 (xsw 2 Zx hS (hd:=(Za rfl (Za rfl (Za hv3.one (Za hv4.one (Za rfl Zg))))))) ?_;clear hS;rintro w hS
    refine⟨⟨fun h=>absurd h (by decide),hS.pk [0,1]⟩,?_⟩
    refine zdd<|zgj ⟨g3,v1,v3,v2,v4,hv3,hv4,rfl,hS.pk [0,1,3,4,2]⟩
   refine zka (xl0 (c:=ints (fun _=>0)) Zb hS) ?_;rintro v1 w ⟨hS,hv1⟩
   refine⟨⟨fun _=>hS.pk [0,1],hS.pk [0,1]⟩,?_⟩
   refine zda 12 (xl0 (c:=ints (fun _=>0)) Zb hS) ?_;rintro v2 w ⟨hS,hv2⟩
   refine⟨⟨fun _=>hS.pk [0,1],hS.pk [0,1]⟩,?_⟩
   refine zda 15 (xap 4 (r:=t.nb) (f:=ints (cat 0 (fun _=>0) t.B)) Zb Zn hS (hT.B.below hS.below) (by exact Zp _ _ _)) ?_;rintro v3 w ⟨hS,hv3⟩
   refine⟨⟨fun _=>hS.pk [0,1],hS.pk [0,1]⟩,?_⟩
   refine zda 19 (xap 3 (r:=t.nf) (f:=ints (cat 0 (fun _=>0) t.F)) Zb Zn hS (hT.F.below hS.below) (by exact Zp _ _ _)) ?_;rintro v4 w ⟨hS,hv4⟩
   refine⟨⟨fun _=>hS.pk [0,1],hS.pk [0,1]⟩,?_⟩
   refine zdv 20 (fun _=>(xany (v:= .agg #[.int .i64 t.vars,.int .i64 (sn9*((t.C (row+1)) (col+1))),v3,v4,.slice none 0 0]) (hr:=by obtain⟨_,_,_,_,rfl,_⟩:=hv3;obtain⟨_,_,_,_,rfl,_⟩:=hv4;kernel_rfl))) ?_
   refine zde 22 (xsw 2 Zx hS (hd:=(Za rfl (Za rfl (Za hv3.one (Za hv4.one (Za rfl Zg))))))) ?_;clear hS;rintro w hS
   refine⟨⟨fun h=>absurd h (by decide),hS.pk [0,1]⟩,?_⟩
   refine zdd<|zgj ⟨g3,v2,v3,v1,v4,hv3,hv4,rfl,hS.pk [0,1,4,3,2]⟩
  clear hS w;rintro M w ⟨g3,v1,v2,v3,v4,hv2,hv4,rfl,hS⟩
  refine ztn<|zsq<|zdst [0,1,2,3,4] [0,1,4] 17 mx_ hS ?_;clear hS;intro w hS
  refine(zDw 0 (xfb 2 fd_175_2))<|(zDl 1 (fun w hS=>(xlb 2 pl_22 hS)))<|(zDw 2 xmv)<|(zDw 3 (xfb 3 fd_175_3))<|(zDl 4 (fun w hS=>(xlb 2 pl_22 hS)))<|(zDw 5 xmv)<|(zDw 6 (xfb 3 fd_175_3))<|(zDl 7 (fun w hS=>(xlb 0 pl_22 hS)))<|(zDw 8 xmv)<|(zDw 9 (xix (kk:=col) Zb hT.F.slh))<|(zDl 10 (fun w hS=>(xlr (u:= .int .i64 (t.F col)) pl_3 (hT.F.below hS.below))))<|(zDw 11 (xfb 2 fd_175_2))<|(zDl 12 (fun w hS=>(xlb 0 pl_22 hS)))<|(zDw 13 xmv)<|zDrv 14 (xix (kk:=row) Zb hT.B.slh) ?_
  refine(zDl 15 (fun w hS=>(xlr (u:= .int .i64 (t.B row)) pl_3 (hT.B.below hS.below))))<|(zDw 16 (xix (kk:=row) Zb hv2))<|zde 17 (xso 2 pl_3 hS (ZE _ _ _)) ?_;clear hS;rintro w hS
  refine⟨⟨fun h=>absurd h (by decide),hS.pk [0,1,4]⟩,?_⟩
  refine(zDw 18 (xix (kk:=col) Zb hv4))<|zde 19 (xso 3 pl_3 hS (ZE _ _ _)) ?_;clear hS;rintro w hS
  refine⟨⟨fun h=>absurd h (by decide),hS.pk [0,1,4]⟩,?_⟩
  refine zdd<|ztn<|zsr ?_
  refine(zP)<|ZcW 12 (u:=B (True)) (YM trivial).symm ?_
  refine zx5<|(zP)<|zx6 ?_
  replace hS:=hS.addnil 1 22 (fun _=>Value.slice none 0 0)
  replace hS:=hS.addrows 3 (fun _=>Value.slice none 0 0) t.ln ((piv t row col).C)
  have yw:=fun k (k0:0<=k) (k1:k<0)=>hS.slhIn 6 rfl k0 k1
  refine zlp (fun mm M w=>∃(sm:Prop) (nC:Int) (wv:Int->Value) (i:Int) (wC:Value),mm=((t.nc-i).toNat)/\(0<=i)/\(i<=t.nc)/\(nC=i)/\(sm↔(∀a b,0<=a->a<i->0<=b->b<=t.nf-> -1073741824<=ZS t (row+1) (col+1) a b/\ZS t (row+1) (col+1) a b<=1073741824))/\(∀a b,0<=a->a<i->0<=b->b<=t.nf->RU t (row+1) (col+1) a b)/\(Slh wC nC)/\M= [(3,.pointer (some ⟨g1,0,none⟩)),(6,.pointer (some ⟨g2,0,none⟩)),(8,.int .i64 (row+1)),(9,.int .i64 (col+1)),(10,.int .i64 sn9),(11,.pointer (some ⟨g3,0,none⟩)),(12,B (sm)),(13,.int .i64 i)]/\Sat w0 w [.blk g1 [.int .i64 t.vars,.int .i64 t.den,vB,vF,vC],.blk g2 [.int .i64 0,.int .i64 0,.slice none 0 0,.slice none 0 0,.slice none 0 0],.own v2 1 3 t.nb (ints (upd (cat 0 (fun _=>0) t.B) row (t.F col))),.own v4 1 3 t.nf (ints (upd (cat 0 (fun _=>0) t.F) col (t.B row))),.blk g3 [.int .i64 t.vars,.int .i64 (sn9*((t.C (row+1)) (col+1))),v2,v4,wC],.own wC 1 22 nC wv,.sem (Frame.rows 3 nC wv t.ln ((piv t row col).C))]) ⟨True,0,(fun _=>Value.slice none 0 0),0,(.slice none 0 0),rfl,(by omega),(by omega),(by omega),?_,?_,?_,rfl,hS⟩ ?_
  ·
   exact⟨fun _ a b a0 a1=>by omega,fun _=>trivial⟩
  ·
   intro a b a0 a1;omega
  ·
   exact slh_nil
  clear hS w
  rintro mm M w ⟨sm,nC,wv,i,wC,rfl,h0,h1,hnC,hsm,hdv,hwC,rfl,hS⟩
  have qN:=fun k (k0:0<=k) (k1:k<nC)=>hS.slhIn 6 rfl k0 k1
  refine zx11<|(zP)<|(zV (xfb 4 fd_175_4))<|(zV (xlb 0 Zu hS))<|(zV (xln Zi hT.C.row.slh))<|(zP)<|zlt<|Ze ?_ ?_<;>intro hc
  ·
   refine zx3<|(zP)<|zx5<|(zP)<|zx6 ?_
   replace hS:=hS.addnil 1 3 (ints (fun _=>0))
   refine zlp (fun mm M w=>∃(sn:Prop) (nl:Int) (j:Int) (wl:Value) (fl:Int->Int),mm=((t.nf+1-j).toNat)/\(0<=j)/\(j<=t.nf+1)/\(nl=j)/\(sn↔((∀a b,0<=a->a<i->0<=b->b<=t.nf-> -1073741824<=ZS t (row+1) (col+1) a b/\ZS t (row+1) (col+1) a b<=1073741824)/\∀b,0<=b->b<j-> -1073741824<=ZS t (row+1) (col+1) i b/\ZS t (row+1) (col+1) i b<=1073741824))/\(∀b,0<=b->b<j->RU t (row+1) (col+1) i b)/\(∀b,0<=b->b<j->fl b=(piv t row col).C i b)/\(Slh wl nl)/\M= [(3,.pointer (some ⟨g1,0,none⟩)),(6,.pointer (some ⟨g2,0,none⟩)),(8,.int .i64 (row+1)),(9,.int .i64 (col+1)),(10,.int .i64 sn9),(11,.pointer (some ⟨g3,0,none⟩)),(12,B (sn)),(13,.int .i64 i),(14,wl),(15,.int .i64 j)]/\Sat w0 w [.blk g1 [.int .i64 t.vars,.int .i64 t.den,vB,vF,vC],.blk g2 [.int .i64 0,.int .i64 0,.slice none 0 0,.slice none 0 0,.slice none 0 0],.own v2 1 3 t.nb (ints (upd (cat 0 (fun _=>0) t.B) row (t.F col))),.own v4 1 3 t.nf (ints (upd (cat 0 (fun _=>0) t.F) col (t.B row))),.blk g3 [.int .i64 t.vars,.int .i64 (sn9*((t.C (row+1)) (col+1))),v2,v4,wC],.own wC 1 22 nC wv,.sem (Frame.rows 3 nC wv t.ln ((piv t row col).C)),.own wl 1 3 nl (ints fl)]) ⟨sm,0,0,(.slice none 0 0),(fun _=>0),rfl,(by omega),(by omega),(by omega),?_,?_,?_,?_,rfl,hS⟩ ?_
   ·
    exact⟨fun h=>⟨hsm.1 h,fun b b0 b1=>by omega⟩,fun h=>hsm.2 h.1⟩
   ·
    intro b b0 b1;omega
   ·
    intro b b0 b1;omega
   ·
    exact slh_nil
   clear hS w
   rintro mm M w ⟨sn,nl,j,wl,fl,rfl,j0,j1,hnl,hsn,hdr,hfl,hwl,rfl,hS⟩
   refine zx11<|(zP)<|(zV (xfb 4 fd_175_4))<|zlv (xlb 0 Zu hS) ?_
   have hli:=hp.len (i:=i) (by omega) (by omega)
   refine(zP)<|(zV (xix (kk:=i) Zi hT.C.row.slh))<|(zV (xlr (u:=(vv i)) pl_22 (hT.C.row.below hS.below)))<|(zV (xln Zb (hT.C.p i (by omega) (by omega)).slh))<|(zP)<|zlt<|Ze ?_ ?_<;>intro hc
   ·
    refine zx3<|(zV (xls 0 Zx hS))<|zs4 ?_
    refine zlc (xc0 ZhO) (Zi7 (t:=t) (i:=i) (j:=j) (r:=(row+1)) (s:=(col+1)) w (hT.below hS.below) hp (by omega) (by omega) (by omega) (by omega) (by omega) (by omega) (by omega) (by omega)) ?_;rintro _ w ⟨nn1,_,rfl,yz,rfl,hS'⟩
    replace hS:=hS.cmp hS';clear hS'
    refine zs2 ?_
    have fm:=KJ hp (r:=row+1) (s:=col+1) (i:=i) (j:=j) (by omega) (by omega) (by omega) (by omega) (by omega) (by omega) (by omega) (by omega);rw [<-yz] at fm
    have gT:sn9*nn1=nn1\/sn9*nn1= -nn1:=by rcases hs9 with h|h<;>rw [h]<;>omega
    refine(zP)<|(zP)<|(zP)<|zx5<|(zP)<|(zP)<|zlt<|Ze ?_ ?_<;>intro hc
    ·
     refine zsr<|(zV (xany (v:= .agg #[.int .i64 0,.int .i64 0,.slice none 0 0,.slice none 0 0,.slice none 0 0])))<|zle (xsw 1 Zx hS) ?_;clear hS;rintro w hS
     refine(zP)<|zlt<|zrt<|ztr<|zbr<|ztr<|ztr<|zbr<|ztr<|zbr<|ztr<|ztr<|zbr<|ztr<|ZW 1 Zx hS ⟨_,rfl,?_⟩
     exact⟨_,_,_,fun _=>undef,Tb.zero,4,rfl,.inr (.inl ⟨⟨hp,by omega,by omega,by omega,by omega,hnz⟩,fun hd=>absurd (hd i j (by omega) (by omega) (by omega) (by omega)) ‹_›,rfl,rfl⟩),slh_nil,slh_nil,slh_nil,((((hS.sub (.cons _ (.cons _ (.cons _ (.cons _ (.cons _ (.cons _ (.cons _ (.cons _ .slnil))))))))).addnil 1 3 (ints Tb.zero.B)).addnil 1 3 (ints Tb.zero.F)).addnil 1 22 (fun _=>undef)).addrows 3 (fun _=>undef) Tb.zero.ln Tb.zero.C⟩
    refine Z7<|(zP)<|(zP)<|zlb 139 ?_ ?_<;>intro hc
    ·
     refine zs4 ?_
     refine zlb 143 ?_ ?_<;>intro hc
     ·
      refine zs4 ?_
      refine zlt<|zrg<|(zP)<|(zP)<|(zP)<|(zV (Z4 (r:=(sn9*nn1)) (e:=rfl)))<|zla (xli (n:=1) (len:=1) (pv:= [(0,.int .i64 (sn9*nn1))]) (cs:= [.int .i64 (sn9*nn1)]) (c:=ints (fun _=>(sn9*nn1))) Zb Zn hS) ?_;rintro v5 w ⟨hS,hv5⟩
      refine zla (xap 7 (r:=nl+1) Zb Zn hS (hS.rowN 8 rfl) (Z1 _ _ _)) ?_;rintro v6 w ⟨hS,hv6⟩
      refine(zP)<|zx10<|(zP)<|(zV (Zf (r:=j+1)))<|(zP)<|zln<|zlq ⟨nn1<=1073741824,nl+1,j+1,v6,(snoc fl nl (sn9*nn1)),rfl,(by omega),(by omega),(by omega),?_,?_,?_,?_,rfl,hS.pk [0,1,2,3,4,5,6,7]⟩
      ·
       constructor
       · intro hx
         first
         |exact hx.elim
         | exact⟨(hsn.1 (by assumption)).1,fun b b0 b1=>by
           by_cases e:b=j
           · rw [e];omega
           · exact(hsn.1 (by assumption)).2 b b0 (by omega)⟩
       · rintro⟨h1,h2⟩
         have h3:=h2 j j0 (by omega)
         first
         |omega
         |exact absurd (hsn.2 ⟨h1,fun b b0 b1=>h2 b b0 (by omega)⟩) (by assumption)
      ·
       have hdq:RU t (row+1) (col+1) i j:=by first|assumption|exact Classical.not_not.1 ‹_›
       intro b b0 b1
       by_cases e:b=j
       · rw [e];exact hdq
       · exact hdr b b0 (by omega)
      ·
       intro b b0 b1;by_cases e:b<nl
       · rw [Zl e];exact hfl b b0 (by omega)
       · obtain rfl:b=j:=by omega
         rw [Zk e,X1,hsg,<-yz]
      ·
       exact hv6
     refine(zO)<|(zO)<|(zP)<|(zP)<|ZcW 12 (u:=B (False)) (B_false not_false).symm ?_
     refine zlt<|zrg<|(zP)<|(zP)<|(zP)<|(zV (Z4 (r:=(sn9*nn1)) (e:=rfl)))<|zla (xli (n:=1) (len:=1) (pv:= [(0,.int .i64 (sn9*nn1))]) (cs:= [.int .i64 (sn9*nn1)]) (c:=ints (fun _=>(sn9*nn1))) Zb Zn hS) ?_;rintro v7 w ⟨hS,hv7⟩
     refine zla (xap 7 (r:=nl+1) Zb Zn hS (hS.rowN 8 rfl) (Z1 _ _ _)) ?_;rintro v8 w ⟨hS,hv8⟩
     refine(zP)<|zx10<|(zP)<|(zV (Zf (r:=j+1)))<|(zP)<|zln<|zlq ⟨False,nl+1,j+1,v8,(snoc fl nl (sn9*nn1)),rfl,(by omega),(by omega),(by omega),?_,?_,?_,?_,rfl,hS.pk [0,1,2,3,4,5,6,7]⟩
     ·
      constructor
      · intro hx
        first
        |exact hx.elim
        | exact⟨(hsn.1 (by assumption)).1,fun b b0 b1=>by
          by_cases e:b=j
          · rw [e];omega
          · exact(hsn.1 (by assumption)).2 b b0 (by omega)⟩
      · rintro⟨h1,h2⟩
        have h3:=h2 j j0 (by omega)
        first
        |omega
        |exact absurd (hsn.2 ⟨h1,fun b b0 b1=>h2 b b0 (by omega)⟩) (by assumption)
     ·
      have hdq:RU t (row+1) (col+1) i j:=by first|assumption|exact Classical.not_not.1 ‹_›
      intro b b0 b1
      by_cases e:b=j
      · rw [e];exact hdq
      · exact hdr b b0 (by omega)
     ·
      intro b b0 b1;by_cases e:b<nl
      · rw [Zl e];exact hfl b b0 (by omega)
      · obtain rfl:b=j:=by omega
        rw [Zk e,X1,hsg,<-yz]
     ·
      exact hv8
    refine(zO)<|(zO)<|(zP)<|(zP)<|(zO)<|zlo ?_
    refine(zP)<|(zP)<|ZcW 12 (u:=B (False)) (B_false not_false).symm ?_
    refine zlt<|zrg<|(zP)<|(zP)<|(zP)<|(zV (Z4 (r:=(sn9*nn1)) (e:=rfl)))<|zla (xli (n:=1) (len:=1) (pv:= [(0,.int .i64 (sn9*nn1))]) (cs:= [.int .i64 (sn9*nn1)]) (c:=ints (fun _=>(sn9*nn1))) Zb Zn hS) ?_;rintro v9 w ⟨hS,hv9⟩
    refine zla (xap 7 (r:=nl+1) Zb Zn hS (hS.rowN 8 rfl) (Z1 _ _ _)) ?_;rintro v10 w ⟨hS,bd⟩
    refine(zP)<|zx10<|(zP)<|(zV (Zf (r:=j+1)))<|(zP)<|zln<|zlq ⟨False,nl+1,j+1,v10,(snoc fl nl (sn9*nn1)),rfl,(by omega),(by omega),(by omega),?_,?_,?_,?_,rfl,hS.pk [0,1,2,3,4,5,6,7]⟩
    ·
     constructor
     · intro hx
       first
       |exact hx.elim
       | exact⟨(hsn.1 (by assumption)).1,fun b b0 b1=>by
         by_cases e:b=j
         · rw [e];omega
         · exact(hsn.1 (by assumption)).2 b b0 (by omega)⟩
     · rintro⟨h1,h2⟩
       have h3:=h2 j j0 (by omega)
       first
       |omega
       |exact absurd (hsn.2 ⟨h1,fun b b0 b1=>h2 b b0 (by omega)⟩) (by assumption)
    ·
     have hdq:RU t (row+1) (col+1) i j:=by first|assumption|exact Classical.not_not.1 ‹_›
     intro b b0 b1
     by_cases e:b=j
     · rw [e];exact hdq
     · exact hdr b b0 (by omega)
    ·
     intro b b0 b1;by_cases e:b<nl
     · rw [Zl e];exact hfl b b0 (by omega)
     · obtain rfl:b=j:=by omega
       rw [Zk e,X1,hsg,<-yz]
    ·
     exact bd
   refine zxt<|ztx<|ztx<|zbh<|ztn<|zrg<|(zV (xfb 4 fd_175_4))<|(zV (xlb 4 Zu hS))<|(zP)<|zla (xli (n:=1) (len:=1) (pv:= [(0,wl)]) (cs:= [wl]) (c:=(fun _=>wl)) Zi Ya hS (hf:=by obtain⟨_,_,_,_,rfl,_⟩:=hwl;kernel_rfl)) ?_;rintro v11 w ⟨hS,aJ⟩
   refine zla (xap 5 (r:=nC+1) Zi Ya hS (hS.rowN 8 rfl) (Y8 _ _ _) (h1:=fun _ _ _=>hwl.one)) ?_;rintro v12 w ⟨hS,dM⟩
   replace hS:=Sat.merge (l1:= [_,_,_,_,_,_]) (l2:= []) (l3:= [_]) hS (by omega)
   have xe:=fun k (k0:0<=k) (k1:k<nC+1)=>hS.slhIn 6 rfl k0 k1
   replace hS:=hS.rerows (vv':=gsn wv nC wl) (ln':=t.ln) (f':=(piv t row col).C) 6 rfl (fun k k0 k1=>by
     by_cases e:k<i
     · exact⟨rfl,Zs (by omega),fun j _ _=>by rw [Zs (by omega)]⟩
     · have hki:k=i:=by omega
       refine⟨rfl,?_,fun b b0 b1=> ?_⟩
       · rw [Zr (by omega),hki];omega
       · rw [Zr (by omega),hki];exact hfl b b0 (by rw [Zr (by omega)] at b1;omega))
   have aF:=fun k (k0:0<=k) (k1:k<nC+1)=>hS.slhIn 6 rfl k0 k1
   refine(zV (xfb 4 fd_175_4))<|zle (xsb 4 Zu hS (hv:=dM.one)) ?_;clear hS;rintro w hS
   refine zx10<|(zP)<|(zV (Zf (r:=i+1)))<|(zP)<|zln<|zlq ⟨sn,nC+1,gsn wv nC wl,i+1,v12,rfl,(by omega),(by omega),(by omega),?_,?_,?_,rfl,hS.pk [0,1,2,3,4,5,6]⟩
   ·
    exact hsn.trans ⟨fun⟨h1,h2⟩ a b a0 a1 b0 b1=>by
     by_cases e:a=i
     · rw [e];exact h2 b b0 (by omega)
     · exact h1 a b a0 (by omega) b0 b1,fun h=>⟨fun a b a0 a1 b0 b1=>h a b a0 (by omega) b0 b1,fun b b0 b1=>h i b h0 (by omega) b0 (by omega)⟩⟩
   ·
    intro a b a0 a1 b0 b1
    by_cases e:a=i
    · subst e;exact hdr b b0 (by omega)
    · exact hdv a b a0 (by omega) b0 b1
   ·
    exact dM
  refine zx18<|(zP)<|(zP)<|zlt<|Ze ?_ ?_<;>intro hc
  ·
   refine zsr<|(zV (xany (v:= .agg #[.int .i64 0,.int .i64 0,.slice none 0 0,.slice none 0 0,.slice none 0 0])))<|zle (xsw 1 Zx hS) ?_;clear hS;rintro w hS
   refine(zP)<|zx14<|ZW 1 Zx hS ⟨_,rfl,?_⟩
   exact⟨_,_,_,fun _=>undef,Tb.zero,2,rfl,.inr (.inr (.inl ⟨⟨hp,by omega,by omega,by omega,by omega,hnz⟩,fun a b a0 a1 b0 b1=>hdv a b a0 (by omega) b0 b1,fun hq=>absurd (hsm.2 fun a b a0 a1 b0 b1=>by have hq1:=hq.cell (i:=a) (j:=b) a0 (by show a<=t.nb;omega) b0 b1;rw [X1,hsg] at hq1;rcases hs9 with h|h<;>rw [h] at hq1<;>omega) ‹_›,rfl,rfl⟩)),slh_nil,slh_nil,slh_nil,((((hS.sub (.cons _ (.cons _ (.cons _ (.cons _ (.cons _ (.cons _ (.cons _ .slnil)))))))).addnil 1 3 (ints Tb.zero.B)).addnil 1 3 (ints Tb.zero.F)).addnil 1 22 (fun _=>undef)).addrows 3 (fun _=>undef) Tb.zero.ln Tb.zero.C⟩
  refine Z7<|(zV (xls 4 Zx hS))<|zle (xsw 1 Zx hS (hd:=(Za rfl (Za rfl (Za hv2.one (Za hv4.one (Za hwC.one Zg))))))) ?_;clear hS;rintro w hS
  refine(zP)<|zx1<|ZW 1 Zx hS ⟨_,rfl,?_⟩
  obtain rfl:i=t.nc:=by omega
  have yN:(sn9*((t.C (row+1)) (col+1)))=(piv t row col).den:=by rw [Ux,hsg]
  replace hS:=hS.recont 2 rfl (d:=ints (piv t row col).B) (fun k k0 k1=>by unfold ints;show Value.int .i64 (upd (cat 0 (fun _=>0) t.B) row (t.F col) k)=Value.int .i64 (upd t.B row (t.F col) k);congr 1;by_cases e:k=row;rw [e,ZX,ZX];rw [upd_ne _ _ e,upd_ne _ _ e];unfold cat;rw [if_neg (by omega),Int.sub_zero])
  replace hS:=hS.recont 3 rfl (d:=ints (piv t row col).F) (fun k k0 k1=>by unfold ints;show Value.int .i64 (upd (cat 0 (fun _=>0) t.F) col (t.B row) k)=Value.int .i64 (upd t.F col (t.B row) k);congr 1;by_cases e:k=col;rw [e,ZX,ZX];rw [upd_ne _ _ e,upd_ne _ _ e];unfold cat;rw [if_neg (by omega),Int.sub_zero])
  have fd:=hsm.1 (by first|assumption|exact Classical.not_not.1 ‹_›)
  subst hnC
  exact⟨_,_,_,_,piv t row col,0,by rw [<-yN];rfl,.inr (.inr (.inr ⟨⟨hp,by omega,by omega,by omega,by omega,hnz⟩,fun a b a0 a1 b0 b1=>hdv a b a0 (by omega) b0 b1,Zfn ⟨hp,by omega,by omega,by omega,by omega,hnz⟩ (fun a b a0 a1 b0 b1=>fd a b a0 (by omega) b0 b1),rfl,rfl⟩)),hv2,hv4,hwC,hS.pk [2,3,5,6]⟩
  all_goals
   refine zOps ?_
   refine zlt<|zct<|zsr ?_
   refine(zV (xany (v:= .agg #[.int .i64 0,.int .i64 0,.slice none 0 0,.slice none 0 0,.slice none 0 0])))<|zle (xsw 1 Zx hS) ?_;clear hS;rintro w hS
   refine zOps ?_
   refine zx14<|ZW 1 Zx hS ⟨_,rfl,?_⟩
   exact⟨_,_,_,fun _=>undef,Tb.zero,1,rfl,.inl ⟨by first|exact fun hh=>absurd hh.1 ‹_›|(rintro⟨_,p1,p2,p3,p4,p5⟩;omega),rfl,rfl⟩,slh_nil,slh_nil,slh_nil,((((hS.sub (.cons _ (.cons _ .slnil))).addnil 1 3 (ints Tb.zero.B)).addnil 1 3 (ints Tb.zero.F)).addnil 1 22 (fun _=>undef)).addrows 3 (fun _=>undef) Tb.zero.ln Tb.zero.C⟩
theorem ZeD(w0:World)(hT:TAt w0 vB vF vC vv t):Calls Tryz.prog 159 [.agg #[.int .i64 t.vars,.int .i64 t.den,vB,vF,vC]].toArray w0 fun e w=>∃v,e= .returned v/\∃r c d e,v= .tuple #[.int .i64 r,.int .i64 c,B (d=true),.int .i64 e]/\NextR t r c d e/\Sat w0 w []:=
  (Zf5 w0 hT).mono fun e w h=>by
    obtain⟨v,he,r,c,d,e',hv,hn,hS⟩:=h
    exact⟨v,he,r,c,d,e',by rw [hv,Ze2],hn,hS⟩
theorem ZiO(w0:World)(hT:TAt w0 vB vF vC vv t):
    Calls Tryz.prog 125 [.agg #[.int .i64 t.vars,.int .i64 t.den,vB,vF,vC]].toArray w0 fun e w=>∃v,e= .returned v/\∃xB xF xC xv u z e,v= .tuple #[.agg #[.int .i64 u.vars,.int .i64 u.den,xB,xF,xC],.int .i64 e]/\Run 1000 t z e/\(e=0\/e=19->z=u)/\Slh xB u.nb/\Slh xF u.nf/\Slh xC u.nc/\Sat w0 w [.sem (Frame.alt (u=t/\xB=vB/\xF=vF/\xC=vC/\xv=vv) (Frame.bun [.own xB 1 3 u.nb (ints u.B),.own xF 1 3 u.nf (ints u.F),.own xC 1 22 u.nc xv,.sem (Frame.rows 3 u.nc xv u.ln u.C)]))]:=by
  refine Zm Tryz.func125 Tryz.ntmps125 fun w hS=> ?_
  refine zsr<|zla (xbx (cs:= [_,_,_,_,_]) hS) ?_;rintro _ w ⟨g1,rfl,hS⟩
  refine zla (xal (cs:= [_,_,_,_,_]) YD hS) ?_;rintro _ w ⟨g2,rfl,hS⟩
  refine(zP)<|zlz<|(zP)<|zx6 ?_
  replace hS:=hS.altL (Frame.bun [.own vB 1 3 t.nb (ints t.B),.own vF 1 3 t.nf (ints t.F),.own vC 1 22 t.nc vv,.sem (Frame.rows 3 t.nc vv t.ln t.C)]) (p:=t=t/\vB=vB/\vF=vF/\vC=vC/\vv=vv) ⟨rfl,rfl,rfl,rfl,rfl⟩
  refine zlp (fun mm M w=>∃(u:Tb) (xB:Value) (xF:Value) (xC:Value) (xv:Int->Value) (n:Int),mm=(((1001:Int)-n).toNat)/\(0<=n)/\(n<=1000)/\(Slh xB u.nb)/\(Slh xF u.nf)/\(Slh xC u.nc)/\(∀z e,Run (1000-n).toNat u z e->Run 1000 t z e)/\M= [(1,.pointer (some ⟨g1,0,none⟩)),(2,.pointer (some ⟨g2,0,none⟩)),(4,.int .i64 n)]/\Sat w0 w [.blk g1 [.int .i64 u.vars,.int .i64 u.den,xB,xF,xC],.blk g2 [.int .i64 0,.int .i64 0,.slice none 0 0,.slice none 0 0,.slice none 0 0],.sem (Frame.alt (u=t/\xB=vB/\xF=vF/\xC=vC/\xv=vv) (Frame.bun [.own xB 1 3 u.nb (ints u.B),.own xF 1 3 u.nf (ints u.F),.own xC 1 22 u.nc xv,.sem (Frame.rows 3 u.nc xv u.ln u.C)]))]) ⟨t,vB,vF,vC,vv,0,rfl,(by omega),(by omega),?_,?_,?_,?_,rfl,hS.sub (List.Sublist.refl _)⟩ ?_
  ·
   exact hT.B.slh
  ·
   exact hT.F.slh
  ·
   exact hT.C.row.slh
  ·
   exact fun z e h=>h
  clear hS w
  rintro mm M w ⟨u,xB,xF,xC,xv,n,rfl,n0,n1,hxB,hxF,hxC,yE,rfl,hS⟩
  have htu:=Yl (hT.below hS.below) hS 2 rfl
  have hub:=htu.B.slh.n0;have eZ:=htu.B.slh.n1;have huf:=htu.F.slh.n0;have eY:=htu.F.slh.n1
  refine zsq<|zbk<|zsr<|(zV (xls 0 Zx hS))<|zlc (xc0 Zh2) (ZeD (t:=u) w (Yl (hT.below hS.below) hS 2 rfl)) ?_;rintro _ w ⟨rn1,cn1,dn1,en1,rfl,yz,hS'⟩
  replace hS:=hS.cmp hS';clear hS'
  have hrc:=yz.rng
  refine zs6 ?_
  refine(zP)<|(zP)<|(zP)<|zlt<|zsq<|zbk<|zsr<|(zP)<|(zP)<|(zP)<|zlb 22 ?_ ?_<;>intro hc
  ·
   refine(zO)<|(zP)<|(zP)<|zlt<|zct<|zsr ?_
   refine(zV (xls 0 Zx hS))<|(zP)<|zle (xsw 1 Zx hS (hd:=(Za rfl (Za rfl (Za hxB.one (Za hxF.one (Za hxC.one Zg))))))) ?_;clear hS;rintro w hS
   refine(zP)<|zlt<|zrt<|zbr<|ztr<|zbr<|ztr<|ztr<|zbr<|ZW 1 Zx hS ⟨_,rfl,?_⟩
   exact⟨xB,xF,xC,xv,u,u,_,rfl,yE _ _ (.stop yz (by first|exact .inl hc|exact .inr (by omega)|exact .inl ‹_›)),fun _=>rfl,hxB,hxF,hxC,hS.pk [2]⟩
  refine(zP)<|(zP)<|(zP)<|zlt<|Ze ?_ ?_<;>intro hc
  ·
   refine zsr<|(zV (xls 0 Zx hS))<|(zP)<|zle (xsw 1 Zx hS (hd:=(Za rfl (Za rfl (Za hxB.one (Za hxF.one (Za hxC.one Zg))))))) ?_;clear hS;rintro w hS
   refine(zP)<|zlt<|zrt<|zbr<|ztr<|zbr<|ztr<|ztr<|zbr<|ZW 1 Zx hS ⟨_,rfl,?_⟩
   exact⟨xB,xF,xC,xv,u,u,_,rfl,yE _ _ (.stop yz (by first|exact .inl hc|exact .inr (by omega)|exact .inl ‹_›)),fun _=>rfl,hxB,hxF,hxC,hS.pk [2]⟩
  refine zsr<|zlv xmv ?_
  have hn0:NextR u rn1 cn1 false 0:=by have h1:dn1=false:=(by simpa using‹¬(dn1=true)›);have h2:en1=0:=(by omega);have h3:=yz;rw [h1,h2] at h3;exact h3
  have hpu:=(hn0.prp (by omega)).1;have hq1:=hpu.n2;have hq2:=hpu.m2
  refine(zP)<|(zP)<|zlt<|Ze ?_ ?_<;>intro hc
  ·
   refine zsr<|(zV (xany (v:= .agg #[.int .i64 0,.int .i64 0,.slice none 0 0,.slice none 0 0,.slice none 0 0])))<|zle (xsw 1 Zx hS) ?_;clear hS;rintro w hS
   refine(zP)<|zlt<|zrt<|zbr<|ztr<|zbr<|ztr<|ztr<|zbr<|ZW 1 Zx hS ⟨_,rfl,?_⟩
   replace hS:=((((hS.sub (.cons _ (.cons _ (.cons _ .slnil)))).addnil 1 3 (ints Tb.zero.B)).addnil 1 3 (ints Tb.zero.F)).addnil 1 22 (fun _=>undef)).addrows 3 (fun _=>undef) Tb.zero.ln Tb.zero.C
   exact⟨_,_,_,fun _=>undef,Tb.zero,_,_,rfl,yE _ _ (by rw [show(1000-n).toNat=0 by omega];exact .lim hn0),fun h=>by omega,slh_nil,slh_nil,slh_nil,Sat.altR (Tb.zero=t/\(Value.slice none 0 0)=vB/\(Value.slice none 0 0)=vF/\(Value.slice none 0 0)=vC/\(fun _=>undef)=vv) (l1:= []) (l2:= []) (Sat.bundle (l1:= []) hS)⟩
  refine zsk<|zbn<|ztn<|zsr<|(zV (xls 0 Zx hS))<|(zP)<|(zP)<|zlc (xc0 Zh1) (ZeC (t:=u) (row:=rn1) (col:=cn1) w (Yl (hT.below hS.below) hS 2 rfl) (by omega) (by omega)) ?_;rintro _ w ⟨qz,qy,ql,qp,tk1,ek1,rfl,yS,x7,x5,x6,hS'⟩
  replace hS:=(hS.comp hS').n7;clear hS'
  have bk:=fun k (k0:0<=k) (k1:k<tk1.nc)=>hS.slhIn 6 rfl k0 k1
  refine(zP)<|(zP)<|(zP)<|zla (xal (cs:= [_,_,_,_,_]) YD hS) ?_;rintro _ w ⟨g3,rfl,hS⟩
  refine zle (xsw 7 Zx hS (hd:=(Za rfl (Za rfl (Za x7.one (Za x5.one (Za x6.one Zg))))))) ?_;clear hS;rintro w hS
  refine(zP)<|zx5<|(zP)<|(zP)<|zlt<|Ze ?_ ?_<;>intro hc
  ·
   refine zsr<|(zV (xany (v:= .agg #[.int .i64 0,.int .i64 0,.slice none 0 0,.slice none 0 0,.slice none 0 0])))<|(zP)<|zle (xsw 1 Zx hS) ?_;clear hS;rintro w hS
   refine(zP)<|zlt<|zrt<|ztr<|zbr<|ztr<|ztr<|zbr<|ZW 1 Zx hS ⟨_,rfl,?_⟩
   replace hS:=((((hS.sub (.cons _ (.cons _ (.cons _ (.cons _ (.cons _ (.cons _ (.cons _ (.cons _ .slnil))))))))).addnil 1 3 (ints Tb.zero.B)).addnil 1 3 (ints Tb.zero.F)).addnil 1 22 (fun _=>undef)).addrows 3 (fun _=>undef) Tb.zero.ln Tb.zero.C
   exact⟨_,_,_,fun _=>undef,Tb.zero,_,_,rfl,yE _ _ (by rw [show(1000-n).toNat=(1000-(n+1)).toNat+1 by omega];exact .bad hn0 yS (by omega)),fun h=>by rcases yS with⟨_,_,h1⟩|⟨_,_,_,h1⟩|⟨_,_,_,_,h1⟩|⟨_,_,_,_,h1⟩<;>omega,slh_nil,slh_nil,slh_nil,Sat.altR (Tb.zero=t/\(Value.slice none 0 0)=vB/\(Value.slice none 0 0)=vF/\(Value.slice none 0 0)=vC/\(fun _=>undef)=vv) (l1:= []) (l2:= []) (Sat.bundle (l1:= []) hS)⟩
  refine zsk<|ztn<|zrg<|(zV (xls 7 Zx hS))<|zle (xsw 0 Zx hS (hd:=(Za rfl (Za rfl (Za x7.one (Za x5.one (Za x6.one Zg))))))) ?_;clear hS;rintro w hS
  refine zx10<|zlv xmv ?_
  replace hS:=hS.sub (.cons_cons _ (.cons_cons _ (.cons _ (.cons_cons _ (.cons_cons _ (.cons_cons _ (.cons_cons _ (.cons _ .slnil))))))))
  replace hS:=Sat.altR (tk1=t/\qz=vB/\qy=vF/\ql=vC/\qp=vv) (l1:= [.blk g1 [.int .i64 tk1.vars,.int .i64 tk1.den,qz,qy,ql],.blk g2 [.int .i64 0,.int .i64 0,.slice none 0 0,.slice none 0 0,.slice none 0 0]]) (l2:= []) (Sat.bundle (l1:= [.blk g1 [.int .i64 tk1.vars,.int .i64 tk1.den,qz,qy,ql],.blk g2 [.int .i64 0,.int .i64 0,.slice none 0 0,.slice none 0 0,.slice none 0 0]]) (l2:= [.own qz 1 3 tk1.nb (ints tk1.B),.own qy 1 3 tk1.nf (ints tk1.F),.own ql 1 22 tk1.nc qp,.sem (Frame.rows 3 tk1.nc qp tk1.ln tk1.C)]) hS)
  refine(zV (Zf (r:=n+1)))<|(zP)<|zln<|zlq ⟨tk1,qz,qy,ql,qp,n+1,rfl,(by omega),(by omega),?_,?_,?_,?_,rfl,hS.sub (List.Sublist.refl _)⟩
  ·
   exact x7
  ·
   exact x5
  ·
   exact x6
  ·
   intro z e hz;have he0:ek1=0:=(by omega);rw [he0] at yS;exact yE z e (by rw [show(1000-n).toNat=(1000-(n+1)).toNat+1 by omega];exact .go hn0 yS hz)
def OptR(t t':Tb)(e:Int):Prop:=∃u f,Run 1000 t u f/\((f=0/\e=0/\t'=u)\/(f≠0/\e=f/\t'=Tb.zero))
theorem OptR.same{t t1 t2:Tb}{e1 e2:Int}(h1:OptR t t1 e1)(h2:OptR t t2 e2):t1=t2/\e1=e2:=by
  obtain⟨u,f,hr,h⟩:=h1
  obtain⟨u',f',hr',h'⟩:=h2
  obtain⟨rfl,rfl⟩:=hr.same hr'
  rcases h with⟨a1,a2,a3⟩|⟨a1,a2,a3⟩<;>rcases h' with⟨b1,b2,b3⟩|⟨b1,b2,b3⟩
  · exact⟨by rw [a3,b3],by omega⟩
  · exact absurd a1 b1
  · exact absurd b1 a1
  · exact⟨by rw [a3,b3],by omega⟩
theorem Zez{p:Lp}(w0:World)(hL:LAt w0 vc vA vb vq p):
    Calls Tryz.prog 124 [.agg #[vc,vA,vb]].toArray w0 fun e w=>∃v,e= .returned v/\∃vB vF vC vv t' e,v= .tuple #[.agg #[.int .i64 t'.vars,.int .i64 t'.den,vB,vF,vC],.int .i64 e]/\StartR p t' e/\Slh vB t'.nb/\Slh vF t'.nf/\Slh vC t'.nc/\Sat w0 w [.own vB 1 3 t'.nb (ints t'.B),.own vF 1 3 t'.nf (ints t'.F),.own vC 1 22 t'.nc vv,.sem (Frame.rows 3 t'.nc vv t'.ln t'.C)]:=by
  have hn:=hL.c.slh.n0;have hn1:=hL.c.slh.n1;have hm:=hL.A.row.slh.n0;have hm1:=hL.A.row.slh.n1;have hk:=hL.b.slh.n0;have hk1:=hL.b.slh.n1
  refine Zm Tryz.func124 Tryz.ntmps124 fun w hS=> ?_
  refine zsr<|zla (xbx (cs:= [_,_,_]) hS) ?_;rintro _ w ⟨g1,rfl,hS⟩
  refine zla (xal (cs:= [_,_,_,_,_]) YD hS) ?_;rintro _ w ⟨g2,rfl,hS⟩
  refine(zP)<|zx5<|(zV (xls 0 UQ hS))<|zlc (xc0 Zh3) (Zey (p:=p) w (hL.below hS.below)) ?_;rintro _ w ⟨rfl,hS'⟩
  replace hS:=hS.cmp hS';clear hS'
  refine(zP)<|zlt<|Ze ?_ ?_<;>intro hc
  ·
   refine zsr<|(zV (xany (v:= .agg #[.int .i64 0,.int .i64 0,.slice none 0 0,.slice none 0 0,.slice none 0 0])))<|zle (xsw 1 Zx hS) ?_;clear hS;rintro w hS
   refine(zP)<|zx14<|ZW 1 Zx hS ⟨_,rfl,?_⟩
   exact⟨_,_,_,fun _=>undef,Tb.zero,1,rfl,.inl ⟨‹_›,rfl,rfl⟩,slh_nil,slh_nil,slh_nil,((((hS.sub (.cons _ (.cons _ .slnil))).addnil 1 3 (ints Tb.zero.B)).addnil 1 3 (ints Tb.zero.F)).addnil 1 22 (fun _=>undef)).addrows 3 (fun _=>undef) Tb.zero.ln Tb.zero.C⟩
  refine Z7<|zlv (xfb 0 fd_134_0) ?_
  have hl:LOk p:=by first|assumption|exact Classical.not_not.1 ‹¬¬(LOk p)›
  have b1:=hl.n1
  have b2:=hl.n2
  have b3:=hl.m2
  have b4:=hl.k
  refine(zV (xlb 0 pl_22 hS))<|(zV (xln Zb hL.c.slh))<|(zP)<|zlz<|(zP)<|zla (xli (n:=1) (len:=1) (pv:= [(0,.int .i64 0)]) (cs:= [.int .i64 0]) (c:=ints (fun _=>0)) Zb Zn hS) ?_;rintro v1 w ⟨hS,hv1⟩
  refine(zV (xfb 0 fd_134_0))<|(zV (xlb 0 pl_22 hS))<|zla (xap 2 (r:=p.n+1) (f:=ints (cat 1 (fun _=>0) p.c)) Zb Zn hS (hL.c.below hS.below) (by exact Zp _ _ _)) ?_;rintro v2 w ⟨hS,hv2⟩
  refine zla (xli (n:=1) (len:=1) (pv:= [(0,v2)]) (cs:= [v2]) (c:=(fun _=>v2)) Zi Ya hS (hf:=by obtain⟨_,_,_,_,rfl,_⟩:=hv2;kernel_rfl)) ?_;rintro v3 w ⟨hS,hv3⟩
  refine zlv (xany (v:= .agg #[.int .i64 p.n,.int .i64 1,.slice none 0 0,.slice none 0 0,v3]) (hr:=by obtain⟨_,_,_,_,rfl,_⟩:=hv3;kernel_rfl)) ?_
  refine zla (xal (cs:= [_,_,_,_,_]) YD hS) ?_;rintro _ w ⟨g3,rfl,hS⟩
  refine zle (xsw 4 Zx hS (hd:=(Za rfl (Za rfl (Za rfl (Za rfl (Za hv3.one Zg))))))) ?_;clear hS;rintro w hS
  refine zx5<|(zP)<|zx6 ?_
  replace hS:=hS.addrows 3 (fun _=>Value.slice none 0 0) (fun _=>0) (fun _ _=>0)
  replace hS:=Sat.merge2 (l1:= [.blk g1 [vc,vA,vb],.blk g2 [.int .i64 0,.int .i64 0,.slice none 0 0,.slice none 0 0,.slice none 0 0]]) (l2:= [.own v3 1 22 1 (fun _=>v2),.blk g3 [.int .i64 p.n,.int .i64 1,.slice none 0 0,.slice none 0 0,v3]]) (l3:= []) hS (by omega)
  replace hS:=hS.rerows (vv':=(fun _=>v2)) (ln':=(Zw p).ln) (f':=(Zw p).C) 4 rfl (fun k k0 k1=>by
    obtain rfl:k=0:=by omega
    refine⟨Y0 _ _ _,?_,fun j j0 j1=> ?_⟩
    · rw [Y0];show _=p.n+1;omega
    · rw [Y0];unfold Zw cat;dsimp only;(repeat' split)<;>first|rfl|omega)
  have yw:=fun k (k0:0<=k) (k1:k<1)=>hS.slhIn 4 rfl k0 k1
  replace hS:=hS.addnil 1 3 (ints (fun _=>0))
  replace hS:=hS.addnil 1 3 (ints (fun _=>0))
  refine zlp (fun mm M w=>∃(nF:Int) (j:Int) (wF:Value) (fF:Int->Int),mm=((p.n-j).toNat)/\(0<=j)/\(j<=p.n)/\(nF=j)/\(∀k,0<=k->k<j->fF k=k)/\(Slh wF nF)/\M= [(1,.pointer (some ⟨g1,0,none⟩)),(2,.pointer (some ⟨g2,0,none⟩)),(3,.int .i64 0),(4,.int .i64 p.n),(5,.pointer (some ⟨g3,0,none⟩)),(6,.int .i64 j)]/\Sat w0 w [.blk g1 [vc,vA,vb],.blk g2 [.int .i64 0,.int .i64 0,.slice none 0 0,.slice none 0 0,.slice none 0 0],.own v3 1 22 1 (fun _=>v2),.blk g3 [.int .i64 p.n,.int .i64 1,(.slice none 0 0),wF,v3],.sem (Frame.rows 3 1 (fun _=>v2) ((Zw p).ln) ((Zw p).C)),.own wF 1 3 nF (ints fF),.own (.slice none 0 0) 1 3 0 (ints (fun _=>0))]) ⟨0,0,(.slice none 0 0),(fun _=>0),rfl,(by omega),(by omega),(by omega),?_,?_,rfl,hS⟩ ?_
  ·
   intro k k0 k1;omega
  ·
   exact slh_nil
  clear hS w
  rintro mm M w ⟨nF,j,wF,fF,rfl,j0,j1,hnF,hfF,hwF,rfl,hS⟩
  refine zx11<|(zP)<|(zP)<|(zP)<|zlt<|Ze ?_ ?_<;>intro hc
  ·
   refine zsk<|ztn<|zsq<|zbk<|zrg<|(zV (xfb 3 fd_175_3))<|(zV (xlb 3 pl_22 hS))<|(zP)<|zla (xli (n:=1) (len:=1) (pv:= [(0,.int .i64 j)]) (cs:= [.int .i64 j]) (c:=ints (fun _=>j)) Zb Zn hS) ?_;rintro v4 w ⟨hS,hv4⟩
   refine zla (xap 5 (r:=nF+1) Zb Zn hS (hS.rowN 7 rfl) (Z1 _ _ _)) ?_;rintro v5 w ⟨hS,hv5⟩
   refine(zV (xfb 3 fd_175_3))<|zle (xsb 3 pl_22 hS (hv:=hv5.one)) ?_;clear hS;rintro w hS
   refine zx10<|(zP)<|(zV (Zf (r:=j+1)))<|(zP)<|zln<|zlq ⟨nF+1,j+1,v5,(snoc fF nF j),rfl,(by omega),(by omega),(by omega),?_,?_,rfl,hS.pk [0,1,2,3,4,5,6]⟩
   ·
    intro k k0 k1;by_cases e:k<nF
    · rw [Zl e];exact hfF k k0 (by omega)
    · rw [Zk e];omega
   ·
    exact hv5
  refine zx18<|(zP)<|zx6<|zlp (fun mm M w=>∃(mB:Int) (nC:Int) (wv:Int->Value) (i:Int) (wB:Value) (fB:Int->Int) (wC:Value),mm=((p.m-i).toNat)/\(0<=i)/\(i<=p.m)/\(mB=i)/\(nC=i+1)/\(∀k,0<=k->k<i->fB k=p.n+k)/\(Slh wB mB)/\(Slh wC nC)/\M= [(1,.pointer (some ⟨g1,0,none⟩)),(2,.pointer (some ⟨g2,0,none⟩)),(3,.int .i64 0),(4,.int .i64 p.n),(5,.pointer (some ⟨g3,0,none⟩)),(7,.int .i64 i)]/\Sat w0 w [.blk g1 [vc,vA,vb],.blk g2 [.int .i64 0,.int .i64 0,.slice none 0 0,.slice none 0 0,.slice none 0 0],.own wC 1 22 nC wv,.blk g3 [.int .i64 p.n,.int .i64 1,wB,wF,wC],.sem (Frame.rows 3 nC wv ((Zw p).ln) ((Zw p).C)),.own wF 1 3 nF (ints fF),.own wB 1 3 mB (ints fB)]) ⟨0,1,(fun _=>v2),0,(.slice none 0 0),(fun _=>0),v3,rfl,(by omega),(by omega),(by omega),(by omega),?_,?_,?_,rfl,hS⟩ ?_
  ·
   intro k k0 k1;omega
  ·
   exact slh_nil
  ·
   exact hv3
  clear hS w
  rintro mm M w ⟨mB,nC,wv,i,wB,fB,wC,rfl,i0,i1,hmB,hnC,hfB,hwB,hwC,rfl,hS⟩
  have qN:=fun k (k0:0<=k) (k1:k<nC)=>hS.slhIn 4 rfl k0 k1
  refine zx11<|(zP)<|(zV (xfb 1 fd_134_1))<|(zV (xlb 0 Zu hS))<|(zV (xln Zi hL.A.row.slh))<|(zP)<|zlt<|Ze ?_ ?_<;>intro hc
  ·
   refine zx3<|(zV (xfb 2 fd_175_2))<|(zV (xlb 3 pl_22 hS))<|(zP)<|(zP)<|(zV (Zf (r:=p.n+i)))<|zla (xli (n:=1) (len:=1) (pv:= [(0,.int .i64 (p.n+i))]) (cs:= [.int .i64 (p.n+i)]) (c:=ints (fun _=>p.n+i)) Zb Zn hS) ?_;rintro v6 w ⟨hS,hv6⟩
   refine zla (xap 6 (r:=mB+1) Zb Zn hS (hS.rowN 7 rfl) (Z1 _ _ _)) ?_;rintro v7 w ⟨hS,hv7⟩
   refine(zV (xfb 2 fd_175_2))<|zle (xsb 3 pl_22 hS (hv:=hv7.one)) ?_;clear hS;rintro w hS
   refine zlt<|zdst [0,1,3] [0,1] 18 mx_ hS ?_;clear hS;intro w hS
   refine zDrv 0 (xfb 4 fd_175_4) ?_
   have hri:=hl.rows i i0 (by omega)
   refine zdl 1 (fun w hS=>(xlb 2 Zu hS)) ?_
   refine(zDw 2 (xfb 2 fd_134_2))<|(zDl 3 (fun w hS=>(xlb 0 pl_22 hS)))<|(zDw 4 xmv)<|(zDw 5 (xix (kk:=i) Zb hL.b.slh))<|zdla 6 (fun w hS=>(xlr (u:= .int .i64 (p.b i)) pl_3 (hL.b.below hS.below))) ?_
   have hbi:=hl.b i i0 (by omega)
   refine(zDw 7 (ZaG (r:= -((p.b i)))))<|(zDw 9 (xfb 1 fd_134_1))<|(zDl 10 (fun w hS=>(xlb 0 Zu hS)))<|(zDw 11 xmv)<|(zDw 12 (xix (kk:=i) Zi hL.A.row.slh))<|(zDl 13 (fun w hS=>(xlr (u:=(vq i)) pl_22 (hL.A.row.below hS.below))))<|zda 8 (xli (n:=1) (len:=1) (pv:= [(0,.int .i64 (-((p.b i))))]) (cs:= [.int .i64 (-((p.b i)))]) (c:=ints (fun _=> -((p.b i)))) Zb Zn hS) ?_;rintro v8 w ⟨hS,hv8⟩
   refine⟨⟨fun _=>hS.pk [0,1,3],hS.pk [0,1]⟩,?_⟩
   refine zda 14 (xap 8 (r:=(p.ln i)+1) (f:=ints (cat 1 (fun _=> -(p.b i)) (p.A i))) Zb Zn hS ((hL.A.p i (by omega) (by omega)).below hS.below) (by exact Zp _ _ _)) ?_;rintro v9 w ⟨hS,hv9⟩
   refine⟨⟨fun _=>hS.pk [0,1,3],hS.pk [0,1]⟩,?_⟩
   refine zda 15 (xli (n:=1) (len:=1) (pv:= [(0,v9)]) (cs:= [v9]) (c:=(fun _=>v9)) Zi Ya hS (hf:=by obtain⟨_,_,_,_,rfl,_⟩:=hv9;kernel_rfl)) ?_;rintro v10 w ⟨hS,bd⟩
   refine⟨⟨fun _=>hS.pk [0,1,3],hS.pk [0,1]⟩,?_⟩
   refine zda 16 (xap 2 (r:=nC+1) Zi Ya hS (hS.rowN 9 rfl) (Y8 _ _ _) (h1:=fun _ _ _=>hv9.one)) ?_;rintro v11 w ⟨hS,aJ⟩
   replace hS:=Sat.merge (l1:= [_,_,_,_]) (l2:= [_,_,_]) (l3:= [_]) hS (by omega)
   have xe:=fun k (k0:0<=k) (k1:k<nC+1)=>hS.slhIn 4 rfl k0 k1
   refine⟨⟨fun _=>hS.pk [0,1,3],hS.pk [0,1]⟩,?_⟩
   refine(zDw 17 (xfb 4 fd_175_4))<|zde 18 (xsb 3 Zu hS (hv:=aJ.one)) ?_;clear hS;rintro w hS
   refine⟨⟨fun h=>absurd h (by decide),hS.pk [0,1]⟩,?_⟩
   refine zdd<|zbn<|ztn<|zrg ?_
   refine zlv xmv ?_
   replace hS:=hS.rerows (vv':=gsn wv nC v9) (ln':=(Zw p).ln) (f':=(Zw p).C) 4 rfl (fun k k0 k1=>by
     by_cases e:k<i+1
     · exact⟨rfl,Zs (by omega),fun j _ _=>by rw [Zs (by omega)]⟩
     · have hki:k=i+1:=by omega
       refine⟨rfl,?_,fun j j0 j1=> ?_⟩
       · rw [Zr (by omega)];show _=p.n+1;omega
       · rw [Zr (by omega)];unfold Zw cat;dsimp only;(repeat' split)<;>first|rfl|omega|(congr 2;omega)|(congr 1;omega))
   have aF:=fun k (k0:0<=k) (k1:k<nC+1)=>hS.slhIn 4 rfl k0 k1
   refine(zV (Zf (r:=i+1)))<|(zP)<|zln<|zlq ⟨mB+1,nC+1,gsn wv nC v9,i+1,v7,(snoc fB mB (p.n+i)),v11,rfl,(by omega),(by omega),(by omega),(by omega),?_,?_,?_,rfl,hS.pk [0,1,2,3,4,5,6]⟩
   ·
    intro k k0 k1;by_cases e:k<mB
    · rw [Zl e];exact hfB k k0 (by omega)
    · rw [Zk e];omega
   ·
    exact hv7
   ·
    exact aJ
  refine zx8<|(zV (xls 3 Zx hS))<|zle (xsw 1 Zx hS (hd:=(Za rfl (Za rfl (Za hwB.one (Za hwF.one (Za hwC.one Zg))))))) ?_;clear hS;rintro w hS
  refine(zP)<|zx1<|ZW 1 Zx hS ⟨_,rfl,?_⟩
  obtain rfl:i=p.m:=by omega
  obtain rfl:mB=p.m:=by omega
  obtain rfl:nC=p.m+1:=by omega
  obtain rfl:nF=p.n:=by omega
  replace hS:=hS.recont 6 rfl (d:=ints (Zw p).B) (fun k k0 k1=>by unfold ints;rw [hfB k k0 (by simp at k1;omega)];rfl)
  replace hS:=hS.recont 5 rfl (d:=ints (Zw p).F) (fun k k0 k1=>by unfold ints;rw [hfF k k0 (by simp at k1;omega)];rfl)
  exact⟨_,_,_,_,Zw p,0,rfl,.inr ⟨hl,rfl,rfl⟩,hwB,hwF,hwC,(hS.pk [2,4,5,6]).perm (WP (l1:= [_,_,_]) (l2:= []) (WP (l1:= [_,_]) (l2:= []) (List.Perm.refl _)))⟩
theorem ZiR(w0:World)(hT:TAt w0 vB vF vC vv t)(hp:TPrp t):
    Calls Tryz.prog 126 [.agg #[.int .i64 t.vars,.int .i64 t.den,vB,vF,vC]].toArray w0 fun e w=>∃v,e= .returned v/\∃vX vY,v= .agg #[vX,vY,.int .i64 (t.C 0 0),.int .i64 t.den]/\Slh vX t.nf/\Slh vY t.nb/\Sat w0 w [.own vX 1 3 t.nf (ints (rdX t t.nb.toNat)),.own vY 1 3 t.nb (ints (rdY t t.nf.toNat))]:=by
  have hn:=hT.F.slh.n0;have hn1:=hT.F.slh.n1;have hb:=hT.B.slh.n0;have hb1:=hT.B.slh.n1;have hc0:=hT.C.row.slh.n0;have hc1:=hT.C.row.slh.n1
  have b1:=hp.n1;have b2:=hp.n2;have b3:=hp.m2;have b4:=hp.v;have b5:=hp.d1;have b6:=hp.d2;have b7:=hp.c
  have hl0:=hp.len (i:=0) (by omega) (by omega)
  refine Zm Tryz.func126 Tryz.ntmps126 fun w hS=> ?_
  refine zsr<|zla (xbx (cs:= [_,_,_,_,_]) hS) ?_;rintro _ w ⟨g1,rfl,hS⟩
  refine zla (xal (cs:= [_,_,_,_]) WA hS) ?_;rintro _ w ⟨g2,rfl,hS⟩
  refine zx7 ?_
  refine XX (fun M w=>∃(v1:Value) (v2:Value) (g3:Nat),(Slh v1 t.vars)/\(Slh v2 t.nb)/\M= [(0,.agg #[.int .i64 t.vars,.int .i64 t.den,vB,vF,vC]),(1,.pointer (some ⟨g1,0,none⟩)),(2,.pointer (some ⟨g2,0,none⟩)),(6,.pointer (some ⟨g1,0,none⟩)),(7,.int .i64 t.vars),(9,.pointer (some ⟨g1,2,none⟩)),(10,vB),(11,.int .i64 t.nb),(13,.pointer (some ⟨g1,4,none⟩)),(14,vC),(15,.pointer (some (cad vC 0))),(16,(vv 0)),(17,.pointer (some (cad (vv 0) 0))),(18,.int .i64 ((t.C 0) 0)),(19,.pointer (some ⟨g1,1,none⟩)),(20,.int .i64 t.den),(8,v1),(12,v2),(21,.agg #[v1,v2,.int .i64 ((t.C 0) 0),.int .i64 t.den]),(3,.pointer (some ⟨g3,0,none⟩))]/\Sat w0 w [.blk g1 [.int .i64 t.vars,.int .i64 t.den,vB,vF,vC],.blk g2 [.slice none 0 0,.slice none 0 0,.int .i64 0,.int .i64 0],.own v1 1 3 t.vars (ints (fun _=>0)),.own v2 1 3 t.nb (ints (fun _=>0)),.blk g3 [v1,v2,.int .i64 ((t.C 0) 0),.int .i64 t.den]]) ?_ ?_
  ·
   refine zdst [0,1] [0,1] 17 mx_ hS ?_;clear hS;intro w hS
   refine(zDw 0 (xfb 0 fd_175_0))<|(zDl 1 (fun w hS=>(xlb 0 pl_3 hS)))<|(zDw 3 (xfb 2 fd_175_2))<|(zDl 4 (fun w hS=>(xlb 0 pl_22 hS)))<|(zDw 5 (xln Zb hT.B.slh))<|(zDw 7 (xfb 4 fd_175_4))<|(zDl 8 (fun w hS=>(xlb 0 Zu hS)))<|(zDw 9 (xix (kk:=0) Zi hT.C.row.slh))<|(zDl 10 (fun w hS=>(xlr (u:=(vv 0)) pl_22 (hT.C.row.below hS.below))))<|(zDw 11 (xix (kk:=0) Zb (hT.C.p 0 (by omega) (by omega)).slh))<|(zDl 12 (fun w hS=>(xlr (u:= .int .i64 ((t.C 0) 0)) pl_3 ((hT.C.p 0 (by omega) (by omega)).below hS.below))))<|(zDw 13 (xfb 1 fd_175_1))<|(zDl 14 (fun w hS=>(xlb 0 pl_3 hS)))<|YS (r:= [2,6,16]) ((ZO ?_ (ZO ?_ (ZO ?_ YR))))
   ·
    refine zka (xmk Zb Zn hS) ?_;rintro v1 w ⟨hS,hv1⟩
    refine⟨⟨fun _=>hS.pk [0,1],hS.pk [0,1]⟩,?_⟩
    refine YS (r:= [6,16]) ((ZO ?_ (ZO ?_ YR)))
    ·
     refine zka (xmk Zb Zn hS) ?_;rintro v2 w ⟨hS,hv2⟩
     refine⟨⟨fun _=>hS.pk [0,1],hS.pk [0,1]⟩,?_⟩
     refine zDrv 15 (xany (v:= .agg #[v1,v2,.int .i64 ((t.C 0) 0),.int .i64 t.den]) (hr:=by obtain⟨_,_,_,_,rfl,_⟩:=hv1;obtain⟨_,_,_,_,rfl,_⟩:=hv2;kernel_rfl)) ?_
     refine zda 16 (xal (cs:= [_,_,_,_]) WA hS) ?_;rintro _ w ⟨g3,rfl,hS⟩
     refine⟨⟨fun _=>hS.pk [0,1],hS.pk [0,1]⟩,?_⟩
     refine zde 17 (xsw 4 st_36 hS (hd:=(Za hv1.one (Za hv2.one (Za rfl (Za rfl Zg)))))) ?_;clear hS;rintro w hS
     refine⟨⟨fun h=>absurd h (by decide),hS.pk [0,1]⟩,?_⟩
     refine zdd<|zgj ⟨v1,v2,g3,hv1,hv2,rfl,hS⟩
    refine zka (xal (cs:= [_,_,_,_]) WA hS) ?_;rintro _ w ⟨g3,rfl,hS⟩
    refine⟨⟨fun _=>hS.pk [0,1],hS.pk [0,1]⟩,?_⟩
    refine zda 6 (xmk Zb Zn hS) ?_;rintro v2 w ⟨hS,hv2⟩
    refine⟨⟨fun _=>hS.pk [0,1],hS.pk [0,1]⟩,?_⟩
    refine zDrv 15 (xany (v:= .agg #[v1,v2,.int .i64 ((t.C 0) 0),.int .i64 t.den]) (hr:=by obtain⟨_,_,_,_,rfl,_⟩:=hv1;obtain⟨_,_,_,_,rfl,_⟩:=hv2;kernel_rfl)) ?_
    refine zde 17 (xsw 3 st_36 hS (hd:=(Za hv1.one (Za hv2.one (Za rfl (Za rfl Zg)))))) ?_;clear hS;rintro w hS
    refine⟨⟨fun h=>absurd h (by decide),hS.pk [0,1]⟩,?_⟩
    refine zdd<|zgj ⟨v1,v2,g3,hv1,hv2,rfl,hS.pk [0,1,2,4,3]⟩
   ·
    refine zka (xmk Zb Zn hS) ?_;rintro v1 w ⟨hS,hv1⟩
    refine⟨⟨fun _=>hS.pk [0,1],hS.pk [0,1]⟩,?_⟩
    refine YS (r:= [2,16]) ((ZO ?_ (ZO ?_ YR)))
    ·
     refine zka (xmk Zb Zn hS) ?_;rintro v2 w ⟨hS,hv2⟩
     refine⟨⟨fun _=>hS.pk [0,1],hS.pk [0,1]⟩,?_⟩
     refine zDrv 15 (xany (v:= .agg #[v2,v1,.int .i64 ((t.C 0) 0),.int .i64 t.den]) (hr:=by obtain⟨_,_,_,_,rfl,_⟩:=hv2;obtain⟨_,_,_,_,rfl,_⟩:=hv1;kernel_rfl)) ?_
     refine zda 16 (xal (cs:= [_,_,_,_]) WA hS) ?_;rintro _ w ⟨g3,rfl,hS⟩
     refine⟨⟨fun _=>hS.pk [0,1],hS.pk [0,1]⟩,?_⟩
     refine zde 17 (xsw 4 st_36 hS (hd:=(Za hv2.one (Za hv1.one (Za rfl (Za rfl Zg)))))) ?_;clear hS;rintro w hS
     refine⟨⟨fun h=>absurd h (by decide),hS.pk [0,1]⟩,?_⟩
     refine zdd<|zgj ⟨v2,v1,g3,hv2,hv1,rfl,hS.pk [0,1,3,2,4]⟩
    refine zka (xal (cs:= [_,_,_,_]) WA hS) ?_;rintro _ w ⟨g3,rfl,hS⟩
    refine⟨⟨fun _=>hS.pk [0,1],hS.pk [0,1]⟩,?_⟩
    refine zda 2 (xmk Zb Zn hS) ?_;rintro v2 w ⟨hS,hv2⟩
    refine⟨⟨fun _=>hS.pk [0,1],hS.pk [0,1]⟩,?_⟩
    refine zDrv 15 (xany (v:= .agg #[v2,v1,.int .i64 ((t.C 0) 0),.int .i64 t.den]) (hr:=by obtain⟨_,_,_,_,rfl,_⟩:=hv2;obtain⟨_,_,_,_,rfl,_⟩:=hv1;kernel_rfl)) ?_
    refine zde 17 (xsw 3 st_36 hS (hd:=(Za hv2.one (Za hv1.one (Za rfl (Za rfl Zg)))))) ?_;clear hS;rintro w hS
    refine⟨⟨fun h=>absurd h (by decide),hS.pk [0,1]⟩,?_⟩
    refine zdd<|zgj ⟨v2,v1,g3,hv2,hv1,rfl,hS.pk [0,1,4,2,3]⟩
   refine zka (xal (cs:= [_,_,_,_]) WA hS) ?_;rintro _ w ⟨g3,rfl,hS⟩
   refine⟨⟨fun _=>hS.pk [0,1],hS.pk [0,1]⟩,?_⟩
   refine YS (r:= [2,6]) ((ZO ?_ (ZO ?_ YR)))
   ·
    refine zka (xmk Zb Zn hS) ?_;rintro v1 w ⟨hS,hv1⟩
    refine⟨⟨fun _=>hS.pk [0,1],hS.pk [0,1]⟩,?_⟩
    refine zda 6 (xmk Zb Zn hS) ?_;rintro v2 w ⟨hS,hv2⟩
    refine⟨⟨fun _=>hS.pk [0,1],hS.pk [0,1]⟩,?_⟩
    refine zDrv 15 (xany (v:= .agg #[v1,v2,.int .i64 ((t.C 0) 0),.int .i64 t.den]) (hr:=by obtain⟨_,_,_,_,rfl,_⟩:=hv1;obtain⟨_,_,_,_,rfl,_⟩:=hv2;kernel_rfl)) ?_
    refine zde 17 (xsw 2 st_36 hS (hd:=(Za hv1.one (Za hv2.one (Za rfl (Za rfl Zg)))))) ?_;clear hS;rintro w hS
    refine⟨⟨fun h=>absurd h (by decide),hS.pk [0,1]⟩,?_⟩
    refine zdd<|zgj ⟨v1,v2,g3,hv1,hv2,rfl,hS.pk [0,1,3,4,2]⟩
   refine zka (xmk Zb Zn hS) ?_;rintro v1 w ⟨hS,hv1⟩
   refine⟨⟨fun _=>hS.pk [0,1],hS.pk [0,1]⟩,?_⟩
   refine zda 2 (xmk Zb Zn hS) ?_;rintro v2 w ⟨hS,hv2⟩
   refine⟨⟨fun _=>hS.pk [0,1],hS.pk [0,1]⟩,?_⟩
   refine zDrv 15 (xany (v:= .agg #[v2,v1,.int .i64 ((t.C 0) 0),.int .i64 t.den]) (hr:=by obtain⟨_,_,_,_,rfl,_⟩:=hv2;obtain⟨_,_,_,_,rfl,_⟩:=hv1;kernel_rfl)) ?_
   refine zde 17 (xsw 2 st_36 hS (hd:=(Za hv2.one (Za hv1.one (Za rfl (Za rfl Zg)))))) ?_;clear hS;rintro w hS
   refine⟨⟨fun h=>absurd h (by decide),hS.pk [0,1]⟩,?_⟩
   refine zdd<|zgj ⟨v2,v1,g3,hv2,hv1,rfl,hS.pk [0,1,4,3,2]⟩
  clear hS w;rintro M w ⟨v1,v2,g3,hv1,hv2,rfl,hS⟩
  refine ztn<|zsq<|zsr<|(zP)<|zx6<|zlp (fun mm M w=>∃(i:Int) (fX:Int->Int),mm=((t.nb-i).toNat)/\(0<=i)/\(i<=t.nb)/\(fX=rdX t i.toNat)/\M= [(1,.pointer (some ⟨g1,0,none⟩)),(2,.pointer (some ⟨g2,0,none⟩)),(3,.pointer (some ⟨g3,0,none⟩)),(4,.int .i64 i)]/\Sat w0 w [.blk g1 [.int .i64 t.vars,.int .i64 t.den,vB,vF,vC],.blk g2 [.slice none 0 0,.slice none 0 0,.int .i64 0,.int .i64 0],.own v1 1 3 t.vars (ints fX),.own v2 1 3 t.nb (ints (fun _=>0)),.blk g3 [v1,v2,.int .i64 ((t.C 0) 0),.int .i64 t.den]]) ⟨0,(fun _=>0),rfl,(by omega),(by omega),?_,rfl,hS⟩ ?_
  ·
   rfl
  clear hS w
  rintro mm M w ⟨i,fX,rfl,h0,h1,hfX,rfl,hS⟩
  refine zx11<|(zP)<|(zV (xfb 2 fd_175_2))<|(zV (xlb 0 pl_22 hS))<|(zV (xln Zb hT.B.slh))<|(zP)<|zlt<|Ze ?_ ?_<;>intro hc
  ·
   refine zx27<|zdst [0,1,2,3,4] [0,1,2,3,4] 1000 mx_ hS ?_;clear hS;intro w hS
   refine(zDw 0 (xfb 2 fd_175_2))<|zdla 1 (fun w hS=>(xlb 0 pl_22 hS)) ?_
   have hrg:=hp.rngB (i:=i) h0 (by omega);have hli:=hp.len (i:=i+1) (by omega) (by omega)
   refine(zDw 2 xmv)<|(zDw 3 (xix (kk:=i) Zb hT.B.slh))<|(zDl 4 (fun w hS=>(xlr (u:= .int .i64 (t.B i)) pl_3 (hT.B.below hS.below))))<|(zDw 5 (xfb 0 fd_175_0))<|(zDl 6 (fun w hS=>(xlb 0 pl_3 hS)))<|(zDw 7 ZZ)<|zdd<|ztn ?_
   refine Ze ?_ ?_<;>intro hc
   ·
    refine zdst [0,1,2,3,4] [0,1,3,4] 16 mx_ hS ?_;clear hS;intro w hS
    refine(zDw 0 (xfb 0 fd_36_0))<|(zDl 1 (fun w hS=>(xlb 3 pl_22 hS)))<|(zDw 2 (xfb 2 fd_175_2))<|(zDl 3 (fun w hS=>(xlb 0 pl_22 hS)))<|(zDw 4 xmv)<|(zDw 5 (xix (kk:=i) Zb hT.B.slh))<|(zDl 6 (fun w hS=>(xlr (u:= .int .i64 (t.B i)) pl_3 (hT.B.below hS.below))))<|(zDw 7 (xfb 4 fd_175_4))<|(zDl 8 (fun w hS=>(xlb 0 Zu hS)))<|(zDw 9 xmv)<|(zDw 10 (Zf (r:=i+1)))<|(zDw 11 (xix (kk:=i+1) Zi hT.C.row.slh))<|(zDl 12 (fun w hS=>(xlr (u:=(vv (i+1))) pl_22 (hT.C.row.below hS.below))))<|(zDw 13 (xix (kk:=0) Zb (hT.C.p (i+1) (by omega) (by omega)).slh))<|zdla 14 (fun w hS=>(xlr (u:= .int .i64 ((t.C (i+1)) 0)) pl_3 ((hT.C.p (i+1) (by omega) (by omega)).below hS.below))) ?_
    refine(zDw 15 (xix (kk:=(t.B i)) Zb hv1))<|zde 16 (xso 2 pl_3 hS (ZE _ _ _)) ?_;clear hS;rintro w hS
    refine⟨⟨fun h=>absurd h (by decide),hS.pk [0,1,3,4]⟩,?_⟩
    refine zdd<|zbn<|ztn<|zrg ?_
    refine(zP)<|(zV (Zf (r:=i+1)))<|(zP)<|zln<|zlq ⟨i+1,(upd fX (t.B i) ((t.C (i+1)) 0)),rfl,(by omega),(by omega),?_,rfl,hS⟩
    ·
     rw [Vr t h0,<-hfX];first|rw [if_pos (by omega)]|rw [if_neg (by omega)]
   refine zx4<|(zP)<|(zV (Zf (r:=i+1)))<|(zP)<|zln<|zlq ⟨i+1,fX,rfl,(by omega),(by omega),?_,rfl,hS⟩
   ·
    rw [Vr t h0,<-hfX];first|rw [if_pos (by omega)]|rw [if_neg (by omega)]
  refine zx18<|(zP)<|zx6<|zlp (fun mm M w=>∃(j:Int) (fY:Int->Int),mm=((t.nf-j).toNat)/\(0<=j)/\(j<=t.nf)/\(fY=rdY t j.toNat)/\M= [(1,.pointer (some ⟨g1,0,none⟩)),(2,.pointer (some ⟨g2,0,none⟩)),(3,.pointer (some ⟨g3,0,none⟩)),(5,.int .i64 j)]/\Sat w0 w [.blk g1 [.int .i64 t.vars,.int .i64 t.den,vB,vF,vC],.blk g2 [.slice none 0 0,.slice none 0 0,.int .i64 0,.int .i64 0],.own v1 1 3 t.vars (ints fX),.own v2 1 3 t.nb (ints fY),.blk g3 [v1,v2,.int .i64 ((t.C 0) 0),.int .i64 t.den]]) ⟨0,(fun _=>0),rfl,(by omega),(by omega),?_,rfl,hS⟩ ?_
  ·
   rfl
  clear hS w
  rintro mm M w ⟨j,fY,rfl,j0,j1,hfY,rfl,hS⟩
  refine zx11<|(zP)<|(zV (xfb 3 fd_175_3))<|(zV (xlb 0 pl_22 hS))<|(zV (xln Zb hT.F.slh))<|(zP)<|zlt<|Ze ?_ ?_<;>intro hc
  ·
   refine zx27<|zdst [0,1,2,3,4] [0,1,2,3,4] 1000 mx_ hS ?_;clear hS;intro w hS
   refine zDrv 0 (xfb 3 fd_175_3) ?_
   have hrg:=hp.rngF (i:=j) j0 (by omega) (by omega)
   refine(zDl 1 (fun w hS=>(xlb 0 pl_22 hS)))<|(zDw 2 xmv)<|(zDw 3 (xix (kk:=j) Zb hT.F.slh))<|(zDl 4 (fun w hS=>(xlr (u:= .int .i64 (t.F j)) pl_3 (hT.F.below hS.below))))<|(zDw 5 (xfb 0 fd_175_0))<|(zDl 6 (fun w hS=>(xlb 0 pl_3 hS)))<|(zDw 7 Xq)<|zdd<|ztn ?_
   refine Ze ?_ ?_<;>intro hc
   ·
    refine zdst [0,1,2,3,4] [0,1,2,4] 19 mx_ hS ?_;clear hS;intro w hS
    refine(zDw 0 (xfb 1 fd_36_1))<|(zDl 1 (fun w hS=>(xlb 3 pl_22 hS)))<|(zDw 2 (xfb 3 fd_175_3))<|(zDl 3 (fun w hS=>(xlb 0 pl_22 hS)))<|(zDw 4 xmv)<|(zDw 5 (xix (kk:=j) Zb hT.F.slh))<|(zDl 6 (fun w hS=>(xlr (u:= .int .i64 (t.F j)) pl_3 (hT.F.below hS.below))))<|(zDw 7 (xfb 0 fd_175_0))<|(zDl 8 (fun w hS=>(xlb 0 pl_3 hS)))<|(zDw 9 (ZD (r:=(t.F j)-t.vars)))<|(zDw 10 (xfb 4 fd_175_4))<|(zDl 11 (fun w hS=>(xlb 0 Zu hS)))<|(zDw 12 (xix (kk:=0) Zi hT.C.row.slh))<|(zDl 13 (fun w hS=>(xlr (u:=(vv 0)) pl_22 (hT.C.row.below hS.below))))<|zDrv 14 xmv ?_
    refine(zDw 15 (Zf (r:=j+1)))<|(zDw 16 (xix (kk:=j+1) Zb (hT.C.p 0 (by omega) (by omega)).slh))<|(zDl 17 (fun w hS=>(xlr (u:= .int .i64 ((t.C 0) (j+1))) pl_3 ((hT.C.p 0 (by omega) (by omega)).below hS.below))))<|(zDw 18 (xix (kk:=(t.F j)-t.vars) Zb hv2))<|zde 19 (xso 3 pl_3 hS (ZE _ _ _)) ?_;clear hS;rintro w hS
    refine⟨⟨fun h=>absurd h (by decide),hS.pk [0,1,2,4]⟩,?_⟩
    refine zdd<|zbn<|ztn<|zrg ?_
    refine(zP)<|(zV (Zf (r:=j+1)))<|(zP)<|zln<|zlq ⟨j+1,(upd fY ((t.F j)-t.vars) ((t.C 0) (j+1))),rfl,(by omega),(by omega),?_,rfl,hS⟩
    ·
     rw [Vq t j0,<-hfY];first|rw [if_pos (by omega)]|rw [if_neg (by omega)]
   refine zx4<|(zP)<|(zV (Zf (r:=j+1)))<|(zP)<|zln<|zlq ⟨j+1,fY,rfl,(by omega),(by omega),?_,rfl,hS⟩
   ·
    rw [Vq t j0,<-hfY];first|rw [if_pos (by omega)]|rw [if_neg (by omega)]
  refine zx8<|(zV (xls 4 st_36 hS))<|zle (xsw 1 st_36 hS (hd:=(Za hv1.one (Za hv2.one (Za rfl (Za rfl Zg)))))) ?_;clear hS;rintro w hS
  refine zx1<|zfc 1 st_36 hS ⟨_,rfl,?_⟩
  obtain rfl:i=t.nb:=by omega
  obtain rfl:j=t.nf:=by omega
  have hv9:=hp.v
  rw [hv9] at hv1
  replace hS:=hS.pk [2,3];rw [hv9] at hS;subst hfX;subst hfY
  exact⟨_,_,rfl,hv1,hv2,hS⟩
theorem ZeA{p:Lp}(w0:World)(hL:LAt w0 vc vA vb vq p):
    Calls Tryz.prog 86 [.agg #[vc,vA,vb]].toArray w0 fun e w=>∃v,e= .returned v/\∃vX vY s e,v= .tuple #[.agg #[vX,vY,.int .i64 s.val,.int .i64 s.den],.int .i64 e]/\SolveR p s e/\Slh vX s.n/\Slh vY s.m/\Sat w0 w [.own vX 1 3 s.n (ints s.X),.own vY 1 3 s.m (ints s.Y)]:=by
  have hn:=hL.c.slh.n0;have hn1:=hL.c.slh.n1;have hm:=hL.A.row.slh.n0;have hm1:=hL.A.row.slh.n1;have hk:=hL.b.slh.n0;have hk1:=hL.b.slh.n1
  refine Zm Tryz.func86 Tryz.ntmps86 fun w hS=> ?_
  refine zsr<|zla (xbx (cs:= [_,_,_]) hS) ?_;rintro _ w ⟨g1,rfl,hS⟩
  refine zla (xal (cs:= [_,_,_,_]) WA hS) ?_;rintro _ w ⟨g2,rfl,hS⟩
  refine(zP)<|zlz<|(zV (xls 0 UQ hS))<|zlc (xc0 Zir) (Zez (p:=p) w (hL.below hS.below)) ?_;rintro _ w ⟨qz,qy,ql,qp,tk1,ek1,rfl,yQ,x7,x5,x6,hS'⟩
  replace hS:=(hS.comp hS').n6;clear hS'
  have bk:=fun k (k0:0<=k) (k1:k<tk1.nc)=>hS.slhIn 5 rfl k0 k1
  refine(zP)<|(zP)<|(zP)<|zla (xal (cs:= [_,_,_,_,_]) YD hS) ?_;rintro _ w ⟨g3,rfl,hS⟩
  refine zle (xsw 6 Zx hS (hd:=(Za rfl (Za rfl (Za x7.one (Za x5.one (Za x6.one Zg))))))) ?_;clear hS;rintro w hS
  refine(zP)<|zx5<|(zP)<|(zP)<|zlt<|Ze ?_ ?_<;>intro hc
  ·
   refine zsr<|(zV (xany (v:= .agg #[.slice none 0 0,.slice none 0 0,.int .i64 0,.int .i64 0])))<|(zP)<|zle (xsw 1 st_36 hS) ?_;clear hS;rintro w hS
   refine(zP)<|zx14<|ZW 1 st_36 hS ⟨_,rfl,?_⟩
   obtain⟨hl0,hl1⟩:=yQ.err (by omega)
   exact⟨_,_,So.zero,_,rfl,.inl ⟨hl0,rfl,hl1⟩,slh_nil,slh_nil,((hS.sub (.cons _ (.cons _ (.cons _ (.cons _ (.cons _ (.cons _ (.cons _ .slnil)))))))).addnil 1 3 (ints So.zero.X)).addnil 1 3 (ints So.zero.Y)⟩
  refine Z7<|(zV (xls 6 Zx hS))<|zlc (xc0 Ziq) (ZiO (t:=tk1) w (⟨(hS.rowN 2 rfl),(hS.rowN 3 rfl),(⟨(hS.rowN 4 rfl),fun k k0 k1=>hS.rowIn 5 rfl k0 k1,fun k k0 k1=>hS.roomIn 5 rfl k0 k1⟩:MAt _ ql tk1.nc qp tk1.ln tk1.C)⟩:TAt _ qz qy ql qp tk1)) ?_;rintro _ w ⟨yt,yr,ye,yd,uu1,gK,zI,rfl,qI,dI,zS,zR,zr,hS'⟩
  replace hS:=(hS.comp hS').n8;clear hS'
  have aE:=fun k (k0:0<=k) (k1:k<uu1.nc)=>((Yl (⟨(hS.rowN 2 rfl),(hS.rowN 3 rfl),(⟨(hS.rowN 4 rfl),fun k k0 k1=>hS.rowIn 5 rfl k0 k1,fun k k0 k1=>hS.roomIn 5 rfl k0 k1⟩:MAt _ ql tk1.nc qp tk1.ln tk1.C)⟩:TAt _ qz qy ql qp tk1) hS 7 rfl).C.p k k0 k1).slh
  refine(zP)<|(zP)<|(zP)<|zle (xsw 6 Zx hS (hd:=(Za rfl (Za rfl (Za zS.one (Za zR.one (Za zr.one Zg))))))) ?_;clear hS;rintro w hS
  refine(zP)<|zx5<|(zP)<|(zP)<|zlt<|Ze ?_ ?_<;>intro hc
  ·
   refine zsr<|(zV (xany (v:= .agg #[.slice none 0 0,.slice none 0 0,.int .i64 0,.int .i64 0])))<|(zP)<|zle (xsw 1 st_36 hS) ?_;clear hS;rintro w hS
   refine(zP)<|zx14<|ZW 1 st_36 hS ⟨_,rfl,?_⟩
   obtain⟨hl,hts⟩:=yQ.ok (by omega);rw [hts] at qI
   exact⟨_,_,So.zero,_,rfl,.inr ⟨hl,_,qI,.inl ⟨by omega,rfl⟩⟩,slh_nil,slh_nil,((hS.sub (.cons _ (.cons _ (.cons _ (.cons _ (.cons _ (.cons _ (.cons _ (.cons _ .slnil))))))))).addnil 1 3 (ints So.zero.X)).addnil 1 3 (ints So.zero.Y)⟩
  refine Z7<|zlv (xls 6 Zx hS) ?_
  have hzq:=dI (.inl (by omega));rw [hzq] at qI
  obtain⟨hp,_,_,_⟩:=qI.fin (.inl (by omega))
  have b1:=hp.n1
  have b2:=hp.n2
  have b3:=hp.m2
  have b4:=hp.v
  have b5:=hp.d1
  have b6:=hp.d2
  have b7:=hp.c
  refine zlc (xc0 Zip) (ZiR (t:=uu1) w (Yl (⟨(hS.rowN 2 rfl),(hS.rowN 3 rfl),(⟨(hS.rowN 4 rfl),fun k k0 k1=>hS.rowIn 5 rfl k0 k1,fun k k0 k1=>hS.roomIn 5 rfl k0 k1⟩:MAt _ ql tk1.nc qp tk1.ln tk1.C)⟩:TAt _ qz qy ql qp tk1) hS 7 rfl) hp) ?_;rintro _ w ⟨gM,gL,rfl,ck,cj,hS'⟩
  replace hS:=(hS.comp hS').n10;clear hS'
  refine zle (xsw 1 st_36 hS (hd:=(Za ck.one (Za cj.one (Za rfl (Za rfl Zg)))))) ?_;clear hS;rintro w hS
  refine(zP)<|zx1<|ZW 1 st_36 hS ⟨_,rfl,?_⟩
  have he0:zI=0:=by omega
  obtain⟨hl,hts⟩:=yQ.ok (by omega);rw [hts,he0] at qI
  exact⟨_,_,XC uu1,0,rfl,.inr ⟨hl,uu1,qI,.inr ⟨rfl,rfl⟩⟩,ck,cj,hS.pk [8,9]⟩
def SameS(s u:So):Prop:=(s.n=u.n/\∀k,0<=k->k<s.n->s.X k=u.X k)/\(s.m=u.m/\∀k,0<=k->k<s.m->s.Y k=u.Y k)/\s.val=u.val/\s.den=u.den
theorem SameS.refl(s:So):SameS s s:=⟨⟨rfl,fun _ _ _=>rfl⟩,⟨rfl,fun _ _ _=>rfl⟩,rfl,rfl⟩
end Go.Proofs.YtopmifmfecfaaaaGreat
namespace Go.Proofs.YtopmifmfecfaaaaGreat
open Go Go.RowKit Go.Proofs.Gw
variable {i n:Int} {vA vD vL:Value}
theorem Zee:Zc Tryz.prog 144=true:=by kernel_rfl
theorem ZhW:Zc Tryz.prog 165=true:=by kernel_rfl
theorem Zd9:Zc Tryz.prog 182=true:=by kernel_rfl
theorem Uo:Zc Tryz.prog 25=true:=by kernel_rfl
theorem Un:Zc Tryz.prog 47=true:=by kernel_rfl
theorem ZjX:Zc Tryz.prog 57=true:=by kernel_rfl
theorem Zd1:Zc Tryz.prog 61=true:=by kernel_rfl
theorem ZdY:Zc Tryz.prog 73=true:=by kernel_rfl
theorem ZjE:Zc Tryz.prog 98=true:=by kernel_rfl
theorem Yp:Zz Tryz.prog 100 0=some 0:=by kernel_rfl
theorem Yf:Zz Tryz.prog 100 1=some 1:=by kernel_rfl
theorem fd_24_0:Zz Tryz.prog 24 0=some 0:=by kernel_rfl
theorem fd_24_1:Zz Tryz.prog 24 1=some 1:=by kernel_rfl
theorem fd_24_2:Zz Tryz.prog 24 2=some 2:=by kernel_rfl
theorem fd_24_3:Zz Tryz.prog 24 3=some 3:=by kernel_rfl
theorem fd_35_0:Zz Tryz.prog 35 0=some 0:=by kernel_rfl
theorem fd_35_1:Zz Tryz.prog 35 1=some 1:=by kernel_rfl
theorem fd_35_2:Zz Tryz.prog 35 2=some 2:=by kernel_rfl
theorem fd_35_3:Zz Tryz.prog 35 3=some 3:=by kernel_rfl
theorem Zv:ZJ Tryz.prog 69=some (100,2):=by kernel_rfl
theorem ZC:ZF Tryz.prog 24=some 4:=by kernel_rfl
theorem st_35:ZF Tryz.prog 35=some 4:=by kernel_rfl
theorem Xo{p:Prob}(w0:World)(h:PAt w0 vL vD p):
    Calls Tryz.prog 47 [.agg #[vL,vD,.int .i64 p.stock,.int .i64 p.kerf]].toArray w0 fun e w=>∃v,e= .returned v/\v=B p.Ok/\Sat w0 w []:=by
  have hm:=h.L.slh.n0;have hm1:=h.L.slh.n1;have hd:=h.D.slh.n0;have hs:=h.is;have hk:=h.ik
  refine Zm Tryz.func47 Tryz.ntmps47 fun w hS=> ?_
  refine zsr<|zla (xbx (cs:= [_,_,_,_]) hS) ?_;rintro _ w ⟨g1,rfl,hS⟩
  refine(zP)<|zx5<|(zV (xfb 0 fd_35_0))<|(zV (xlb 0 pl_22 hS))<|(zV (xln Zb h.L.slh))<|(zP)<|(zP)<|zlb 9 ?_ ?_<;>intro hc;rotate_left
  refine(zV (xfb 0 fd_35_0))<|(zV (xlb 0 pl_22 hS))<|(zV (xln Zb h.L.slh))<|(zP)<|(zP)<|(zP)<|zlb 15 ?_ ?_<;>intro hc;rotate_left
  refine(zV (xfb 1 fd_35_1))<|(zV (xlb 0 pl_22 hS))<|(zV (xln Zb h.D.slh))<|(zV (xfb 0 fd_35_0))<|(zV (xlb 0 pl_22 hS))<|(zV (xln Zb h.L.slh))<|(zP)<|(zP)<|(zP)<|zlb 24 ?_ ?_<;>intro hc;rotate_left
  refine(zV (xfb 2 fd_35_2))<|(zV (xlb 0 pl_3 hS))<|(zP)<|(zP)<|(zP)<|zlb 29 ?_ ?_<;>intro hc;rotate_left
  refine(zV (xfb 2 fd_35_2))<|(zV (xlb 0 pl_3 hS))<|(zP)<|(zP)<|(zP)<|zlb 34 ?_ ?_<;>intro hc;rotate_left
  refine(zV (xfb 3 fd_35_3))<|(zV (xlb 0 pl_3 hS))<|(zP)<|(zP)<|(zP)<|zlb 39 ?_ ?_<;>intro hc;rotate_left
  refine(zV (xfb 3 fd_35_3))<|(zV (xlb 0 pl_3 hS))<|(zP)<|(zP)<|zlt<|Ze ?_ ?_<;>intro hc
  ·
   refine zsr<|(zP)<|zx14<|zf1 ⟨_,rfl,?_⟩
   first
   |exact⟨false_B (by intro hk;have h1:=hk.m1;have h2:=hk.m2;have h3:=hk.d;have h4:=hk.s1;have h5:=hk.s2;have h6:=hk.k1;have h7:=hk.k2;omega),hS.nl⟩
   |exact⟨false_B (by intro hk;have:=hk.all i (by omega) (by omega);unfold Prob.each at this;omega),hS.nl⟩
  refine Xb<|(zV (xfb 0 fd_35_0))<|(zV (xlb 0 pl_22 hS))<|(zV (xln Zb h.L.slh))<|(zP)<|zx6<|zlp (fun mm M w=>∃(i:Int),mm=((p.m-i).toNat)/\(0<=i)/\(i<=p.m)/\(∀k,0<=k->k<i->p.each k)/\M= [(1,.pointer (some ⟨g1,0,none⟩)),(45,vL),(46,.int .i64 p.m),(47,.int .i64 i)]/\Sat w0 w [.blk g1 [vL,vD,.int .i64 p.stock,.int .i64 p.kerf]]) ⟨0,rfl,(by omega),(by omega),?_,rfl,hS⟩ ?_
  ·
   intro k h0 h1;omega
  clear hS w
  rintro mm M w ⟨i,rfl,h0,h1,qa,rfl,hS⟩
  refine zsr<|(zP)<|zx7<|Ze ?_ ?_<;>intro hc
  ·
   refine zx3<|(zP)<|(zV (xix (kk:=i) Zb h.L.slh))<|zlv (xlr (u:= .int .i64 (p.L i)) pl_3 (h.L.below hS.below)) ?_
   have hbv:=h.iL i
   refine(zP)<|(zP)<|zlz<|(zP)<|(zP)<|(zP)<|zlb 54 ?_ ?_<;>intro hc;rotate_left
   refine(zP)<|(zV (xfb 2 fd_35_2))<|(zV (xlb 0 pl_3 hS))<|(zP)<|(zP)<|(zP)<|zlb 60 ?_ ?_<;>intro hc;rotate_left
   refine(zP)<|(zP)<|(zP)<|zlb 63 ?_ ?_<;>intro hc
   ·
    refine(zP)<|(zV (xfb 0 fd_35_0))<|(zV (xlb 0 pl_22 hS))<|(zP)<|(zV (ZD (r:=i-1)))<|(zV (xix (kk:=i-1) Zb h.L.slh))<|zlv (xlr (u:= .int .i64 (p.L (i-1))) pl_3 (h.L.below hS.below)) ?_
    have hbv:=h.iL (i-1)
    refine zs4 ?_
    refine zlb 74 ?_ ?_<;>intro hc;rotate_left
    refine(zV (xfb 1 fd_35_1))<|(zV (xlb 0 pl_22 hS))<|(zP)<|(zV (xix (kk:=i) Zb h.D.slh))<|zlv (xlr (u:= .int .i64 (p.D i)) pl_3 (h.D.below hS.below)) ?_
    have hbv:=h.iD i
    refine(zP)<|(zP)<|(zP)<|zlb 82 ?_ ?_<;>intro hc;rotate_left
    refine(zV (xfb 1 fd_35_1))<|(zV (xlb 0 pl_22 hS))<|(zP)<|(zV (xix (kk:=i) Zb h.D.slh))<|zlv (xlr (u:= .int .i64 (p.D i)) pl_3 (h.D.below hS.below)) ?_
    have hbv:=h.iD i
    refine(zP)<|(zP)<|zlt<|Ze ?_ ?_<;>intro hc
    ·
     refine zsr<|(zP)<|zx2<|zf1 ⟨_,rfl,?_⟩
     first
     |exact⟨false_B (by intro hk;have h1:=hk.m1;have h2:=hk.m2;have h3:=hk.d;have h4:=hk.s1;have h5:=hk.s2;have h6:=hk.k1;have h7:=hk.k2;omega),hS.nl⟩
     |exact⟨false_B (by intro hk;have:=hk.all i (by omega) (by omega);unfold Prob.each at this;omega),hS.nl⟩
    refine zx4<|(zV (Zf (r:=i+1)))<|(zP)<|zln<|zlq ⟨i+1,rfl,(by omega),(by omega),?_,rfl,hS⟩
    ·
     intro k h0' h1';rcases Int.lt_or_eq_of_le (show k<=i by omega) with hk|hk;exact qa k h0' hk;rw [hk];unfold Prob.each;omega
    all_goals
     refine zOps ?_
     refine zlt<|zct<|zsr ?_
     refine zOps ?_
     refine zx2<|zf1 ⟨_,rfl,?_⟩
     first
     |exact⟨false_B (by intro hk;have h1:=hk.m1;have h2:=hk.m2;have h3:=hk.d;have h4:=hk.s1;have h5:=hk.s2;have h6:=hk.k1;have h7:=hk.k2;omega),hS.nl⟩
     |exact⟨false_B (by intro hk;have:=hk.all i (by omega) (by omega);unfold Prob.each at this;omega),hS.nl⟩
   iterate 8 refine zlo ?_
   refine(zP)<|(zP)<|(zP)<|(zV (xfb 1 fd_35_1))<|(zV (xlb 0 pl_22 hS))<|(zP)<|(zV (xix (kk:=i) Zb h.D.slh))<|zlv (xlr (u:= .int .i64 (p.D i)) pl_3 (h.D.below hS.below)) ?_
   have hbv:=h.iD i
   refine(zP)<|(zP)<|(zP)<|zlb 82 ?_ ?_<;>intro hc;rotate_left
   refine(zV (xfb 1 fd_35_1))<|(zV (xlb 0 pl_22 hS))<|(zP)<|(zV (xix (kk:=i) Zb h.D.slh))<|zlv (xlr (u:= .int .i64 (p.D i)) pl_3 (h.D.below hS.below)) ?_
   have hbv:=h.iD i
   refine(zP)<|(zP)<|zlt<|Ze ?_ ?_<;>intro hc
   ·
    refine zsr<|(zP)<|zx2<|zf1 ⟨_,rfl,?_⟩
    first
    |exact⟨false_B (by intro hk;have h1:=hk.m1;have h2:=hk.m2;have h3:=hk.d;have h4:=hk.s1;have h5:=hk.s2;have h6:=hk.k1;have h7:=hk.k2;omega),hS.nl⟩
    |exact⟨false_B (by intro hk;have:=hk.all i (by omega) (by omega);unfold Prob.each at this;omega),hS.nl⟩
   refine zx4<|(zV (Zf (r:=i+1)))<|(zP)<|zln<|zlq ⟨i+1,rfl,(by omega),(by omega),?_,rfl,hS⟩
   ·
    intro k h0' h1';rcases Int.lt_or_eq_of_le (show k<=i by omega) with hk|hk;exact qa k h0' hk;rw [hk];unfold Prob.each;omega
   all_goals
    refine zOps ?_
    refine zlt<|zct<|zsr ?_
    refine zOps ?_
    refine zx2<|zf1 ⟨_,rfl,?_⟩
    first
    |exact⟨false_B (by intro hk;have h1:=hk.m1;have h2:=hk.m2;have h3:=hk.d;have h4:=hk.s1;have h5:=hk.s2;have h6:=hk.k1;have h7:=hk.k2;omega),hS.nl⟩
    |exact⟨false_B (by intro hk;have:=hk.all i (by omega) (by omega);unfold Prob.each at this;omega),hS.nl⟩
  refine zx8<|(zP)<|zx1<|zf1 ⟨_,rfl,?_⟩
  exact⟨ZU ⟨by omega,by omega,by omega,by omega,by omega,by omega,by omega,fun k h0 h1=>qa k h0 (by omega)⟩,hS.nl⟩
  all_goals
   refine zOps ?_
   refine zlt<|zct<|zsr ?_
   refine zOps ?_
   refine zx14<|zf1 ⟨_,rfl,?_⟩
   first
   |exact⟨false_B (by intro hk;have h1:=hk.m1;have h2:=hk.m2;have h3:=hk.d;have h4:=hk.s1;have h5:=hk.s2;have h6:=hk.k1;have h7:=hk.k2;omega),hS.nl⟩
   |exact⟨false_B (by intro hk;have:=hk.all i (by omega) (by omega);unfold Prob.each at this;omega),hS.nl⟩
theorem YH{p:Prob}(w0:World)(h:PAt w0 vL vD p):
    Calls Tryz.prog 25 [.agg #[vL,vD,.int .i64 p.stock,.int .i64 p.kerf]].toArray w0 fun e w=>∃v,e= .returned v/\v=B p.Ok/\Sat w0 w []:=by
  have hm:=h.L.slh.n0;have hm1:=h.L.slh.n1;have hd:=h.D.slh.n0;have hs:=h.is;have hk:=h.ik
  refine Zm Tryz.func25 Tryz.ntmps25 fun w hS=> ?_
  refine zsr<|zla (xbx (cs:= [_,_,_,_]) hS) ?_;rintro _ w ⟨g1,rfl,hS⟩
  refine(zP)<|zlz<|(zV (xfb 0 fd_24_0))<|(zV (xlb 0 pl_22 hS))<|(zV (xln Zb h.L.slh))<|(zP)<|zx5<|(zP)<|(zP)<|(zP)<|zlb 10 ?_ ?_<;>intro hc;rotate_left
  refine zs4 ?_
  refine zlb 14 ?_ ?_<;>intro hc;rotate_left
  refine(zV (xfb 1 fd_24_1))<|(zV (xlb 0 pl_22 hS))<|(zV (xln Zb h.D.slh))<|zs4 ?_
  refine zlb 21 ?_ ?_<;>intro hc;rotate_left
  refine(zV (xfb 2 fd_24_2))<|(zV (xlb 0 pl_3 hS))<|(zP)<|(zP)<|(zP)<|zlb 26 ?_ ?_<;>intro hc;rotate_left
  refine(zV (xfb 2 fd_24_2))<|(zV (xlb 0 pl_3 hS))<|(zP)<|(zP)<|(zP)<|zlb 31 ?_ ?_<;>intro hc;rotate_left
  refine(zV (xfb 3 fd_24_3))<|(zV (xlb 0 pl_3 hS))<|(zP)<|(zP)<|(zP)<|zlb 36 ?_ ?_<;>intro hc;rotate_left
  refine(zV (xfb 3 fd_24_3))<|(zV (xlb 0 pl_3 hS))<|(zP)<|(zP)<|zlt<|Ze ?_ ?_<;>intro hc
  ·
   refine zsr<|(zP)<|zx14<|zf1 ⟨_,rfl,?_⟩
   first
   |exact⟨false_B (by intro hk;have h1:=hk.m1;have h2:=hk.m2;have h3:=hk.d;have h4:=hk.s1;have h5:=hk.s2;have h6:=hk.k1;have h7:=hk.k2;omega),hS.nl⟩
   |exact⟨false_B (by intro hk;have:=hk.all i (by omega) (by omega);unfold Prob.each at this;omega),hS.nl⟩
  refine Xb<|(zP)<|zx6<|zlp (fun mm M w=>∃(i:Int),mm=((p.m-i).toNat)/\(0<=i)/\(i<=p.m)/\(∀k,0<=k->k<i->p.each k)/\M= [(1,.pointer (some ⟨g1,0,none⟩)),(3,.int .i64 p.m),(4,.int .i64 i)]/\Sat w0 w [.blk g1 [vL,vD,.int .i64 p.stock,.int .i64 p.kerf]]) ⟨0,rfl,(by omega),(by omega),?_,rfl,hS⟩ ?_
  ·
   intro k h0 h1;omega
  clear hS w
  rintro mm M w ⟨i,rfl,h0,h1,qa,rfl,hS⟩
  refine zx11<|(zP)<|(zP)<|(zP)<|zlt<|Ze ?_ ?_<;>intro hc
  ·
   refine zx27<|zdst [0] [0] 1000 mx_ hS ?_;clear hS;intro w hS
   refine(zDw 0 (xfb 0 fd_24_0))<|(zDl 1 (fun w hS=>(xlb 0 pl_22 hS)))<|(zDw 2 xmv)<|(zDw 3 (xix (kk:=i) Zb h.L.slh))<|zdla 4 (fun w hS=>(xlr (u:= .int .i64 (p.L i)) pl_3 (h.L.below hS.below))) ?_
   have hbv:=h.iL i
   refine(zDw 5 ZZ)<|(zDw 6 xmv)<|zdb 52 ?_ ?_<;>intro hc
   ·
    refine(zDo 7)<|(zDo 8)<|(zDo 9)<|(zDo 10)<|(zDo 11)<|(zDo 12)<|(zDo 13)<|(zDo 14)<|(zDw 15 xpt)<|(zDw 16 xmv)<|(zDo 17)<|(zDo 18)<|(zDo 19)<|(zDo 20)<|Ur 21 ?_
    refine(zDo 22)<|(zDo 23)<|(zDo 24)<|(zDo 25)<|(zDo 26)<|(zDo 27)<|(zDo 28)<|(zDo 29)<|(zDo 30)<|(zDo 31)<|(zDo 32)<|(zDw 33 xpt)<|(zDw 34 xmv)<|(zDo 35)<|Ur 36 ?_
    refine(zDo 37)<|(zDo 38)<|(zDo 39)<|(zDo 40)<|(zDw 41 xpt)<|(zDw 42 xmv)<|(zDo 43)<|(zDo 44)<|(zDo 45)<|(zDo 46)<|(zDo 47)<|(zDo 48)<|(zDw 49 xpt)<|zdd<|ztn<|zct<|zsr ?_
    refine(zP)<|zx2<|zf1 ⟨_,rfl,?_⟩
    first
    |exact⟨false_B (by intro hk;have h1:=hk.m1;have h2:=hk.m2;have h3:=hk.d;have h4:=hk.s1;have h5:=hk.s2;have h6:=hk.k1;have h7:=hk.k2;omega),hS.nl⟩
    |exact⟨false_B (by intro hk;have:=hk.all i (by omega) (by omega);unfold Prob.each at this;omega),hS.nl⟩
   refine(zDw 7 (xfb 0 fd_24_0))<|(zDl 8 (fun w hS=>(xlb 0 pl_22 hS)))<|(zDw 9 xmv)<|(zDw 10 (xix (kk:=i) Zb h.L.slh))<|zdla 11 (fun w hS=>(xlr (u:= .int .i64 (p.L i)) pl_3 (h.L.below hS.below))) ?_
   have hbv:=h.iL i
   refine(zDw 12 (xfb 2 fd_24_2))<|(zDl 13 (fun w hS=>(xlb 0 pl_3 hS)))<|(zDw 14 Yr)<|(zDw 15 xpf)<|(zDw 16 xmv)<|zdb 62 ?_ ?_<;>intro hc
   ·
    refine(zDo 17)<|(zDo 18)<|(zDo 19)<|(zDo 20)<|(zDo 21)<|(zDo 22)<|(zDo 23)<|(zDo 24)<|(zDo 25)<|(zDo 26)<|(zDo 27)<|(zDo 28)<|(zDo 29)<|(zDo 30)<|Ur 31 ?_
    refine(zDo 32)<|(zDw 33 xpt)<|(zDw 34 xmv)<|(zDo 35)<|(zDo 36)<|(zDo 37)<|(zDo 38)<|(zDo 39)<|(zDo 40)<|(zDw 41 xpt)<|(zDw 42 xmv)<|(zDo 43)<|(zDo 44)<|(zDo 45)<|Ur 46 ?_
    refine(zDo 47)<|(zDo 48)<|(zDw 49 xpt)<|zdd<|ztn<|zct<|zsr ?_
    refine(zP)<|zx2<|zf1 ⟨_,rfl,?_⟩
    first
    |exact⟨false_B (by intro hk;have h1:=hk.m1;have h2:=hk.m2;have h3:=hk.d;have h4:=hk.s1;have h5:=hk.s2;have h6:=hk.k1;have h7:=hk.k2;omega),hS.nl⟩
    |exact⟨false_B (by intro hk;have:=hk.all i (by omega) (by omega);unfold Prob.each at this;omega),hS.nl⟩
   refine(zDw 17 xmv)<|(zDw 18 Yr)<|(zDw 19 xmv)<|zdb 65 ?_ ?_<;>intro hc
   ·
    refine(zDw 20 (xfb 0 fd_24_0))<|(zDl 21 (fun w hS=>(xlb 0 pl_22 hS)))<|(zDw 22 xmv)<|(zDw 23 (xix (kk:=i) Zb h.L.slh))<|zdla 24 (fun w hS=>(xlr (u:= .int .i64 (p.L i)) pl_3 (h.L.below hS.below))) ?_
    have hbv:=h.iL i
    refine(zDw 25 (xfb 0 fd_24_0))<|(zDl 26 (fun w hS=>(xlb 0 pl_22 hS)))<|(zDw 27 xmv)<|(zDw 28 (ZD (r:=i-1)))<|(zDw 29 (xix (kk:=i-1) Zb h.L.slh))<|zdla 30 (fun w hS=>(xlr (u:= .int .i64 (p.L (i-1))) pl_3 (h.L.below hS.below))) ?_
    have hbv:=h.iL (i-1)
    refine(zDw 31 Xq)<|(zDw 32 xpt)<|(zDw 33 xpf)<|(zDw 34 xmv)<|zdb 80 ?_ ?_<;>intro hc
    ·
     refine(zDo 35)<|(zDo 36)<|(zDo 37)<|(zDo 38)<|(zDo 39)<|(zDo 40)<|(zDw 41 xpt)<|(zDw 42 xmv)<|(zDo 43)<|(zDo 44)<|(zDo 45)<|(zDo 46)<|(zDo 47)<|(zDo 48)<|zDrv 49 xpt ?_
     refine zdd<|ztn<|zct<|zsr ?_
     refine(zP)<|zx2<|zf1 ⟨_,rfl,?_⟩
     first
     |exact⟨false_B (by intro hk;have h1:=hk.m1;have h2:=hk.m2;have h3:=hk.d;have h4:=hk.s1;have h5:=hk.s2;have h6:=hk.k1;have h7:=hk.k2;omega),hS.nl⟩
     |exact⟨false_B (by intro hk;have:=hk.all i (by omega) (by omega);unfold Prob.each at this;omega),hS.nl⟩
    refine(zDw 35 (xfb 1 fd_24_1))<|(zDl 36 (fun w hS=>(xlb 0 pl_22 hS)))<|(zDw 37 xmv)<|(zDw 38 (xix (kk:=i) Zb h.D.slh))<|zdla 39 (fun w hS=>(xlr (u:= .int .i64 (p.D i)) pl_3 (h.D.below hS.below))) ?_
    have hbv:=h.iD i
    refine(zDw 40 ZZ)<|(zDw 41 xpf)<|(zDw 42 xmv)<|zdb 88 ?_ ?_<;>intro hc
    ·
     refine(zDo 43)<|(zDo 44)<|(zDo 45)<|(zDo 46)<|(zDo 47)<|(zDo 48)<|(zDw 49 xpt)<|zdd<|ztn<|zct<|zsr ?_
     refine(zP)<|zx2<|zf1 ⟨_,rfl,?_⟩
     first
     |exact⟨false_B (by intro hk;have h1:=hk.m1;have h2:=hk.m2;have h3:=hk.d;have h4:=hk.s1;have h5:=hk.s2;have h6:=hk.k1;have h7:=hk.k2;omega),hS.nl⟩
     |exact⟨false_B (by intro hk;have:=hk.all i (by omega) (by omega);unfold Prob.each at this;omega),hS.nl⟩
    refine(zDw 43 (xfb 1 fd_24_1))<|(zDl 44 (fun w hS=>(xlb 0 pl_22 hS)))<|(zDw 45 xmv)<|(zDw 46 (xix (kk:=i) Zb h.D.slh))<|zdla 47 (fun w hS=>(xlr (u:= .int .i64 (p.D i)) pl_3 (h.D.below hS.below))) ?_
    have hbv:=h.iD i
    refine(zDw 48 Yr)<|(zDw 49 xpf)<|zdd<|ztn ?_
    refine Ze ?_ ?_<;>intro hc
    ·
     refine zsr<|(zP)<|zx2<|zf1 ⟨_,rfl,?_⟩
     first
     |exact⟨false_B (by intro hk;have h1:=hk.m1;have h2:=hk.m2;have h3:=hk.d;have h4:=hk.s1;have h5:=hk.s2;have h6:=hk.k1;have h7:=hk.k2;omega),hS.nl⟩
     |exact⟨false_B (by intro hk;have:=hk.all i (by omega) (by omega);unfold Prob.each at this;omega),hS.nl⟩
    refine zx4<|(zP)<|(zV (Zf (r:=i+1)))<|(zP)<|zln<|zlq ⟨i+1,rfl,(by omega),(by omega),?_,rfl,hS⟩
    ·
     intro k h0' h1';rcases Int.lt_or_eq_of_le (show k<=i by omega) with hk|hk;exact qa k h0' hk;rw [hk];unfold Prob.each;omega
   refine(zDo 20)<|(zDo 21)<|(zDo 22)<|(zDo 23)<|(zDo 24)<|(zDo 25)<|(zDo 26)<|(zDo 27)<|(zDo 28)<|(zDo 29)<|(zDo 30)<|(zDo 31)<|(zDw 32 xpf)<|(zDw 33 xpf)<|zDrv 34 xmv ?_
   refine(zDw 35 (xfb 1 fd_24_1))<|(zDl 36 (fun w hS=>(xlb 0 pl_22 hS)))<|(zDw 37 xmv)<|(zDw 38 (xix (kk:=i) Zb h.D.slh))<|zdla 39 (fun w hS=>(xlr (u:= .int .i64 (p.D i)) pl_3 (h.D.below hS.below))) ?_
   have hbv:=h.iD i
   refine(zDw 40 ZZ)<|(zDw 41 xpf)<|(zDw 42 xmv)<|zdb 88 ?_ ?_<;>intro hc
   ·
    refine(zDo 43)<|(zDo 44)<|(zDo 45)<|(zDo 46)<|(zDo 47)<|(zDo 48)<|(zDw 49 xpt)<|zdd<|ztn<|zct<|zsr ?_
    refine(zP)<|zx2<|zf1 ⟨_,rfl,?_⟩
    first
    |exact⟨false_B (by intro hk;have h1:=hk.m1;have h2:=hk.m2;have h3:=hk.d;have h4:=hk.s1;have h5:=hk.s2;have h6:=hk.k1;have h7:=hk.k2;omega),hS.nl⟩
    |exact⟨false_B (by intro hk;have:=hk.all i (by omega) (by omega);unfold Prob.each at this;omega),hS.nl⟩
   refine(zDw 43 (xfb 1 fd_24_1))<|(zDl 44 (fun w hS=>(xlb 0 pl_22 hS)))<|(zDw 45 xmv)<|(zDw 46 (xix (kk:=i) Zb h.D.slh))<|zdla 47 (fun w hS=>(xlr (u:= .int .i64 (p.D i)) pl_3 (h.D.below hS.below))) ?_
   have hbv:=h.iD i
   refine(zDw 48 Yr)<|(zDw 49 xpf)<|zdd<|ztn ?_
   refine Ze ?_ ?_<;>intro hc
   ·
    refine zsr<|(zP)<|zx2<|zf1 ⟨_,rfl,?_⟩
    first
    |exact⟨false_B (by intro hk;have h1:=hk.m1;have h2:=hk.m2;have h3:=hk.d;have h4:=hk.s1;have h5:=hk.s2;have h6:=hk.k1;have h7:=hk.k2;omega),hS.nl⟩
    |exact⟨false_B (by intro hk;have:=hk.all i (by omega) (by omega);unfold Prob.each at this;omega),hS.nl⟩
   refine zx4<|(zP)<|(zV (Zf (r:=i+1)))<|(zP)<|zln<|zlq ⟨i+1,rfl,(by omega),(by omega),?_,rfl,hS⟩
   ·
    intro k h0' h1';rcases Int.lt_or_eq_of_le (show k<=i by omega) with hk|hk;exact qa k h0' hk;rw [hk];unfold Prob.each;omega
  refine zx8<|(zP)<|zx1<|zf1 ⟨_,rfl,?_⟩
  exact⟨ZU ⟨by omega,by omega,by omega,by omega,by omega,by omega,by omega,fun k h0 h1=>qa k h0 (by omega)⟩,hS.nl⟩
  all_goals
   refine zOps ?_
   refine zlt<|zct<|zsr ?_
   refine zOps ?_
   refine zx14<|zf1 ⟨_,rfl,?_⟩
   first
   |exact⟨false_B (by intro hk;have h1:=hk.m1;have h2:=hk.m2;have h3:=hk.d;have h4:=hk.s1;have h5:=hk.s2;have h6:=hk.k1;have h7:=hk.k2;omega),hS.nl⟩
   |exact⟨false_B (by intro hk;have:=hk.all i (by omega) (by omega);unfold Prob.each at this;omega),hS.nl⟩
theorem Zgi{p:Prob}(w0:World)(h:PAt w0 vL vD p):
    Calls Tryz.prog 10 [.agg #[vL,vD,.int .i64 p.stock,.int .i64 p.kerf]].toArray w0 fun e w=>∃v,e= .returned v/\v=B (XH p)/\Sat w0 w []:=by
  have hm:=h.L.slh.n0;have hm1:=h.L.slh.n1;have hd:=h.D.slh.n0;have hd1:=h.D.slh.n1;have hs:=h.is;have hk:=h.ik
  refine Zm Tryz.func10 Tryz.ntmps10 fun w hS=> ?_
  refine zsr<|zla (xbx (cs:= [_,_,_,_]) hS) ?_;rintro _ w ⟨g1,rfl,hS⟩
  refine(zP)<|zx5<|(zV (xfb 0 fd_24_0))<|(zV (xlb 0 pl_22 hS))<|(zV (xln Zb h.L.slh))<|(zP)<|(zP)<|zlb 8 ?_ ?_<;>intro hc
  ·
   iterate 4 refine zlo ?_
   refine(zP)<|zlt<|zct<|zsr ?_
   refine(zP)<|zx14<|zf1 ⟨_,rfl,?_⟩
   exact⟨false_B (by rintro⟨h2,h3,h4⟩;first|omega|(have h5:=(h4 (Classical.not_not.1 ‹¬¬(p.Ok)›)).1 i (by omega) (by omega);omega)|(have h5:=(h4 (Classical.not_not.1 ‹¬¬(p.Ok)›)).2;omega)),hS.nl⟩
  refine(zV (xfb 1 fd_24_1))<|(zV (xlb 0 pl_22 hS))<|(zV (xln Zb h.D.slh))<|(zP)<|(zP)<|zlt<|Ze ?_ ?_<;>intro hc
  ·
   refine zsr<|(zP)<|zx14<|zf1 ⟨_,rfl,?_⟩
   exact⟨false_B (by rintro⟨h2,h3,h4⟩;first|omega|(have h5:=(h4 (Classical.not_not.1 ‹¬¬(p.Ok)›)).1 i (by omega) (by omega);omega)|(have h5:=(h4 (Classical.not_not.1 ‹¬¬(p.Ok)›)).2;omega)),hS.nl⟩
  refine Xb<|(zV (xls 0 ZC hS))<|zlc (xc0 Uo) (YH (p:=p) w (h.below hS.below)) ?_;rintro _ w ⟨rfl,hS'⟩
  replace hS:=hS.cmp hS';clear hS'
  refine(zP)<|zlt<|Ze ?_ ?_<;>intro hc
  ·
   refine zsr<|(zP)<|zx14<|zf1 ⟨_,rfl,?_⟩
   exact⟨ZU (by first|exact⟨by omega,by omega,fun hk=>absurd hk ‹¬p.Ok›⟩),hS.nl⟩
  refine Xb<|(zP)<|zx6<|zlp (fun mm M w=>∃(i:Int),mm=((p.d-i).toNat)/\(0<=i)/\(i<=p.d)/\(∀k,0<=k->k<i->p.D k<=30)/\M= [(1,.pointer (some ⟨g1,0,none⟩)),(3,.int .i64 i)]/\Sat w0 w [.blk g1 [vL,vD,.int .i64 p.stock,.int .i64 p.kerf]]) ⟨0,rfl,(by omega),(by omega),?_,rfl,hS⟩ ?_
  ·
   intro k h0 h1;omega
  clear hS w
  rintro mm M w ⟨i,rfl,h0,h1,qa,rfl,hS⟩
  refine zx11<|(zP)<|(zV (xfb 1 fd_24_1))<|(zV (xlb 0 pl_22 hS))<|(zV (xln Zb h.D.slh))<|(zP)<|zlt<|Ze ?_ ?_<;>intro hc
  ·
   refine zx3<|(zV (xfb 1 fd_24_1))<|(zV (xlb 0 pl_22 hS))<|(zP)<|(zV (xix (kk:=i) Zb h.D.slh))<|zlv (xlr (u:= .int .i64 (p.D i)) pl_3 (h.D.below hS.below)) ?_
   have hbv:=h.iD i
   refine(zP)<|zlt<|Ze ?_ ?_<;>intro hc
   ·
    refine zsr<|(zP)<|zx2<|zf1 ⟨_,rfl,?_⟩
    exact⟨false_B (by rintro⟨h2,h3,h4⟩;first|omega|(have h5:=(h4 (Classical.not_not.1 ‹¬¬(p.Ok)›)).1 i (by omega) (by omega);omega)|(have h5:=(h4 (Classical.not_not.1 ‹¬¬(p.Ok)›)).2;omega)),hS.nl⟩
   refine zx4<|(zP)<|(zV (Zf (r:=i+1)))<|(zP)<|zln<|zlq ⟨i+1,rfl,(by omega),(by omega),?_,rfl,hS⟩
   ·
    intro k h0' h1';rcases Int.lt_or_eq_of_le (show k<=i by omega) with hk|hk;exact qa k h0' hk;rw [hk];omega
  refine zxt<|ztx<|ztx<|zbh<|ztn<|zsq<|zdst [0] [0] 1000 mx_ hS ?_;clear hS;intro w hS
  refine zDrv 0 (xfb 0 fd_24_0) ?_
  have hp:=(Classical.not_not.1 ‹¬¬(p.Ok)›);have hm2:=hp.m1;have hL:=(hp.all (p.m-1) (by omega) (by omega));unfold Prob.each at hL;have hs2:=hp.s2
  refine(zDl 1 (fun w hS=>(xlb 0 pl_22 hS)))<|(zDw 2 (xln Zb h.L.slh))<|(zDw 3 Xp)<|(zDw 4 xmv)<|zdb 34 ?_ ?_<;>intro hc
  ·
   refine(zDw 5 (xfb 2 fd_24_2))<|(zDl 6 (fun w hS=>(xlb 0 pl_3 hS)))<|(zDw 7 (xfb 0 fd_24_0))<|(zDl 8 (fun w hS=>(xlb 0 pl_22 hS)))<|(zDw 9 (xfb 0 fd_24_0))<|(zDl 10 (fun w hS=>(xlb 0 pl_22 hS)))<|(zDw 11 (xln Zb h.L.slh))<|(zDw 12 (ZD (r:=p.m-1)))<|(zDw 13 (xix (kk:=p.m-1) Zb h.L.slh))<|zdla 14 (fun w hS=>(xlr (u:= .int .i64 (p.L (p.m-1))) pl_3 (h.L.below hS.below))) ?_
   have hbv:=h.iL (p.m-1)
   refine(zDw 15 (Z4 (r:=12*p.L (p.m-1))))<|(zDw 16 Xp)<|(zDw 17 xpt)<|(zDw 18 xas)<|zdd<|ztn<|zrt<|zf1 ⟨_,rfl,?_⟩
   exact⟨ZA (by constructor;exact fun h5=>⟨by omega,by omega,fun _=>⟨fun k h6 h7=>qa k h6 (by omega),by omega,by omega⟩⟩;rintro⟨h2,h3,h4⟩;have h5:=(h4 (Classical.not_not.1 ‹¬¬(p.Ok)›)).2.2;omega),hS.nl⟩
  refine(zDo 5)<|(zDo 6)<|(zDo 7)<|(zDo 8)<|(zDo 9)<|(zDo 10)<|(zDo 11)<|(zDo 12)<|(zDo 13)<|(zDo 14)<|(zDo 15)<|(zDo 16)<|(zDw 17 xpf)<|(zDw 18 xas)<|zdd<|ztn<|zrt<|zf1 ⟨_,rfl,?_⟩
  exact⟨false_B (by rintro⟨h2,h3,h4⟩;first|omega|(have h5:=(h4 (Classical.not_not.1 ‹¬¬(p.Ok)›)).1 i (by omega) (by omega);omega)|(have h5:=(h4 (Classical.not_not.1 ‹¬¬(p.Ok)›)).2;omega)),hS.nl⟩
theorem ZiL{p:Prob}{f:Int->Int}(w0:World)(h:PAt w0 vL vD p)(hp:p.Ok)(hA:Row w0 vA 1 n (ints f))(hn:n=p.m)(ha:∀i,0<=i->i<p.m->0<=f i/\f i<=2000):
    Calls Tryz.prog 57 [.agg #[vL,vD,.int .i64 p.stock,.int .i64 p.kerf],vA].toArray w0 fun e w=>∃v,e= .returned v/\v= .int .i64 (Z8 p f p.m.toNat)/\Sat w0 w []:=by
  subst hn;have hm:=hp.m1;have hm2:=hp.m2
  refine Zm Tryz.func57 Tryz.ntmps57 fun w hS=> ?_
  refine zsr<|zla (xbx (cs:= [_,_,_,_]) hS) ?_;rintro _ w ⟨g1,rfl,hS⟩
  refine(zP)<|zlz<|(zP)<|zx5<|(zP)<|zx6<|zlp (fun mm M w=>∃(s:Int) (i:Int),mm=((p.m-i).toNat)/\(0<=i)/\(i<=p.m)/\(s=Z8 p f i.toNat)/\M= [(1,vA),(2,.pointer (some ⟨g1,0,none⟩)),(4,.int .i64 0),(5,.int .i64 s),(6,.int .i64 i)]/\Sat w0 w [.blk g1 [vL,vD,.int .i64 p.stock,.int .i64 p.kerf]]) ⟨0,0,rfl,(by omega),(by omega),?_,rfl,hS⟩ ?_
  ·
   rfl
  clear hS w
  rintro mm M w ⟨s,i,rfl,h0,h1,hs,rfl,hS⟩
  refine zx11<|(zP)<|(zV (xfb 0 fd_24_0))<|(zV (xlb 0 pl_22 hS))<|(zV (xln Zb h.L.slh))<|(zP)<|zlt<|Ze ?_ ?_<;>intro hc
  ·
   refine zx38<|zdst [0] [0] 1000 mx_ hS ?_;clear hS;intro w hS
   refine zDrv 0 xmv ?_
   have he:=hp.all i (by omega) (by omega);unfold Prob.each at he;have hai:=ha i (by omega) (by omega);have hk1:=hp.k1;have hk2:=hp.k2;have hs2:=hp.s2;have ht:=TE hp h0 (by omega:i<p.m) hai;have hb:=UK hp ha h0 (by omega:i<=p.m);have hb2:=UK hp ha (by omega:0<=i+1) (by omega:i+1<=p.m)
   refine(zDw 1 xmv)<|(zDw 2 xmv)<|(zDw 3 (xix (kk:=i) Zb hA.slh))<|(zDl 4 (fun w hS=>(xlr (u:= .int .i64 (f i)) pl_3 (hA.below hS.below))))<|(zDw 5 (xfb 0 fd_24_0))<|(zDl 6 (fun w hS=>(xlb 0 pl_22 hS)))<|(zDw 7 xmv)<|(zDw 8 (xix (kk:=i) Zb h.L.slh))<|zdla 9 (fun w hS=>(xlr (u:= .int .i64 (p.L i)) pl_3 (h.L.below hS.below))) ?_
   have hbv:=h.iL i
   refine(zDw 10 (xfb 3 fd_24_3))<|(zDl 11 (fun w hS=>(xlb 0 pl_3 hS)))<|(zDw 12 (Zf (r:=p.L i+p.kerf)))<|zDrv 13 (Z4 (r:=((f i)*(p.L i+p.kerf))) (e:=rfl) (hr:=(by unfold I64;omega))) ?_
   refine zDrv 14 (Zf (r:=s+((f i)*(p.L i+p.kerf))) (hr:=(by unfold I64;omega))) ?_
   refine(zDw 15 xas)<|zdd<|zbn<|ztn<|zrg ?_
   refine(zP)<|(zV (Zf (r:=i+1)))<|(zP)<|zln<|zlq ⟨s+((f i)*(p.L i+p.kerf)),i+1,rfl,(by omega),(by omega),?_,rfl,hS⟩
   ·
    rw [hs];exact(Z2 _ h0).symm
  refine zx8<|(zP)<|(zP)<|zx1<|zf1 ⟨_,rfl,?_⟩
  obtain rfl:i=p.m:=by omega
  exact⟨congrArg (Value.int .i64) hs,hS.nl⟩
theorem Zbi{p:Prob}{f:Int->Int}(w0:World)(h:PAt w0 vL vD p)(hA:Row w0 vA 1 n (ints f)):
    Calls Tryz.prog 73 [.agg #[vL,vD,.int .i64 p.stock,.int .i64 p.kerf],vA].toArray w0 fun e w=>∃v,e= .returned v/\v=B (FitsP p n f)/\Sat w0 w []:=by
  have hm:=h.L.slh.n0;have hm1:=h.L.slh.n1;have hd:=h.D.slh.n0;have hs:=h.is;have hk:=h.ik;have hn:=hA.slh.n0;have hn1:=hA.slh.n1
  refine Zm Tryz.func73 Tryz.ntmps73 fun w hS=> ?_
  refine zsr<|zla (xbx (cs:= [_,_,_,_]) hS) ?_;rintro _ w ⟨g1,rfl,hS⟩
  refine(zP)<|zx5<|(zV (xls 0 ZC hS))<|zlc (xc0 Uo) (YH (p:=p) w (h.below hS.below)) ?_;rintro _ w ⟨rfl,hS'⟩
  replace hS:=hS.cmp hS';clear hS'
  refine(zP)<|(zP)<|zlb 9 ?_ ?_<;>intro hc
  ·
   iterate 6 refine zlo ?_
   refine(zP)<|zlt<|zct<|zsr ?_
   refine(zP)<|zx14<|zf1 ⟨_,rfl,?_⟩
   first
   |exact⟨false_B (by intro hk;exact absurd hk.ok ‹¬p.Ok›),hS.nl⟩
   |exact⟨false_B (by intro hk;have:=hk.eq;omega),hS.nl⟩
   |exact⟨false_B (by intro hk;have:=hk.all i (by omega) (by have:=hk.eq;omega);omega),hS.nl⟩
  refine(zP)<|(zV (xln Zb hA.slh))<|(zV (xfb 0 fd_24_0))<|(zV (xlb 0 pl_22 hS))<|(zV (xln Zb h.L.slh))<|(zP)<|(zP)<|zlt<|Ze ?_ ?_<;>intro hc
  ·
   refine zsr<|(zP)<|zx14<|zf1 ⟨_,rfl,?_⟩
   first
   |exact⟨false_B (by intro hk;exact absurd hk.ok ‹¬p.Ok›),hS.nl⟩
   |exact⟨false_B (by intro hk;have:=hk.eq;omega),hS.nl⟩
   |exact⟨false_B (by intro hk;have:=hk.all i (by omega) (by have:=hk.eq;omega);omega),hS.nl⟩
  refine Xb<|(zP)<|zx6<|zlp (fun mm M w=>∃(i:Int),mm=((n-i).toNat)/\(0<=i)/\(i<=n)/\(∀k,0<=k->k<i->0<=f k/\f k<=2000)/\M= [(1,vA),(2,.pointer (some ⟨g1,0,none⟩)),(5,.int .i64 i)]/\Sat w0 w [.blk g1 [vL,vD,.int .i64 p.stock,.int .i64 p.kerf]]) ⟨0,rfl,(by omega),(by omega),?_,rfl,hS⟩ ?_
  ·
   intro k h0 h1;omega
  clear hS w
  rintro mm M w ⟨i,rfl,h0,h1,qa,rfl,hS⟩
  refine zx11<|(zP)<|(zP)<|(zV (xln Zb hA.slh))<|(zP)<|zlt<|Ze ?_ ?_<;>intro hc
  ·
   refine zx3<|(zP)<|(zP)<|(zV (xix (kk:=i) Zb hA.slh))<|(zV (xlr (u:= .int .i64 (f i)) pl_3 (hA.below hS.below)))<|(zP)<|(zP)<|zlb 28 ?_ ?_<;>intro hc
   ·
    iterate 5 refine zlo ?_
    refine(zP)<|zlt<|zct<|zsr ?_
    refine(zP)<|zx2<|zf1 ⟨_,rfl,?_⟩
    first
    |exact⟨false_B (by intro hk;exact absurd hk.ok ‹¬p.Ok›),hS.nl⟩
    |exact⟨false_B (by intro hk;have:=hk.eq;omega),hS.nl⟩
    |exact⟨false_B (by intro hk;have:=hk.all i (by omega) (by have:=hk.eq;omega);omega),hS.nl⟩
   refine(zP)<|(zP)<|(zV (xix (kk:=i) Zb hA.slh))<|(zV (xlr (u:= .int .i64 (f i)) pl_3 (hA.below hS.below)))<|(zP)<|(zP)<|zlt<|Ze ?_ ?_<;>intro hc
   ·
    refine zsr<|(zP)<|zx2<|zf1 ⟨_,rfl,?_⟩
    first
    |exact⟨false_B (by intro hk;exact absurd hk.ok ‹¬p.Ok›),hS.nl⟩
    |exact⟨false_B (by intro hk;have:=hk.eq;omega),hS.nl⟩
    |exact⟨false_B (by intro hk;have:=hk.all i (by omega) (by have:=hk.eq;omega);omega),hS.nl⟩
   refine zx4<|(zP)<|(zV (Zf (r:=i+1)))<|(zP)<|zln<|zlq ⟨i+1,rfl,(by omega),(by omega),?_,rfl,hS⟩
   ·
    intro k h0' h1';rcases Int.lt_or_eq_of_le (show k<=i by omega) with hk|hk;exact qa k h0' hk;rw [hk];omega
  refine zxt<|ztx<|ztx<|zbh<|ztn<|zsq<|zdst [0] [0] 1000 mx_ hS ?_;clear hS;intro w hS
  refine zdla 0 (fun w hS=>(xls 0 ZC hS)) ?_
  have hp:=(Classical.not_not.1 ‹¬¬(p.Ok)›);have hs1:=hp.s1;have hs2:=hp.s2;have hk1:=hp.k1;have hk2:=hp.k2
  refine(zDw 1 xmv)<|(zDw 3 (xfb 2 fd_24_2))<|(zDl 4 (fun w hS=>(xlb 0 pl_3 hS)))<|(zDw 5 (xfb 3 fd_24_3))<|(zDl 6 (fun w hS=>(xlb 0 pl_3 hS)))<|(zDw 7 (Zf (r:=p.stock+p.kerf)))<|zdc 2 (xc0 ZjX) (ZiL (p:=p) w (h.below hS.below) (Classical.not_not.1 ‹¬¬(p.Ok)›) (hA.below hS.below) (by omega) (fun k k0 k1=>qa k k0 (by omega))) ?_;rintro _ w ⟨rfl,hS'⟩
  replace hS:=hS.cmp hS';clear hS'
  refine⟨⟨fun _=>hS,hS⟩,?_⟩
  refine(zDw 8 Xp)<|(zDw 9 xas)<|zdd<|ztn<|zrt<|zf1 ⟨_,rfl,?_⟩
  exact⟨ZA ⟨fun hu=>⟨(Classical.not_not.1 ‹¬¬(p.Ok)›),by omega,fun k k0 k1=>qa k k0 (by omega),hu⟩,fun hk=>hk.used⟩,hS.nl⟩
theorem Zf4{vU:Value}{u:Int}{pv:Int->Value}{len:Int->Int}{pt:Int->Int->Int}{cnt:Int->Int}(w0:World)(hU:UAt w0 vU u pv len pt cnt):
    Calls Tryz.prog 38 [vU].toArray w0 fun e w=>∃v,e= .returned v/\v=B (ShortP u len cnt)/\Sat w0 w []:=by
  have hu:=hU.row.slh.n0;have hu1:=hU.row.slh.n1
  refine Zm Tryz.func38 Tryz.ntmps38 fun w hS=> ?_
  refine zsr<|(zP)<|zx5<|(zP)<|zx6<|zlp (fun mm M w=>∃(i:Int),mm=((u-i).toNat)/\(0<=i)/\(i<=u)/\(∀k,0<=k->k<i->len k<=25/\cnt k<=40)/\M= [(0,vU),(3,.int .i64 i)]/\Sat w0 w []) ⟨0,rfl,(by omega),(by omega),?_,rfl,hS⟩ ?_
  ·
   intro k h0 h1;omega
  clear hS w
  rintro mm M w ⟨i,rfl,h0,h1,qa,rfl,hS⟩
  refine zx11<|(zP)<|(zP)<|(zV (xln Zv hU.row.slh))<|(zP)<|zlt<|Ze ?_ ?_<;>intro hc
  ·
   refine zx3<|(zP)<|(zP)<|(zV (xix (kk:=2*i) Zv hU.row.slh))<|(zV (xfc (kk:=2*i) Yp hU.row.slh))<|(zV (xlr (u:=(pv i)) pl_22 (hU.row.below hS.below) (e:=(Yu pv cnt (by omega)))))<|(zV (xln Zb (hU.p i (by omega) (by omega)).row.slh))<|(zP)<|(zP)<|zlb 17 ?_ ?_<;>intro hc
   ·
    iterate 6 refine zlo ?_
    refine(zP)<|zlt<|zct<|zsr ?_
    refine(zP)<|zx2<|zf1 ⟨_,rfl,?_⟩
    exact⟨false_B (by intro hk;have:=hk.all i (by omega) (by omega);omega),hS⟩
   refine(zP)<|(zP)<|(zV (xix (kk:=2*i) Zv hU.row.slh))<|(zV (xfc (kk:=2*i+1) Yf hU.row.slh))<|zlv (xlr (u:= .int .i64 (cnt i)) pl_3 (hU.row.below hS.below) (e:=(Yt pv cnt (by omega)))) ?_
   have hbv:=hU.c i
   refine(zP)<|(zP)<|zlt<|Ze ?_ ?_<;>intro hc
   ·
    refine zsr<|(zP)<|zx2<|zf1 ⟨_,rfl,?_⟩
    exact⟨false_B (by intro hk;have:=hk.all i (by omega) (by omega);omega),hS⟩
   refine zx4<|(zP)<|(zV (Zf (r:=i+1)))<|(zP)<|zln<|zlq ⟨i+1,rfl,(by omega),(by omega),?_,rfl,hS⟩
   ·
    intro k h0' h1';rcases Int.lt_or_eq_of_le (show k<=i by omega) with hk|hk;exact qa k h0' hk;rw [hk];omega
  refine zx8<|(zP)<|(zV (xln Zv hU.row.slh))<|(zP)<|(zP)<|zx1<|zf1 ⟨_,rfl,?_⟩
  exact⟨ZA (by exact⟨fun h5=>⟨fun k k0 k1=>qa k k0 (by omega),h5⟩,fun h5=>h5.few⟩),hS⟩
def ZN(p:Prob)(n:Int)(f:Int->Int):Prop:=FitsP p n f/\∀k,0<=k->k<n->f k<=p.D k
theorem YW {p:Prob} {f:Int->Int} (hf:FitsP p n f) (i0:0<=i) (i1:i<n):0<=f i/\f i<=(p.stock+p.kerf-Z8 p f i.toNat).tdiv (p.L i+p.kerf):=by
  have hp:=hf.ok
  have hn:=hf.eq
  have he:=hp.all i i0 (by omega)
  unfold Prob.each at he
  have hk:=hp.k1
  have hu:∀j:Nat,i.toNat+j<=n.toNat->Z8 p f i.toNat<=Z8 p f (i.toNat+j):=fun j=>by
    induction j with
    |zero=>intro _;exact Int.le_refl _
    | succ j ih=>
      intro hj
      have h1:=ih (by omega)
      have h2:=hf.all ((i.toNat+j:Nat):Int) (by omega) (by omega)
      have h3:=hp.all ((i.toNat+j:Nat):Int) (by omega) (by omega)
      unfold Prob.each at h3
      have h4:=Int.mul_nonneg h2.1 (show 0<=p.L ((i.toNat+j:Nat):Int)+p.kerf by omega)
      have h5:=Z2 (fun i=>f i*(p.L i+p.kerf)) (i:=((i.toNat+j:Nat):Int)) (by omega)
      have e:Z8 p f (i.toNat+(j+1))=Z8 p f (i.toNat+j)+f ((i.toNat+j:Nat):Int)*(p.L ((i.toNat+j:Nat):Int)+p.kerf):=by
        unfold Z8
        rw [show i.toNat+(j+1)=(((i.toNat+j:Nat):Int)+1).toNat by omega,h5];rfl
      rw [e];omega
  have h1:Z8 p f (i+1).toNat=Z8 p f i.toNat+f i*(p.L i+p.kerf):=Z2 _ i0
  have h2 :Z8 p f (i+1).toNat<=Z8 p f n.toNat:=by
    have h3:∀j:Nat,(i+1).toNat+j<=n.toNat->Z8 p f (i+1).toNat<=Z8 p f ((i+1).toNat+j):=fun j=>by
      induction j with
      |zero=>intro _;exact Int.le_refl _
      | succ j ih=>
        intro hj
        have h1:=ih (by omega)
        have h2:=hf.all (((i+1).toNat+j:Nat):Int) (by omega) (by omega)
        have h3:=hp.all (((i+1).toNat+j:Nat):Int) (by omega) (by omega)
        unfold Prob.each at h3
        have h4:=Int.mul_nonneg h2.1 (show 0<=p.L (((i+1).toNat+j:Nat):Int)+p.kerf by omega)
        have h5:=Z2 (fun i=>f i*(p.L i+p.kerf)) (i:=(((i+1).toNat+j:Nat):Int)) (by omega)
        have e:Z8 p f ((i+1).toNat+(j+1))=Z8 p f ((i+1).toNat+j)+f (((i+1).toNat+j:Nat):Int)*(p.L (((i+1).toNat+j:Nat):Int)+p.kerf):=by
          unfold Z8
          rw [show(i+1).toNat+(j+1)=((((i+1).toNat+j:Nat):Int)+1).toNat by omega,h5];rfl
        rw [e];omega
    have h4:=h3 (n.toNat-(i+1).toNat) (by omega)
    rwa [show(i+1).toNat+(n.toNat-(i+1).toNat)=n.toNat by omega] at h4
  have h3:=hf.used
  rw [<-hn] at h3
  have h0:=(hf.all i i0 (by omega)).1
  have h4:=Int.mul_nonneg h0 (show 0<=p.L i+p.kerf by omega)
  refine⟨h0,?_⟩
  rw [Int.tdiv_eq_ediv_of_nonneg (by omega)]
  exact(Int.le_ediv_iff_mul_le (by omega)).2 (by omega)
theorem Zcu{p:Prob}(hp:p.Ok){l x:Int}(i0:0<=i)(i1:i<p.m)(l0:0<=l)(l1:l<=p.stock+p.kerf)(x0:0<=x)(x1:x<=l.tdiv (p.L i+p.kerf)):0<=x*(p.L i+p.kerf)/\x*(p.L i+p.kerf)<=l/\x<=2000:=by
  have he:=hp.all i i0 i1
  unfold Prob.each at he
  have hk:=hp.k1;have hs:=hp.s2
  rw [Int.tdiv_eq_ediv_of_nonneg l0] at x1
  have h1:=(Int.le_ediv_iff_mul_le (show 0<p.L i+p.kerf by omega)).1 x1
  have h2:=Int.mul_nonneg x0 (show 0<=p.L i+p.kerf by omega)
  refine⟨h2,h1,?_⟩
  by_cases hx:x<=2000
  · exact hx
  · exfalso
    have h3:=Int.mul_le_mul_of_nonneg_left (show 1+p.kerf<=p.L i+p.kerf by omega) x0
    have h4:=Int.mul_le_mul_of_nonneg_right (show 1<=x by omega) hk
    have h5:x*(1+p.kerf)=x+x*p.kerf:=by rw [Int.mul_add,Int.mul_one]
    omega
theorem Zex{p:Prob}(w0:World)(h:PAt w0 vL vD p)(hok:p.Ok)(i0:0<=i)(i1:i<p.m):
    Calls Tryz.prog 182 [.agg #[vL,vD,.int .i64 p.stock,.int .i64 p.kerf],.int .i64 i].toArray w0 fun e w=>∃v,e= .returned v/\v= .int .i64 (p.L i+p.kerf)/\Sat w0 w []:=by
  have hp:=hok;have he:=hp.all i i0 i1;unfold Prob.each at he;have hs2:=hp.s2;have hk1:=hp.k1;have hk2:=hp.k2
  refine Zm Tryz.func182 Tryz.ntmps182 fun w hS=> ?_
  refine zsr<|zla (xbx (cs:= [_,_,_,_]) hS) ?_;rintro _ w ⟨g1,rfl,hS⟩
  refine(zP)<|zx7<|zdst [0] [0] 1000 mx_ hS ?_;clear hS;intro w hS
  refine(zDw 0 (xfb 0 fd_35_0))<|(zDl 1 (fun w hS=>(xlb 0 pl_22 hS)))<|(zDw 2 xmv)<|(zDw 3 (xix (kk:=i) Zb h.L.slh))<|zdla 4 (fun w hS=>(xlr (u:= .int .i64 (p.L i)) pl_3 (h.L.below hS.below))) ?_
  have hbv:=h.iL i
  refine(zDw 5 (xfb 3 fd_35_3))<|(zDl 6 (fun w hS=>(xlb 0 pl_3 hS)))<|(zDw 7 (Zf (r:=p.L i+p.kerf)))<|(zDw 8 xas)<|zdd<|ztn<|zrt<|zf1 ⟨_,rfl,?_⟩
  exact⟨rfl,hS.nl⟩
theorem Zi1{p:Prob}{f:Int->Int}(w0:World)(h:PAt w0 vL vD p)(hA:Row w0 vA 1 n (ints f)):
    Calls Tryz.prog 165 [.agg #[vL,vD,.int .i64 p.stock,.int .i64 p.kerf],vA].toArray w0 fun e w=>∃v,e= .returned v/\∃(r:Int) (ok:Prop),v= .tuple #[.int .i64 r,B ok]/\(ok↔FitsP p n f)/\Sat w0 w []:=by
  have hm:=h.L.slh.n0;have hm1:=h.L.slh.n1;have hd:=h.D.slh.n0;have hd1:=h.D.slh.n1;have hs:=h.is;have hk:=h.ik
  have hn:=hA.slh.n0;have hn1:=hA.slh.n1
  refine Zm Tryz.func165 Tryz.ntmps165 fun w hS=> ?_
  refine zsr<|zla (xbx (cs:= [_,_,_,_]) hS) ?_;rintro _ w ⟨g1,rfl,hS⟩
  refine(zP)<|(zP)<|zx5<|(zV (xls 0 st_35 hS))<|zlc (xc0 Un) (Xo (p:=p) w (h.below hS.below)) ?_;rintro _ w ⟨rfl,hS'⟩
  replace hS:=hS.cmp hS';clear hS'
  refine(zP)<|(zP)<|zlb 12 ?_ ?_<;>intro hc
  ·
   iterate 6 refine zlo ?_
   refine(zP)<|zlt<|zct<|zsr ?_
   refine(zP)<|(zP)<|zx14<|zf2 ⟨_,rfl,?_⟩
   exact⟨_,False,by rw [B_false not_false],⟨fun hh=>hh.elim,fun hf=>by
     first
     |exact absurd hf.ok ‹¬p.Ok›
     |(have:=hf.eq;omega)
     |(have h8:=YW hf h0 (by omega);rw [<-show p.stock+p.kerf-Z8 p f i.toNat=l by omega] at*;omega)
     |(have h8:=YW hf h0 (by omega);omega)⟩,hS.nl⟩
  refine(zP)<|(zV (xln Zb hA.slh))<|(zV (xfb 0 fd_35_0))<|(zV (xlb 0 pl_22 hS))<|(zV (xln Zb h.L.slh))<|(zP)<|(zP)<|zlt<|Ze ?_ ?_<;>intro hc
  ·
   refine zsr<|(zP)<|(zP)<|zx14<|zf2 ⟨_,rfl,?_⟩
   exact⟨_,False,by rw [B_false not_false],⟨fun hh=>hh.elim,fun hf=>by
     first
     |exact absurd hf.ok ‹¬p.Ok›
     |(have:=hf.eq;omega)
     |(have h8:=YW hf h0 (by omega);rw [<-show p.stock+p.kerf-Z8 p f i.toNat=l by omega] at*;omega)
     |(have h8:=YW hf h0 (by omega);omega)⟩,hS.nl⟩
  refine Z7<|zlv (xfb 2 fd_35_2) ?_
  have hp:p.Ok:=by first|assumption|exact Classical.not_not.1 ‹_›
  have hnm:n=p.m:=by omega
  have hs1:=hp.s1;have hs2:=hp.s2;have hk1:=hp.k1;have hk2:=hp.k2
  refine(zV (xlb 0 pl_3 hS))<|(zV (xfb 3 fd_35_3))<|(zV (xlb 0 pl_3 hS))<|(zV (Zf (r:=p.stock+p.kerf)))<|(zP)<|zx5<|(zP)<|(zV (xln Zb hA.slh))<|(zP)<|zx6<|zlp (fun mm M w=>∃(l:Int) (i:Int),mm=((n-i).toNat)/\(0<=i)/\(i<=n)/\(l=p.stock+p.kerf-Z8 p f i.toNat)/\(0<=l)/\(l<=p.stock+p.kerf)/\(∀k,0<=k->k<i->0<=f k/\f k<=2000)/\M= [(2,.pointer (some ⟨g1,0,none⟩)),(6,.int .i64 l),(25,vA),(26,.int .i64 n),(27,.int .i64 i)]/\Sat w0 w [.blk g1 [vL,vD,.int .i64 p.stock,.int .i64 p.kerf]]) ⟨p.stock+p.kerf,0,rfl,(by omega),(by omega),?_,(by omega),(by omega),?_,rfl,hS⟩ ?_
  ·
   show _=_-0;omega
  ·
   intro k k0 k1;omega
  clear hS w
  rintro mm M w ⟨l,i,rfl,h0,h1,hl,hl0,hl1,qa,rfl,hS⟩
  refine zsr<|(zP)<|zx7<|Ze ?_ ?_<;>intro hc
  ·
   refine zx3<|zlv xmv ?_
   have he:=hp.all i h0 (by omega);unfold Prob.each at he
   have hqd:=Yx (a:=l) (d:=p.L i+p.kerf) (A:=2100) (by omega) (by omega)
   refine(zV (xix (kk:=i) Zb hA.slh))<|(zV (xlr (u:= .int .i64 (f i)) pl_3 (hA.below hS.below)))<|(zP)<|(zP)<|zx5<|(zP)<|(zP)<|(zP)<|zlb 34 ?_ ?_<;>intro hc
   ·
    iterate 7 refine zlo ?_
    refine(zP)<|zlt<|zct<|zsr ?_
    refine(zP)<|(zP)<|zlt<|zrt<|ztr<|zbr<|ztr<|ztr<|zbr<|ztr<|zf2 ⟨_,rfl,?_⟩
    exact⟨_,False,by rw [B_false not_false],⟨fun hh=>hh.elim,fun hf=>by
      first
      |exact absurd hf.ok ‹¬p.Ok›
      |(have:=hf.eq;omega)
      |(have h8:=YW hf h0 (by omega);rw [<-show p.stock+p.kerf-Z8 p f i.toNat=l by omega] at*;omega)
      |(have h8:=YW hf h0 (by omega);omega)⟩,hS.nl⟩
   refine(zP)<|(zP)<|(zV (xls 0 st_35 hS))<|(zP)<|zlc (xc0 Zd9) (Zex (p:=p) (i:=i) w (h.below hS.below) hp (by omega) (by omega)) ?_;rintro _ w ⟨rfl,hS'⟩
   replace hS:=hS.cmp hS';clear hS'
   refine(zV (Ut (r:=(Int.tdiv l (p.L i+p.kerf)))))<|(zP)<|(zP)<|zlt<|Ze ?_ ?_<;>intro hc
   ·
    refine zsr<|(zP)<|(zP)<|zlt<|zrt<|ztr<|zbr<|ztr<|ztr<|zbr<|ztr<|zf2 ⟨_,rfl,?_⟩
    exact⟨_,False,by rw [B_false not_false],⟨fun hh=>hh.elim,fun hf=>by
      first
      |exact absurd hf.ok ‹¬p.Ok›
      |(have:=hf.eq;omega)
      |(have h8:=YW hf h0 (by omega);rw [<-show p.stock+p.kerf-Z8 p f i.toNat=l by omega] at*;omega)
      |(have h8:=YW hf h0 (by omega);omega)⟩,hS.nl⟩
   refine zsk<|ztn<|zrg<|zlv xmv ?_
   have hst:=Zcu hp h0 (by omega) hl0 hl1 (x:=f i) (by omega) (by omega)
   refine(zP)<|(zV (xls 0 st_35 hS))<|(zP)<|zlc (xc0 Zd9) (Zex (p:=p) (i:=i) w (h.below hS.below) hp (by omega) (by omega)) ?_;rintro _ w ⟨rfl,hS'⟩
   replace hS:=hS.cmp hS';clear hS'
   refine(zV (Z4 (r:=((f i)*(p.L i+p.kerf))) (e:=rfl)))<|(zV (ZD (r:=l-((f i)*(p.L i+p.kerf)))))<|(zP)<|zx10<|(zV (Zf (r:=i+1)))<|(zP)<|zln<|zlq ⟨l-((f i)*(p.L i+p.kerf)),i+1,rfl,(by omega),(by omega),?_,(by omega),(by omega),?_,rfl,hS⟩
   ·
    have h9:Z8 p f (i+1).toNat=Z8 p f i.toNat+f i*(p.L i+p.kerf):=Z2 _ h0
    rw [h9];omega
   ·
    intro k h0' h1';rcases Int.lt_or_eq_of_le (show k<=i by omega) with hk|hk;exact qa k h0' hk;rw [hk];omega
  refine zx8<|(zP)<|(zP)<|(zP)<|zx1<|zf2 ⟨_,rfl,?_⟩
  exact⟨_,True,by rw [YM trivial],⟨fun _=>⟨hp,by omega,fun k k0 k1=>(qa k k0 (by omega)),by rw [<-hnm,show n=i by omega];omega⟩,fun _=>trivial⟩,hS.nl⟩
theorem Zb8{p:Prob}{f:Int->Int}(w0:World)(h:PAt w0 vL vD p)(hA:Row w0 vA 1 n (ints f)):
    Calls Tryz.prog 144 [.agg #[vL,vD,.int .i64 p.stock,.int .i64 p.kerf],vA].toArray w0 fun e w=>∃v,e= .returned v/\v=B (FitsP p n f)/\Sat w0 w []:=by
  refine Zm Tryz.func144 Tryz.ntmps144 fun w hS=> ?_
  refine zsr<|zla (xbx (cs:= [_,_,_,_]) hS) ?_;rintro _ w ⟨g1,rfl,hS⟩
  refine(zP)<|zlz<|(zV (xls 0 st_35 hS))<|(zP)<|zlc (xc0 ZhW) (Zi1 (p:=p) w (h.below hS.below) (hA.below hS.below)) ?_;rintro _ w ⟨rr1,gN,rfl,eB,hS'⟩
  replace hS:=hS.cmp hS';clear hS'
  refine zs5 ?_
  refine zlz<|(zP)<|(zP)<|zx1<|zf1 ⟨_,rfl,?_⟩
  exact⟨ZA eB,hS.nl⟩
theorem Ri{p:Prob}{f:Int->Int}(w0:World)(h:PAt w0 vL vD p)(hA:Row w0 vA 1 n (ints f)):
    Calls Tryz.prog 119 [.agg #[vL,vD,.int .i64 p.stock,.int .i64 p.kerf],vA].toArray w0 fun e w=>∃v,e= .returned v/\v=B (ZN p n f)/\Sat w0 w []:=by
  have hm:=h.L.slh.n0;have hm1:=h.L.slh.n1;have hd:=h.D.slh.n0;have hd1:=h.D.slh.n1;have hs:=h.is;have hk:=h.ik
  have hn:=hA.slh.n0;have hn1:=hA.slh.n1
  refine Zm Tryz.func119 Tryz.ntmps119 fun w hS=> ?_
  refine zsr<|zla (xbx (cs:= [_,_,_,_]) hS) ?_;rintro _ w ⟨g1,rfl,hS⟩
  refine(zP)<|zx5<|(zV (xls 0 st_35 hS))<|(zP)<|zlc (xc0 Zee) (Zb8 (p:=p) w (h.below hS.below) (hA.below hS.below)) ?_;rintro _ w ⟨rfl,hS'⟩
  replace hS:=hS.cmp hS';clear hS'
  refine(zP)<|zlt<|Ze ?_ ?_<;>intro hc
  ·
   refine zsr<|(zP)<|zx14<|zf1 ⟨_,rfl,?_⟩
   exact⟨false_B (by intro hh;first|exact absurd hh.1 ‹_›|(have:=hh.2 i h0 (by omega);omega)),hS.nl⟩
  refine Xb<|(zP)<|(zV (xln Zb hA.slh))<|(zP)<|zx6 ?_
  have qA:FitsP p n f:=by first|assumption|exact Classical.not_not.1 ‹_›
  have hfe:=qA.eq;have hfd:=qA.ok.d
  refine zlp (fun mm M w=>∃(i:Int),mm=((n-i).toNat)/\(0<=i)/\(i<=n)/\(∀k,0<=k->k<i->f k<=p.D k)/\M= [(2,.pointer (some ⟨g1,0,none⟩)),(11,vA),(12,.int .i64 n),(13,.int .i64 i)]/\Sat w0 w [.blk g1 [vL,vD,.int .i64 p.stock,.int .i64 p.kerf]]) ⟨0,rfl,(by omega),(by omega),?_,rfl,hS⟩ ?_
  ·
   intro k k0 k1;omega
  clear hS w
  rintro mm M w ⟨i,rfl,h0,h1,qa,rfl,hS⟩
  refine zsr<|(zP)<|zx7<|Ze ?_ ?_<;>intro hc
  ·
   refine zx3<|(zP)<|(zV (xix (kk:=i) Zb hA.slh))<|(zV (xlr (u:= .int .i64 (f i)) pl_3 (hA.below hS.below)))<|(zP)<|(zP)<|zlz<|(zP)<|(zV (xfb 1 fd_35_1))<|(zV (xlb 0 pl_22 hS))<|(zP)<|(zV (xix (kk:=i) Zb h.D.slh))<|zlv (xlr (u:= .int .i64 (p.D i)) pl_3 (h.D.below hS.below)) ?_
   have hbv:=h.iD i
   refine(zP)<|zlt<|Ze ?_ ?_<;>intro hc
   ·
    refine zsr<|(zP)<|zx2<|zf1 ⟨_,rfl,?_⟩
    exact⟨false_B (by intro hh;first|exact absurd hh.1 ‹_›|(have:=hh.2 i h0 (by omega);omega)),hS.nl⟩
   refine zx4<|(zV (Zf (r:=i+1)))<|(zP)<|zln<|zlq ⟨i+1,rfl,(by omega),(by omega),?_,rfl,hS⟩
   ·
    intro k h0' h1';rcases Int.lt_or_eq_of_le (show k<=i by omega) with hk|hk;exact qa k h0' hk;rw [hk];omega
  refine zx8<|(zP)<|zx1<|zf1 ⟨_,rfl,?_⟩
  exact⟨ZU (by exact⟨qA,fun k k0 k1=>qa k k0 (by omega)⟩),hS.nl⟩
theorem Uq{p:Prob}{f:Int->Int}(w0:World)(h:PAt w0 vL vD p)(hA:Row w0 vA 1 n (ints f)):
    Calls Tryz.prog 85 [.agg #[vL,vD,.int .i64 p.stock,.int .i64 p.kerf],vA].toArray w0 fun e w=>∃v,e= .returned v/\v=B (ZN p n f)/\Sat w0 w []:=by
  have hm:=h.L.slh.n0;have hm1:=h.L.slh.n1;have hd:=h.D.slh.n0;have hd1:=h.D.slh.n1;have hs:=h.is;have hk:=h.ik
  have hn:=hA.slh.n0;have hn1:=hA.slh.n1
  refine Zm Tryz.func85 Tryz.ntmps85 fun w hS=> ?_
  refine zsr<|zla (xbx (cs:= [_,_,_,_]) hS) ?_;rintro _ w ⟨g1,rfl,hS⟩
  refine(zP)<|zx5<|(zV (xls 0 ZC hS))<|(zP)<|zlc (xc0 ZdY) (Zbi (p:=p) w (h.below hS.below) (hA.below hS.below)) ?_;rintro _ w ⟨rfl,hS'⟩
  replace hS:=hS.cmp hS';clear hS'
  refine(zP)<|zlt<|Ze ?_ ?_<;>intro hc
  ·
   refine zsr<|(zP)<|zx14<|zf1 ⟨_,rfl,?_⟩
   exact⟨false_B (by intro hh;first|exact absurd hh.1 ‹_›|(have:=hh.2 i h0 (by omega);omega)),hS.nl⟩
  refine Xb<|(zP)<|zx6 ?_
  have qA:FitsP p n f:=by first|assumption|exact Classical.not_not.1 ‹_›
  have hfe:=qA.eq;have hfd:=qA.ok.d
  refine zlp (fun mm M w=>∃(i:Int),mm=((n-i).toNat)/\(0<=i)/\(i<=n)/\(∀k,0<=k->k<i->f k<=p.D k)/\M= [(1,vA),(2,.pointer (some ⟨g1,0,none⟩)),(5,.int .i64 i)]/\Sat w0 w [.blk g1 [vL,vD,.int .i64 p.stock,.int .i64 p.kerf]]) ⟨0,rfl,(by omega),(by omega),?_,rfl,hS⟩ ?_
  ·
   intro k k0 k1;omega
  clear hS w
  rintro mm M w ⟨i,rfl,h0,h1,qa,rfl,hS⟩
  refine zx11<|(zP)<|(zP)<|(zV (xln Zb hA.slh))<|(zP)<|zlt<|Ze ?_ ?_<;>intro hc
  ·
   refine zx27<|zdst [0] [0] 1000 mx_ hS ?_;clear hS;intro w hS
   refine(zDw 0 xmv)<|(zDw 1 xmv)<|(zDw 2 (xix (kk:=i) Zb hA.slh))<|(zDl 3 (fun w hS=>(xlr (u:= .int .i64 (f i)) pl_3 (hA.below hS.below))))<|(zDw 4 (xfb 1 fd_24_1))<|(zDl 5 (fun w hS=>(xlb 0 pl_22 hS)))<|(zDw 6 xmv)<|(zDw 7 (xix (kk:=i) Zb h.D.slh))<|zdla 8 (fun w hS=>(xlr (u:= .int .i64 (p.D i)) pl_3 (h.D.below hS.below))) ?_
   have hbv:=h.iD i
   refine(zDw 9 Yr)<|zdd<|ztn ?_
   refine Ze ?_ ?_<;>intro hc
   ·
    refine zsr<|(zP)<|zx2<|zf1 ⟨_,rfl,?_⟩
    exact⟨false_B (by intro hh;first|exact absurd hh.1 ‹_›|(have:=hh.2 i h0 (by omega);omega)),hS.nl⟩
   refine zx4<|(zP)<|(zV (Zf (r:=i+1)))<|(zP)<|zln<|zlq ⟨i+1,rfl,(by omega),(by omega),?_,rfl,hS⟩
   ·
    intro k h0' h1';rcases Int.lt_or_eq_of_le (show k<=i by omega) with hk|hk;exact qa k h0' hk;rw [hk];omega
  refine zx8<|(zP)<|zx1<|zf1 ⟨_,rfl,?_⟩
  exact⟨ZU (by exact⟨qA,fun k k0 k1=>qa k k0 (by omega)⟩),hS.nl⟩
end Go.Proofs.YtopmifmfecfaaaaGreat
namespace Go.Proofs.Gw
open Go Go.RowKit
def RG(v:Value)(q:Nat):Value:=match v with
  | .slice a _ cap=> .slice a q cap
  |u=>u
section
variable {P:Program} {L:List (Nat×Value)} {w w0:World} {o:Oper} {x y z:Operand} {T T':TypeId} {l:List Ent} {E:TypeId}
theorem Zbx{v:Value}{n:Int}{q:Nat}(h:Slh v n)(hq:(q:Int)<=n):Slh (RG v q) q:=by
  obtain⟨h0,h1,a,cap,rfl,hz⟩:=h
  refine⟨by omega,by omega,a,cap,rfl,?_⟩
  rcases hz with hz|hz
  · left;omega
  · exact .inr hz
theorem Zfk{v:Value}{n:Int}{q:Nat}{c:Int->Value}(h:Row w v 1 n c)(hq:(q:Int)<=n):Row w (RG v q) 1 q c:=by
  refine⟨Zbx h.slh hq,fun k hk=> ?_⟩
  have h2:=h.2 k (by omega)
  obtain⟨_,_,a,cap,rfl,_⟩:=h.slh
  cases a<;>exact h2
theorem ZcY{v:Value}{n i:Int}(q:Nat)(ht:ZJ P T=some (E,1))(hv:Slh v n)(hq:(q:Int)=i:=by omega)(hn:0<n:=by omega)(h1:i<=n:=by omega)(ho:o.op= .slice T x (some y) none none:=by exact rfl)(hx:evL L x=some v:=by exact rfl)(hy:evL L y=some (.int .i64 i):=by exact rfl):
    Runs P L w o (.value (Xz v q)) w:=fun ρ h=>by
  obtain⟨hu,inf,hin,hsz⟩:=ZY ht
  obtain⟨_,_,a,cap,rfl,hz⟩:=hv
  subst hq
  have hb:(Instr.sliceBounds true n.toNat cap (some (.int .i64 (q:Int))) none none).run P w= .ok (q,n.toNat,cap) w:=by
    simp [Instr.sliceBounds,Instr.sliceBound,asIntOf]
    omega
  have e:(Instr.sliceAt T (.slice a n.toNat cap) (some (.int .i64 (q:Int))) none none).run P w= .ok (Xz (.slice a n.toNat cap) q) w:=by
    unfold Instr.sliceAt
    simp only [Sem.run_bind,run_underlying hu,Result.andThen_ok,Instr.slice,hb]
    simp [sizeOf,typeInfo,hin,hsz,Xz]
    rcases hz with hz|⟨b,off,rfl⟩
    · omega
    · by_cases hc:cap=q
      · simp [hc]
      · simp [hc,Addr.add_eq]
  simp [execOp,ho,h _ _ hx,h _ _ hy,e]
theorem ZcZ{v:Value}{n i:Int}(q:Nat)(ht:ZJ P T=some (E,1))(hv:Slh v n)(hr:Y9 v)(hq:(q:Int)=i:=by omega)(hn:0<n:=by omega)(h1:i<=n:=by omega)(ho:o.op= .slice T x none (some y) none:=by exact rfl)(hx:evL L x=some v:=by exact rfl)(hy:evL L y=some (.int .i64 i):=by exact rfl):
    Runs P L w o (.value (RG v q)) w:=fun ρ h=>by
  obtain⟨hu,inf,hin,hsz⟩:=ZY ht
  obtain⟨_,_,a,cap,rfl,hz⟩:=hv
  have hc:=hr _ _ _ rfl
  subst hq
  have hb:(Instr.sliceBounds true n.toNat cap none (some (.int .i64 (q:Int))) none).run P w= .ok (0,q,cap) w:=by
    simp [Instr.sliceBounds,Instr.sliceBound,asIntOf]
    omega
  have e:(Instr.sliceAt T (.slice a n.toNat cap) none (some (.int .i64 (q:Int))) none).run P w= .ok (RG (.slice a n.toNat cap) q) w:=by
    unfold Instr.sliceAt
    simp only [Sem.run_bind,run_underlying hu,Result.andThen_ok,Instr.slice,hb]
    rcases hz with hz|⟨b,off,rfl⟩
    · omega
    · simp [sizeOf,typeInfo,hin,hsz,RG,Addr.add]
  simp [execOp,ho,h _ _ hx,h _ _ hy,e]
def cpy(q:Nat)(r:Int)(d c:Int->Value):Int->Value:=fun k=>if(q:Int)<=k/\k<q+r then d (k-q) else c k
theorem Tc{v D u:Value}{n m r:Int}{q:Nat}{c d:Int->Value}(i:Nat)(ho:o.op= .call {callee:= .builtin .copy,args:= #[x,y],argTypes:= #[T,T']})(ht:ZJ P T=some (E,1))(hx:evL L x=some D)(hy:evL L y=some u)(hS:Sat w0 w l)(hi:l[i]? =some (.own v 1 E n c))(hD:D=Xz v q\/(D=v/\q=0))
    (hR:Row w u 1 m d) (hq:(q:Int)<n) (hm:0<m) (hr:r=min (n-q) m) (h1:∀k,0<=k->k<m->(d k).oneCell'=true):
    ∃rv w',Runs P L w o (.value rv) w'/\rv= .int .i64 r/\Sat w0 w' (l.set i (.own v 1 E n (cpy q r d c))):=by
  obtain⟨hu,inf,hin,hsz⟩:=ZY ht
  have hS':=hS
  rw [Yc hi] at hS'
  rw [YL hi]
  have yR:(P.info? E).map (·.size)=some 1:=by rw [hin];simp [hsz]
  have hg:=hS'.get
  obtain⟨_,_,a,cap,rfl,hz⟩:=hR.slh
  rcases hz with hz|⟨b,off,rfl⟩
  · omega
  obtain⟨_,_,⟨rfl,hz⟩|⟨g,cap',cur,rfl,hh,h2,h3,h4,h5⟩⟩:=hg
  · omega
  obtain⟨dCap,rfl⟩:∃dCap,D= .slice (some ⟨g,q,none⟩) (n.toNat-q) dCap:=by
    rcases hD with rfl|⟨rfl,rfl⟩
    · exact⟨cap'-q,by unfold Xz;dsimp only;rw [if_neg (by omega)];simp⟩
    · exact⟨cap',by simp⟩
  have done:∀{w':World} (r:Value),(Builtin.copy_ #[T,T'] 0 #[.slice (some ⟨g,q,none⟩) (n.toNat-q) dCap,.slice (some ⟨b,off,none⟩) m.toNat cap]).run P w= .ok r w'->Runs P L w o (.value r) w':=fun r hr ρ h=>by
    have hr':∀ty,(Builtin.copy_ #[T,T'] ty #[.slice (some ⟨g,q,none⟩) (n.toNat-q) dCap,.slice (some ⟨b,off,none⟩) m.toNat cap])=Builtin.copy_ #[T,T'] 0 #[.slice (some ⟨g,q,none⟩) (n.toNat-q) dCap,.slice (some ⟨b,off,none⟩) m.toNat cap]:=fun _=>rfl
    simp [execOp,ho,resolve,invoke,builtin,h _ _ hx,h _ _ hy,hr',hr]
  have hl:=ZQ d r.toNat
  have hr:=run_copy_row (P:=P) w T T' 0 E g q (n.toNat-q) dCap ⟨b,off,none⟩ m.toNat cap cur E (cellsOf d r.toNat) hu yR hh (by rw [hl];show r.toNat=min m.toNat (n.toNat-q);omega) (fun j t hj=>by
    rw [cellsOf_get] at hj
    split at hj
    · rename_i hlt
      cases hj
      have:=hR.2 j (by omega)
      rw [Addr.add_eq _ rfl]
      simpa [cad] using this
    · cases hj) (by rw [hl,h4];omega) (fun t ht=>by
    obtain⟨j,hj⟩:=List.getElem?_of_mem ht
    rw [cellsOf_get] at hj
    split at hj
    · cases hj;exact h1 _ (by omega) (by omega)
    · cases hj)
  rw [hl] at hr
  refine⟨_,_,done _ hr,by simp [goInt];omega,?_⟩
  refine hS'.turn (fun k _ hk=> ?_) rfl rfl rfl (by simp [World.setRow]) ⟨by omega,by omega,.inr ⟨g,cap',_,rfl,setRow_heap w g cur _ E _ hh,h2,h3,?_,fun k hk=> ?_⟩⟩ (fun _ h=> .inl h)
  · have:k≠g:=fun e=>hk (by rw [e];rfl)
    simp [World.setRow,Array.getElem?_modify,Ne.symm this]
  · simp [hl,h4];omega
  · have hk':k<n.toNat:=by omega
    have h6:=h5 k hk
    have ht:(cur.toList.take q).length=q:=by simp [h4];omega
    show(cur.toList.take q++cellsOf d r.toNat++cur.toList.drop (q+r.toNat)).toArray[k]? =_
    rw [List.getElem?_toArray]
    unfold cpy
    by_cases k1:k<q
    · rw [if_neg (by omega),List.getElem?_append_left (by rw [List.length_append,ht];omega),List.getElem?_append_left (by omega),List.getElem?_take,if_pos k1,Array.getElem?_toList];exact h6
    · by_cases k2:k<q+r.toNat
      · rw [if_pos (by omega),List.getElem?_append_left (by rw [List.length_append,ht,hl];omega),List.getElem?_append_right (by omega),ht,cellsOf_get,if_pos (by omega),show(((k-q:Nat)):Int)=(k:Int)-q by omega]
      · rw [if_neg (by omega),List.getElem?_append_right (by rw [List.length_append,ht,hl];omega),List.length_append,ht,hl,List.getElem?_drop,Array.getElem?_toList,show q+r.toNat+(k-(q+r.toNat))=k by omega];exact h6
end
end Go.Proofs.Gw
namespace Go.Proofs.YtopmifmfecfaaaaGreat
open Go Go.RowKit Go.Proofs.Gw
variable {n u:Int} {ml:Int->Int} {mf:Int->Int->Int} {mv:Int->Value} {gp:Nat} {vD vL vM:Value}
theorem Ziv:Zc Tryz.prog 118=true:=by kernel_rfl
theorem Zeg:Zc Tryz.prog 119=true:=by kernel_rfl
theorem Za8:Zc Tryz.prog 120=true:=by kernel_rfl
theorem Ziu:Zc Tryz.prog 121=true:=by kernel_rfl
theorem Zit:Zc Tryz.prog 122=true:=by kernel_rfl
theorem Zis:Zc Tryz.prog 123=true:=by kernel_rfl
theorem Zh4:Zc Tryz.prog 157=true:=by kernel_rfl
theorem XV:Tryz.prog.underlying 208=some (.int .u64):=by kernel_rfl
theorem RM:Tryz.prog.underlying 3=some (.int .i64):=by kernel_rfl
theorem We:(Tryz.prog.underlying 208).isSome=true:=by kernel_rfl
theorem Ty:(Tryz.prog.underlying 3).isSome=true:=by kernel_rfl
theorem Sat.oldblk{w0 w:World}{l:List Ent}{g:Nat}{cs:List Value}(hS:Sat w0 w l)(h:(Ent.blk g cs).holds w0):(Ent.blk g cs).holds w:=by
  obtain⟨T,h⟩:=h
  exact⟨T,by rw [hS.below.block g (by rw [Array.getElem?_eq_some_iff] at h;exact h.1)];exact h⟩
theorem xlfs{L:List (Nat×Value)}{w0 w:World}{l:List Ent}{o:Oper}{x:Operand}{T:TypeId}{k g:Nat}{cs:List Value}(ht:ZF Tryz.prog T=some k)(h:(Ent.blk g cs).holds w0)(hS:Sat w0 w l)(ho:o.op= .load T x:=by exact rfl)
    (hx:evL L x=some (.pointer (some ⟨g,0,none⟩)):=by exact rfl) (hk:cs.length=k:=by exact rfl):Runs Tryz.prog L w o (.value (.agg cs.toArray)) w:=VF ho (by rw [ht,hk]) hx (Sat.oldblk hS h).cells
theorem Zf1{p:Prob}{vA:Value}{f:Int->Int}(w0:World)(hG:(Ent.blk gp [vL,vD,.int .i64 p.stock,.int .i64 p.kerf]).holds w0)(h:PAt w0 vL vD p)(hA:Row w0 vA 1 n (ints f)):
    Calls Tryz.prog 118 [vA,.pointer (some ⟨gp,0,none⟩)].toArray w0 fun e w=>∃v,e= .returned v/\v=B (¬ZN p n f)/\Sat w0 w []:=by
  refine Zm Tryz.func118 Tryz.ntmps118 fun w hS=> ?_
  refine zsr<|(zP)<|zlz<|(zV (xlfs st_35 hG hS))<|(zP)<|zlc (xc0 Zeg) (Ri (p:=p) w (h.below hS.below) (hA.below hS.below)) ?_;rintro _ w ⟨rfl,hS'⟩
  replace hS:=hS.cmp hS';clear hS'
  refine(zP)<|(zP)<|zx1<|zf1 ⟨_,rfl,?_⟩
  exact⟨rfl,hS⟩
theorem ZeR{p:Prob}(w0:World)(hG:(Ent.blk gp [vL,vD,.int .i64 p.stock,.int .i64 p.kerf]).holds w0)(h:PAt w0 vL vD p)(hM:MAt w0 vM u mv ml mf):
    Calls Tryz.prog 154 [vM,.func (.func 118) #[] #[.pointer (some ⟨gp,0,none⟩)]].toArray w0 fun e w=>∃v,e= .returned v/\∃r:Int,v= .int .i64 r/\((r= -1/\∀k,0<=k->k<u->¬(¬ZN p (ml k) (mf k)))\/(0<=r/\r<u/\(¬ZN p (ml r) (mf r))))/\Sat w0 w []:=by
  have hn:=hM.row.slh.n0;have hn1:=hM.row.slh.n1
  refine Zm Tryz.func154 Tryz.ntmps154 fun w hS=> ?_
  refine zsr<|(zP)<|zx5<|(zP)<|(zV (xln Zi hM.row.slh))<|(zP)<|zx6<|zlp (fun mm M w=>∃(i:Int),mm=((u-i).toNat)/\(0<=i)/\(i<=u)/\(∀k,0<=k->k<i->¬(¬ZN p (ml k) (mf k)))/\M= [(0,vM),(1,.func (.func 118) #[] #[.pointer (some ⟨gp,0,none⟩)]),(7,.int .i64 u),(8,.int .i64 i)]/\Sat w0 w []) ⟨0,rfl,(by omega),(by omega),?_,rfl,hS⟩ ?_
  ·
   intro k h0 h1;omega
  clear hS w
  rintro mm M w ⟨i,rfl,h0,h1,qa,rfl,hS⟩
  refine zsr<|(zP)<|zx7<|Ze ?_ ?_<;>intro hc
  ·
   refine zx3<|(zP)<|(zP)<|zlz<|(zP)<|(zP)<|(zP)<|(zV (xix (kk:=i) Zi hM.row.slh))<|(zV (xlr (u:=(mv i)) pl_22 (hM.row.below hS.below)))<|zlc (xcc (vs:= [_]) Ziv) (Zf1 (p:=p) w (Sat.oldblk hS hG) (h.below hS.below) ((hM.p i (by omega) (by omega)).below hS.below)) ?_;rintro _ w ⟨rfl,hS'⟩
   replace hS:=hS.cmp hS';clear hS'
   refine zlt<|Ze ?_ ?_<;>intro hc
   ·
    refine zsr<|(zP)<|(zP)<|zx2<|zf1 ⟨_,rfl,?_⟩
    exact⟨i,rfl,.inr ⟨by omega,by omega,‹¬ZN p (ml i) (mf i)›⟩,hS⟩
   refine zx4<|(zV (Zf (r:=i+1)))<|(zP)<|zln<|zlq ⟨i+1,rfl,(by omega),(by omega),?_,rfl,hS⟩
   ·
    intro k h0' h1';rcases Int.lt_or_eq_of_le (show k<=i by omega) with hk|hk;exact qa k h0' hk;rw [hk];assumption
  refine zx8<|(zP)<|zx1<|zf1 ⟨_,rfl,?_⟩
  exact⟨-1,rfl,.inl ⟨rfl,fun k h0 h1=>qa k h0 (by omega)⟩,hS⟩
theorem ZeW{p:Prob}(w0:World)(hG:(Ent.blk gp [vL,vD,.int .i64 p.stock,.int .i64 p.kerf]).holds w0)(h:PAt w0 vL vD p)(hM:MAt w0 vM u mv ml mf):
    Calls Tryz.prog 117 [vM,.func (.func 118) #[] #[.pointer (some ⟨gp,0,none⟩)]].toArray w0 fun e w=>∃v,e= .returned v/\v=B (∃k,0<=k/\k<u/\(¬ZN p (ml k) (mf k)))/\Sat w0 w []:=by
  refine Zm Tryz.func117 Tryz.ntmps117 fun w hS=> ?_
  refine zsr<|(zP)<|zlz<|(zP)<|(zP)<|zlc (xc0 Za6) (ZeR w (Sat.oldblk hS hG) (h.below hS.below) (hM.below hS.below)) ?_;rintro _ w ⟨r1,rfl,hr1,hS'⟩
  replace hS:=hS.cmp hS';clear hS'
  refine(zP)<|(zP)<|zx1<|zf1 ⟨_,rfl,?_⟩
  exact⟨ZA (by
   rcases hr1 with⟨h1,h2⟩|⟨h1,h2,h3⟩
   · exact⟨fun h=>by omega,fun⟨k,h4,h5,h6⟩=>absurd h6 (h2 k h4 h5)⟩
   · exact⟨fun _=>⟨_,h1,h2,h3⟩,fun _=>h1⟩),hS⟩
def cpyI(q:Nat)(r:Int)(d c:Int->Int):Int->Int:=fun k=>if(q:Int)<=k/\k<q+r then d (k-q) else c k
theorem Tl(q:Nat)(r:Int)(d c:Int->Int):cpy q r (ints d) (ints c)=ints (cpyI q r d c):=by
  funext k
  by_cases h:(q:Int)<=k/\k<q+r
  · simp only [cpy,ints,cpyI,if_pos h]
  · simp only [cpy,ints,cpyI,if_neg h]
theorem Zkg(n:Int)(h:0<=n/\n<=1000000)(w0:World):Calls Tryz.prog 157 [.int .u64 1,.int .u64 n].toArray w0 fun e w=>∃v,e= .returned v/\v= .tuple #[.int .u64 0,.int .u64 n]/\Sat w0 w []:=by
  obtain⟨k,rfl⟩:=Int.eq_ofNat_of_zero_le h.1
  have hm:=Tryz.bits_Mul 1 k (by decide) (by omega) w0
  refine hm.mono fun e w ⟨he,hw⟩=>⟨_,he,?_,by rw [hw];exact Sat.start _⟩
  rw [Nat.one_mul,Nat.div_eq_of_lt (by omega),Nat.mod_eq_of_lt (by omega)];rfl
theorem ZeE{v:Value}{f:Int->Int}(w0:World)(hR:Row w0 v 1 1 (ints f))(hn:1<=n/\n<=1000):
    Calls Tryz.prog 122 [v,.int .i64 n].toArray w0 fun e w=>∃v,e= .returned v/\∃r,v=r/\Slh r n/\Sat w0 w [.own r 1 3 n (ints fun _=>f 0)]:=by
  refine Zm Tryz.func122 Tryz.ntmps122 fun w hS=> ?_
  refine zsr<|(zP)<|zx5<|(zP)<|(zV (xkf ZZ))<|zlt<|zcf<|zsk<|ztn<|zsr ?_
  refine(zP)<|(zV (xln Zb hR.slh))<|(zV (xcv Ty XV))<|(zP)<|(zV (xcv Ty XV))<|zlc (xc0 Zh4) (Zkg n (by omega) w) ?_;rintro _ w ⟨rfl,hS'⟩
  replace hS:=hS.cmp hS';clear hS'
  refine zs5 ?_
  refine zx5<|(zP)<|(zV (xkf Yr))<|(zP)<|(zP)<|(zV (xkf Yr))<|(zP)<|zlt<|zcf<|zsk<|ztn<|zsr ?_
  refine(zP)<|(zV (xcv We RM))<|zla (xmk Zb Zn hS) ?_;rintro v1 w ⟨hS,hv1⟩
  refine(zP)<|zlz<|(zP)<|(zP)<|ZcX rfl rfl rfl (Tc (q:=0) (r:=1) 0 rfl Zb rfl rfl hS rfl (.inr ⟨rfl,rfl⟩) (hR.below hS.below) (by omega) (by omega) (by omega) (fun _ _ _=>rfl)) ?_;rintro _ w ⟨rfl,hS⟩
  replace hS:=hS.recont 0 rfl (d:=ints (cpyI 0 1 f (fun _=>0))) (fun k k0 k1=>congrFun (Tl 0 1 f (fun _=>0)) k)
  refine(zP)<|zlt<|zsq<|zbk<|zlp (fun mm M w=>∃(b:Int) (g:Int->Int),mm=((n-b).toNat)/\(1<=b)/\(b<=n)/\(∀k,0<=k->k<b->g k=f 0)/\M= [(4,.slice none 0 0),(7,v1),(8,.int .i64 b)]/\Sat w0 w [.own v1 1 3 n (ints g)]) ⟨1,(cpyI 0 1 f (fun _=>0)),rfl,(by omega),(by omega),?_,rfl,hS⟩ ?_
  ·
   intro k k0 k1;obtain rfl:k=0:=by omega
   rfl
  clear hS w
  rintro mm M w ⟨b,g,rfl,h0,h1,hg,rfl,hS⟩
  refine zx11<|(zP)<|(zP)<|(zV (xln Zb hv1))<|(zP)<|zlt<|Ze ?_ ?_<;>intro hc
  ·
   refine zsk<|ztn<|zbk<|zdst [] [] 1000 mx_ hS ?_;clear hS;intro w hS
   refine zDrv 0 xmv ?_
   obtain⟨q1,hq1⟩:∃q1:Nat,(q1:Int)=b:=⟨b.toNat,by omega⟩
   obtain⟨r1,hr1⟩:∃r1:Int,r1=min (n-b) b:=⟨_,rfl⟩
   refine(zDw 1 xmv)<|(zDw 2 xmv)<|(zDw 3 (ZcY q1 Zb hv1))<|(zDw 4 xmv)<|(zDw 5 xmv)<|(zDw 6 (ZcZ q1 Zb hv1 (hS.holds _ (List.mem_of_getElem? (i:=0) rfl)).roomy))<|Zkl 7 rfl rfl rfl rfl (by kernel_rfl) (Tc (q:=q1) (r:=r1) 0 rfl Zb rfl rfl hS rfl (.inl rfl) (Zfk (hS.rowN 0 rfl) (by omega)) (by omega) (by omega) (by omega) (fun _ _ _=>rfl)) ?_;rintro _ w ⟨rfl,hS⟩
   refine⟨⟨fun _=>hS.nl,hS.nl⟩,?_⟩
   refine zDrv 8 (Zf (r:=b+r1)) ?_
   replace hS:=hS.recont 0 rfl (d:=ints (cpyI q1 r1 g g)) (fun k k0 k1=>congrFun (Tl q1 r1 g g) k)
   refine(zDw 9 xas)<|zdd<|zbn<|zlq ⟨b+r1,(cpyI q1 r1 g g),rfl,(by omega),(by omega),?_,rfl,hS⟩
   ·
    intro k k0 k1;unfold cpyI;split
    · exact hg _ (by omega) (by omega)
    · exact hg k k0 (by omega)
  refine zx8<|(zP)<|(zP)<|zx1<|zf1 ⟨_,rfl,?_⟩
  obtain rfl:b=n:=by omega
  exact⟨_,rfl,hv1,(hS.recont 0 rfl (d:=ints fun _=>f 0) (fun k k0 k1=>by unfold ints;rw [hg k k0 (by omega)])).pk [0]⟩
theorem Zjw{i i2 k k2:Int}(k0:0<=k)(k1:k<u)(l0:0<=k2)(l1:k2<u)(e:i2*u+k2=i*u+k):i2=i/\k2=k:=by
  have hi:i2=i:=by
    rcases Int.lt_trichotomy i2 i with h|h|h
    · have:=Int.mul_le_mul_of_nonneg_right (show i2+1<=i by omega) (show 0<=u by omega);rw [Int.add_mul] at this;omega
    · exact h
    · have:=Int.mul_le_mul_of_nonneg_right (show i+1<=i2 by omega) (show 0<=u by omega);rw [Int.add_mul] at this;omega
  subst hi
  exact⟨rfl,by omega⟩
theorem RN{i:Int}(u0:0<=u)(i0:0<=i)(i1:i<n):0<=i*u/\i*u+u<=n*u:=by
  refine⟨Int.mul_nonneg i0 u0,?_⟩
  have:=Int.mul_le_mul_of_nonneg_right (show i+1<=n by omega) u0
  rw [Int.add_mul] at this;omega
theorem ZfY(w0:World)(hM:MAt w0 vM u mv ml mf)(hu:1<=u/\u<=60)(hn:1<=n/\n<=20)(hml:∀k,0<=k->k<u->ml k=n):
    Calls Tryz.prog 123 [vM,.int .i64 n].toArray w0 fun e w=>∃v,e= .returned v/\∃r vv,v=r/\Slh r n/\Sat w0 w [.own r 1 22 n vv,.sem (Frame.rows 3 n vv (fun _=>u) (fun i j=>mf j i))]:=by
  have hnu:=RN (u:=u) (n:=n+1) (i:=n) (by omega) (by omega) (by omega)
  have gU:=YY (a:=n) (b:=u) (A:=20) (B:=60) (by omega) (by omega)
  refine Zm Tryz.func123 Tryz.ntmps123 fun w hS=> ?_
  refine zsr<|(zP)<|zlz<|(zP)<|(zP)<|(zV (xln Zi hM.row.slh))<|(zV (Z4 (r:=(n*u)) (e:=rfl)))<|zla (xmk Zb Zn hS) ?_;rintro v1 w ⟨hS,hv1⟩
  refine(zP)<|zx5<|(zP)<|(zV (xln Zi hM.row.slh))<|(zP)<|zx6<|zlp (fun mm M w=>∃(k:Int) (g:Int->Int),mm=((u-k).toNat)/\(0<=k)/\(k<=u)/\(∀j,0<=j->j<k->∀i,0<=i->i<n->g (i*u+j)=mf j i)/\M= [(0,vM),(1,.int .i64 n),(4,.slice none 0 0),(5,v1),(17,vM),(18,.int .i64 u),(19,.int .i64 k)]/\Sat w0 w [.own v1 1 3 (n*u) (ints g)]) ⟨0,(fun _=>0),rfl,(by omega),(by omega),?_,rfl,hS⟩ ?_
  ·
   intro j j0 j1;omega
  clear hS w
  rintro mm M w ⟨k,g,rfl,k0,k1,hg,rfl,hS⟩
  refine zsr<|(zP)<|zx7<|Ze ?_ ?_<;>intro hc
  ·
   refine zx3<|zlv xmv ?_
   have g8:=hml k k0 (by omega)
   refine(zV (xix (kk:=k) Zi hM.row.slh))<|(zV (xlr (u:=(mv k)) pl_22 (hM.row.below hS.below)))<|(zP)<|(zP)<|zlz<|(zP)<|(zP)<|zx6<|zlp (fun mm M w=>∃(i:Int) (g:Int->Int),mm=((n-i).toNat)/\(0<=i)/\(i<=n)/\(∀j,0<=j->j<k->∀i,0<=i->i<n->g (i*u+j)=mf j i)/\(∀q,0<=q->q<i->g (q*u+k)=mf k q)/\M= [(0,vM),(1,.int .i64 n),(4,.slice none 0 0),(5,v1),(6,.int .i64 k),(7,(mv k)),(17,vM),(18,.int .i64 u),(19,.int .i64 k),(24,.int .i64 n),(25,.int .i64 i)]/\Sat w0 w [.own v1 1 3 (n*u) (ints g)]) ⟨0,g,rfl,(by omega),(by omega),?_,?_,rfl,hS⟩ ?_
   ·
    exact hg
   ·
    intro q q0 q1;omega
   clear hS w
   rintro mm M w ⟨i,g,rfl,i0,i1,hg2,hg3,rfl,hS⟩
   refine zsr<|(zP)<|zx7<|Ze ?_ ?_<;>intro hc
   ·
    refine zx3<|zlv xmv ?_
    have hgr:=RN (u:=u) (n:=n) (by omega) i0 (by omega)
    refine(zP)<|zlt<|zrg<|(zP)<|(zP)<|(zP)<|(zV (xln Zi hM.row.slh))<|(zV (Z4 (r:=(i*u)) (e:=rfl)))<|(zP)<|(zV (Zf (r:=(i*u)+k)))<|(zP)<|(zP)<|(zV (xix (kk:=i) Zb (hM.p k (by omega) (by omega)).slh))<|(zV (xlr (u:= .int .i64 ((mf k) i)) pl_3 ((hM.p k (by omega) (by omega)).below hS.below)))<|(zV (xix (kk:=(i*u)+k) Zb hv1))<|zle (xso 0 pl_3 hS (ZE _ _ _)) ?_;clear hS;rintro w hS
    refine zx10<|(zV (Zf (r:=i+1)))<|(zP)<|zln<|zlq ⟨i+1,(upd g ((i*u)+k) ((mf k) i)),rfl,(by omega),(by omega),?_,?_,rfl,hS⟩
    ·
     intro j j0 j1 q q0 q1;rw [upd_ne _ _ (fun e=>by have:=Zjw k0 (by omega) j0 (by omega) e;omega)];exact hg2 j j0 j1 q q0 q1
    ·
     intro q q0 q1;by_cases e:q=i
     · rw [e,ZX]
     · rw [upd_ne _ _ (fun e9=>e (Zjw k0 (by omega) k0 (by omega) e9).1)];exact hg3 q q0 (by omega)
   refine zx21<|(zV (Zf (r:=k+1)))<|(zP)<|zln<|zlq ⟨k+1,g,rfl,(by omega),(by omega),?_,rfl,hS⟩
   ·
    intro j j0 j1 q q0 q1;by_cases e:j=k
    · rw [e];exact hg3 q q0 (by omega)
    · exact hg2 j j0 (by omega) q q0 q1
  refine zx8<|(zP)<|zx5<|(zP)<|(zP)<|zx6 ?_
  replace hS:=hS.addnil 1 22 (fun _=>Value.slice none 0 0)
  replace hS:=hS.addrows 3 (fun _=>Value.slice none 0 0) (fun _=>u) (fun i j=>mf j i)
  have yw:=fun k (k0:0<=k) (k1:k<0)=>hS.slhIn 2 rfl k0 k1
  refine zlp (fun mm M w=>∃(nC:Int) (wv:Int->Value) (i:Int) (wC:Value),mm=((n-i).toNat)/\(0<=i)/\(i<=n)/\(nC=i)/\(Slh wC nC)/\M= [(0,vM),(4,.slice none 0 0),(5,v1),(9,wC),(42,.int .i64 n),(43,.int .i64 i)]/\Sat w0 w [.own v1 1 3 (n*u) (ints g),.own wC 1 22 nC wv,.sem (Frame.rows 3 nC wv (fun _=>u) (fun i j=>mf j i))]) ⟨0,(fun _=>Value.slice none 0 0),0,(.slice none 0 0),rfl,(by omega),(by omega),(by omega),?_,rfl,hS⟩ ?_
  ·
   exact slh_nil
  clear hS w
  rintro mm M w ⟨nC,wv,i,wC,rfl,i0,i1,hnC,hwC,rfl,hS⟩
  have qN:=fun k (k0:0<=k) (k1:k<nC)=>hS.slhIn 2 rfl k0 k1
  refine zsr<|(zP)<|zx7<|Ze ?_ ?_<;>intro hc
  ·
   refine zx3<|zlv xmv ?_
   have hgr:=RN (u:=u) (n:=n) (by omega) i0 (by omega)
   refine(zP)<|zlz<|(zP)<|(zV (xln Zi hM.row.slh))<|zla (xmk Zb Zn hS) ?_;rintro v2 w ⟨hS,hv2⟩
   refine(zP)<|zlz<|zs4 ?_
   obtain⟨q1,hq1⟩:∃q1:Nat,(q1:Int)=i*u:=⟨(i*u).toNat,by omega⟩
   refine(zV (xln Zi hM.row.slh))<|(zV (Z4 (r:=(i*u)) (e:=rfl)))<|(zV (ZcY q1 Zb hv1))<|ZcX rfl rfl rfl (Tc (q:=0) (r:=u) 3 rfl Zb rfl rfl hS rfl (.inr ⟨rfl,rfl⟩) ((Xe (q:=q1) hv1 (hS.holds _ (List.mem_of_getElem? (i:=0) rfl)).roomy (by omega)).row (by omega) (hS.rowN 0 rfl)) (by omega) (by omega) (by omega) (fun _ _ _=>rfl)) ?_;rintro _ w ⟨rfl,hS⟩
   refine zlt<|zrg<|zlv xmv ?_
   replace hS:=hS.recont 3 rfl (d:=ints (cpyI 0 u (fun k=>g (k+(q1:Int))) (fun _=>0))) (fun k k0 k1=>congrFun (Tl 0 u (fun k=>g (k+(q1:Int))) (fun _=>0)) k)
   refine(zP)<|zla (xli (n:=1) (len:=1) (pv:= [(0,v2)]) (cs:= [v2]) (c:=(fun _=>v2)) Zi Ya hS (hf:=by obtain⟨_,_,_,_,rfl,_⟩:=hv2;kernel_rfl)) ?_;rintro v3 w ⟨hS,hv3⟩
   refine zla (xap 1 (r:=nC+1) Zi Ya hS (hS.rowN 4 rfl) (Y8 _ _ _) (h1:=fun _ _ _=>hv2.one)) ?_;rintro v4 w ⟨hS,hv4⟩
   replace hS:=Sat.merge (l1:= [_,_]) (l2:= []) (l3:= [_]) hS (by omega)
   have xe:=fun k (k0:0<=k) (k1:k<nC+1)=>hS.slhIn 2 rfl k0 k1
   refine zlv xas ?_
   replace hS:=hS.rerows (vv':=gsn wv nC v2) (ln':=fun _=>u) (f':=fun i j=>mf j i) 2 rfl (fun k k0 k1=>by
     by_cases e:k<i
     · exact⟨rfl,Zs (by omega),fun j _ _=>by rw [Zs (by omega)]⟩
     · have hki:k=i:=by omega
       refine⟨rfl,?_,fun b b0 b1=> ?_⟩
       · rw [Zr (by omega)]
       · rw [Zr (by omega)] at b1
         rw [Zr (by omega),hki];unfold cpyI;rw [if_pos (by omega)];show g (b-(0:Nat)+q1)=_;rw [show b-((0:Nat):Int)+q1=i*u+b by omega];exact hg b b0 (by omega) i i0 (by omega))
   have aF:=fun k (k0:0<=k) (k1:k<nC+1)=>hS.slhIn 2 rfl k0 k1
   refine zx10<|(zV (Zf (r:=i+1)))<|(zP)<|zln<|zlq ⟨nC+1,gsn wv nC v2,i+1,v4,rfl,(by omega),(by omega),(by omega),?_,rfl,hS.pk [0,1,2]⟩
   ·
    exact hv4
  refine zx8<|(zP)<|(zP)<|zx1<|zf1 ⟨_,rfl,?_⟩
  obtain rfl:i=n:=by omega
  subst hnC
  exact⟨_,_,rfl,hwC,hS.pk [1,2]⟩
def ZaU(p:Prob)(u:Int)(mf:Int->Int->Int):Lp:=⟨u,p.m,p.d,fun _=>1,fun _=>u,fun i j=>mf j i,p.D⟩
def so0(p:Prob):So:=⟨0,p.m,fun _=>0,fun _=>0,0,1⟩
def WF(p:Prob)(u:Int)(ml:Int->Int)(mf:Int->Int->Int):Prop:=p.Ok/\∀k,0<=k->k<u->ZN p (ml k) (mf k)
def MSolveR (p:Prob) (u:Int) (ml:Int->Int) (mf:Int->Int->Int) (s:So) (e:Int):Prop:=
  (¬WF p u ml mf/\s=So.zero/\e=1)\/(WF p u ml mf/\(16<p.m\/60<u)/\s=So.zero/\e=9)\/
    (WF p u ml mf/\p.m<=16/\u<=60/\u=0/\(∃k,0<=k/\k<p.d/\0<p.D k)/\s=So.zero/\e=19)\/(WF p u ml mf/\p.m<=16/\u<=60/\u=0/\(∀k,0<=k->k<p.d->p.D k<=0)/\s=so0 p/\e=0)\/
    (WF p u ml mf/\p.m<=16/\u<=60/\1<=u/\SolveR (ZaU p u mf) s e)
theorem c_msolve{p:Prob}(w0:World)(h:PAt w0 vL vD p)(hM:MAt w0 vM u mv ml mf):
    Calls Tryz.prog 84 [.agg #[vL,vD,.int .i64 p.stock,.int .i64 p.kerf],vM].toArray w0 fun e w=>∃v,e= .returned v/\∃vX vY s e,v= .tuple #[.agg #[vX,vY,.int .i64 s.val,.int .i64 s.den],.int .i64 e]/\MSolveR p u ml mf s e/\Slh vX s.n/\Slh vY s.m/\Sat w0 w [.own vX 1 3 s.n (ints s.X),.own vY 1 3 s.m (ints s.Y)]:=by
  have hm:=h.L.slh.n0;have hm1:=h.L.slh.n1;have hd:=h.D.slh.n0;have hd1:=h.D.slh.n1;have hs:=h.is;have hk:=h.ik
  have hu:=hM.row.slh.n0;have hu1:=hM.row.slh.n1
  refine Zm Tryz.func84 Tryz.ntmps84 fun w hS=> ?_
  refine zsr<|zla (xbx (cs:= [_,_,_,_]) hS) ?_;rintro _ w ⟨g1,rfl,hS⟩
  refine zla (xal (cs:= [_,_,_,_]) VG hS) ?_;rintro _ w ⟨g2,rfl,hS⟩
  refine(zP)<|zlt<|zsq<|zbk<|zsr<|(zV (xls 0 st_35 hS))<|zlc (xc0 Un) (Xo (p:=p) w (h.below hS.below)) ?_;rintro _ w ⟨rfl,hS'⟩
  replace hS:=hS.cmp hS';clear hS'
  refine(zP)<|(zP)<|zlb 10 ?_ ?_<;>intro hc
  ·
   iterate 3 refine zlo ?_
   refine(zP)<|(zP)<|zlt<|zct<|zsr ?_
   refine(zV (xany (v:= .agg #[.slice none 0 0,.slice none 0 0,.int .i64 0,.int .i64 0])))<|zle (xsw 1 Z3 hS) ?_;clear hS;rintro w hS
   refine(zP)<|X9<|ZW 1 Z3 hS ⟨_,rfl,?_⟩
   exact⟨_,_,So.zero,1,rfl,.inl ⟨fun⟨h1,h2⟩=>by
     first
     |exact absurd h1 ‹¬p.Ok›
     |exact hc (h2 q q0 (by omega))
     |(obtain⟨k,k0,k1,hk⟩:=‹∃k,0<=k/\k<u/\¬ZN p (ml k) (mf k)›;exact hk (h2 k k0 k1)),rfl,rfl⟩,slh_nil,slh_nil,((hS.sub (.cons _ (.cons _ .slnil))).addnil 1 3 (ints So.zero.X)).addnil 1 3 (ints So.zero.Y)⟩
  refine(zP)<|(zV xmf)<|zlc (xc0 Za9) (ZeW (p:=p) (u:=u) (ml:=ml) (mf:=mf) w (hS.holds _ (List.mem_of_getElem? (i:=0) rfl)) (h.below hS.below) (hM.below hS.below)) ?_;rintro _ w ⟨rfl,hS'⟩
  replace hS:=hS.cmp hS';clear hS'
  refine(zP)<|(zP)<|zlt<|Ze ?_ ?_<;>intro hc
  ·
   refine zsr<|(zV (xany (v:= .agg #[.slice none 0 0,.slice none 0 0,.int .i64 0,.int .i64 0])))<|zle (xsw 1 Z3 hS) ?_;clear hS;rintro w hS
   refine(zP)<|X9<|ZW 1 Z3 hS ⟨_,rfl,?_⟩
   exact⟨_,_,So.zero,1,rfl,.inl ⟨fun⟨h1,h2⟩=>by
     first
     |exact absurd h1 ‹¬p.Ok›
     |exact hc (h2 q q0 (by omega))
     |(obtain⟨k,k0,k1,hk⟩:=‹∃k,0<=k/\k<u/\¬ZN p (ml k) (mf k)›;exact hk (h2 k k0 k1)),rfl,rfl⟩,slh_nil,slh_nil,((hS.sub (.cons _ (.cons _ .slnil))).addnil 1 3 (ints So.zero.X)).addnil 1 3 (ints So.zero.Y)⟩
  refine zsr<|zlv (xfb 0 fd_35_0) ?_
  have hok:p.Ok:=by first|assumption|exact Classical.not_not.1 ‹_›
  have hpr:∀k,0<=k->k<u->ZN p (ml k) (mf k):=fun k k0 k1=>Classical.not_not.1 fun hh=>‹¬∃k,0<=k/\k<u/\¬ZN p (ml k) (mf k)› ⟨k,k0,k1,hh⟩
  have hpd:=hok.d;have hpm:=hok.m1;have xc:=hok.m2
  refine(zV (xlb 0 pl_22 hS))<|(zV (xln Zb h.L.slh))<|(zP)<|(zP)<|zlb 21 ?_ ?_<;>intro hc
  ·
   iterate 3 refine zlo ?_
   refine(zP)<|(zP)<|zlt<|zct<|zsr ?_
   refine(zV (xany (v:= .agg #[.slice none 0 0,.slice none 0 0,.int .i64 0,.int .i64 0])))<|zle (xsw 1 Z3 hS) ?_;clear hS;rintro w hS
   refine(zP)<|X9<|ZW 1 Z3 hS ⟨_,rfl,?_⟩
   exact⟨_,_,So.zero,9,rfl,.inr (.inl ⟨⟨hok,hpr⟩,by omega,rfl,rfl⟩),slh_nil,slh_nil,((hS.sub (.cons _ (.cons _ .slnil))).addnil 1 3 (ints So.zero.X)).addnil 1 3 (ints So.zero.Y)⟩
  refine(zP)<|(zV (xln Zi hM.row.slh))<|(zP)<|(zP)<|(zP)<|zlt<|Ze ?_ ?_<;>intro hc
  ·
   refine zsr<|(zV (xany (v:= .agg #[.slice none 0 0,.slice none 0 0,.int .i64 0,.int .i64 0])))<|zle (xsw 1 Z3 hS) ?_;clear hS;rintro w hS
   refine(zP)<|X9<|ZW 1 Z3 hS ⟨_,rfl,?_⟩
   exact⟨_,_,So.zero,9,rfl,.inr (.inl ⟨⟨hok,hpr⟩,by omega,rfl,rfl⟩),slh_nil,slh_nil,((hS.sub (.cons _ (.cons _ .slnil))).addnil 1 3 (ints So.zero.X)).addnil 1 3 (ints So.zero.Y)⟩
  refine zsr<|(zP)<|(zV (xln Zi hM.row.slh))<|(zP)<|(zP)<|zlb 31 ?_ ?_<;>intro hc
  ·
   refine(zV (xfb 1 fd_35_1))<|(zV (xlb 0 pl_22 hS))<|zlc (xc0 Za8) (ZeN (n:=p.d) (f:=p.D) w (h.D.below hS.below) (by omega)) ?_;rintro _ w ⟨x1,rfl,yK,yV,hS'⟩
   replace hS:=hS.cmp hS';clear hS'
   refine(zP)<|(zP)<|(zP)<|zlt<|Ze ?_ ?_<;>intro hc
   ·
    refine zsr<|(zV (xany (v:= .agg #[.slice none 0 0,.slice none 0 0,.int .i64 0,.int .i64 0])))<|zle (xsw 1 Z3 hS) ?_;clear hS;rintro w hS
    refine(zP)<|X9<|ZW 1 Z3 hS ⟨_,rfl,?_⟩
    exact⟨_,_,So.zero,19,rfl,.inr (.inr (.inl ⟨⟨hok,hpr⟩,by omega,by omega,by omega,by first|(obtain⟨k,k0,k1,hk⟩:=yK;exact⟨k,k0,k1,by omega⟩)|exact⟨_,‹0<=j›,‹j<p.d›,‹_›⟩|exact⟨j,by omega,by omega,by omega⟩,rfl,rfl⟩)),slh_nil,slh_nil,((hS.sub (.cons _ (.cons _ .slnil))).addnil 1 3 (ints So.zero.X)).addnil 1 3 (ints So.zero.Y)⟩
   refine zsr<|(zP)<|(zV (xln Zi hM.row.slh))<|(zV (xkt YO))<|(zP)<|zlt<|zct<|zsr ?_
   refine(zV (xfb 0 fd_35_0))<|(zV (xlb 0 pl_22 hS))<|(zV (xln Zb h.L.slh))<|zla (xmk Zb Zn hS) ?_;rintro v1 w ⟨hS,hv1⟩
   refine zlv (xany (v:= .agg #[.slice none 0 0,v1,.int .i64 0,.int .i64 1]) (hr:=by obtain⟨_,_,_,_,rfl,_⟩:=hv1;kernel_rfl)) ?_
   refine zle (xsw 1 Z3 hS (hd:=(Za rfl (Za hv1.one (Za rfl (Za rfl Zg)))))) ?_;clear hS;rintro w hS
   refine(zP)<|X9<|ZW 1 Z3 hS ⟨_,rfl,?_⟩
   exact⟨_,_,so0 p,0,rfl,.inr (.inr (.inr (.inl ⟨⟨hok,hpr⟩,by omega,by omega,by omega,(fun k k0 k1=>by first|(have:=yV k k0 k1;omega)|(have:=qa k k0 (by omega);omega)),rfl,rfl⟩))),slh_nil,hv1,(hS.addnil 1 3 (ints fun _=>0)).pk [3,2]⟩
  iterate 4 refine zlo ?_
  refine(zP)<|(zP)<|zlt<|zcf<|zsr ?_
  refine(zP)<|(zV (xln Zi hM.row.slh))<|(zP)<|(zP)<|zlt<|Ze ?_ ?_<;>intro hc
  ·
   exfalso;omega
  refine zsk<|zbn<|ztn<|zsq<|zdst [0,1] [0] 16 mx_ hS ?_;clear hS;intro w hS
  refine(zDw 1 xmv)<|(zDw 2 (xln Zi hM.row.slh))<|(zDw 4 xmv)<|(zDw 5 (xfb 0 fd_35_0))<|(zDl 6 (fun w hS=>(xlb 0 pl_22 hS)))<|(zDw 7 (xln Zb h.L.slh))<|(zDw 9 (xfb 1 fd_35_1))<|(zDl 10 (fun w hS=>(xlb 0 pl_22 hS)))<|zda 0 (xli (n:=1) (len:=1) (pv:= [(0,.int .i64 1)]) (cs:= [.int .i64 1]) (c:=ints (fun _=>1)) Zb Zn hS) ?_;rintro v2 w ⟨hS,hv2⟩
  refine⟨⟨fun _=>hS.pk [0,1],hS.pk [0]⟩,?_⟩
  refine zdc 3 (xc0 Zit) (ZeE (n:=u) w (hS.rowN 2 rfl) (by omega)) ?_;rintro dB w ⟨_,rfl,dL,hS'⟩
  replace hS:=(hS.comp hS').n4;clear hS'
  refine⟨⟨fun _=>hS.pk [0,1],hS.pk [0]⟩,?_⟩
  refine zdc 8 (xc0 Zis) (ZfY (n:=p.m) w (hM.below hS.below) (by omega) (by omega) (fun k k0 k1=>(hpr k k0 k1).1.eq)) ?_;rintro cA w ⟨_,dF,rfl,dK,hS'⟩
  replace hS:=(hS.comp hS').n6;clear hS'
  have gw:=fun k (k0:0<=k) (k1:k<p.m)=>hS.slhIn 5 rfl k0 k1
  refine⟨⟨fun _=>hS.pk [0,1],hS.pk [0]⟩,?_⟩
  refine zdc 11 (xc0 cl_70) (c_clone (n:=p.d) (f:=p.D) w (h.D.below hS.below) (by omega)) ?_;rintro vq2 w ⟨_,rfl,qr,hS'⟩
  replace hS:=(hS.comp hS').n7;clear hS'
  refine⟨⟨fun _=>hS.pk [0,1],hS.pk [0]⟩,?_⟩
  refine zDrv 12 (xany (v:= .agg #[dB,cA,vq2]) (hr:=by obtain⟨_,_,_,_,rfl,_⟩:=dL;obtain⟨_,_,_,_,rfl,_⟩:=dK;obtain⟨_,_,_,_,rfl,_⟩:=qr;kernel_rfl)) ?_
  refine zdc 13 (xc0 Ziu) (Zf3 (p:=(⟨u,p.m,p.d,(fun _=>(fun _=>1) 0),(fun _=>u),(fun i j=>mf j i),p.D⟩:Lp)) w (⟨(hS.rowN 3 rfl),(⟨(hS.rowN 4 rfl),fun k k0 k1=>hS.rowIn 5 rfl k0 k1,fun k k0 k1=>hS.roomIn 5 rfl k0 k1⟩:MAt _ cA p.m dF (fun _=>u) (fun i j=>mf j i)),(hS.rowN 6 rfl)⟩:LAt _ dB cA vq2 dF (⟨u,p.m,p.d,(fun _=>(fun _=>1) 0),(fun _=>u),(fun i j=>mf j i),p.D⟩:Lp))) ?_;rintro _ w ⟨eS,eR,ss1,es1,rfl,bg,zW,zU,hS'⟩
  replace hS:=(hS.comp hS').n9;clear hS'
  refine⟨⟨fun _=>hS.pk [0,1],hS.pk [0]⟩,?_⟩
  refine(zDw 14 xex)<|(zDw 15 xex)<|zde 16 (xsw 1 Z3 hS (hd:=(Za zW.one (Za zU.one (Za rfl (Za rfl Zg)))))) ?_;clear hS;rintro w hS
  refine⟨⟨fun h=>absurd h (by decide),hS.pk [0]⟩,?_⟩
  refine(zDw 17 xas)<|zdd<|ztn<|zrt<|ZW 1 Z3 hS ⟨_,rfl,?_⟩
  exact⟨_,_,ss1,_,rfl,.inr (.inr (.inr (.inr ⟨⟨hok,hpr⟩,by omega,by omega,by omega,bg⟩))),zW,zU,hS.pk [7,8]⟩
end Go.Proofs.YtopmifmfecfaaaaGreat
