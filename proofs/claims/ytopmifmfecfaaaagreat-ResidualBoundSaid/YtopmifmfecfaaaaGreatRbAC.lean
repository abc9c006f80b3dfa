/- Part 3 of the texts that the proof needs. -/
import Derived.Test.YtopmifmfecfaaaaGreatRbAB
set_option linter.unusedVariables false
set_option linter.unusedSimpArgs false
namespace Go.Proofs.YtopmifmfecfaaaaGreat
open Go Go.RowKit Go.Proofs.Gw
theorem Zf4:Zb Tryz.prog 124=true:=by kernel_rfl
theorem Zf3:Zb Tryz.prog 125=true:=by kernel_rfl
theorem Zf2:Zb Tryz.prog 126=true:=by kernel_rfl
theorem ZfJ:Zb Tryz.prog 158=true:=by kernel_rfl
theorem ZfI:Zb Tryz.prog 159=true:=by kernel_rfl
theorem ZfH:Zb Tryz.prog 160=true:=by kernel_rfl
theorem cl_175:Zb Tryz.prog 175=true:=by kernel_rfl
theorem Zcj:Zb Tryz.prog 176=true:=by kernel_rfl
theorem Zfw:Zb Tryz.prog 177=true:=by kernel_rfl
theorem cl_178:Zb Tryz.prog 178=true:=by kernel_rfl
theorem ZG:ZP Tryz.prog 175=some (.agg #[.int .i64 0,.int .i64 0,.slice none 0 0,.slice none 0 0,.slice none 0 0],5,88):=by kernel_rfl
theorem Wb:ZP Tryz.prog 36=some (.agg #[.slice none 0 0,.slice none 0 0,.int .i64 0,.int .i64 0],4,64):=by kernel_rfl
theorem Zh3:ZP Tryz.prog 4=some (.bool false,1,1):=by kernel_rfl
theorem fd_134_0:Zp Tryz.prog 134 0=some 0:=by kernel_rfl
theorem fd_134_1:Zp Tryz.prog 134 1=some 1:=by kernel_rfl
theorem fd_134_2:Zp Tryz.prog 134 2=some 2:=by kernel_rfl
theorem fd_175_0:Zp Tryz.prog 175 0=some 0:=by kernel_rfl
theorem fd_175_1:Zp Tryz.prog 175 1=some 1:=by kernel_rfl
theorem fd_175_2:Zp Tryz.prog 175 2=some 2:=by kernel_rfl
theorem fd_175_3:Zp Tryz.prog 175 3=some 3:=by kernel_rfl
theorem fd_175_4:Zp Tryz.prog 175 4=some 4:=by kernel_rfl
theorem fd_36_0:Zp Tryz.prog 36 0=some 0:=by kernel_rfl
theorem fd_36_1:Zp Tryz.prog 36 1=some 1:=by kernel_rfl
theorem fd_36_2:Zp Tryz.prog 36 2=some 2:=by kernel_rfl
theorem fd_36_3:Zp Tryz.prog 36 3=some 3:=by kernel_rfl
theorem ZgU:ZN Tryz.prog 4=true:=by kernel_rfl
theorem Ka:ZB Tryz.prog 162=some (4,1):=by kernel_rfl
theorem VK:Zu Tryz.prog 134=some 3:=by kernel_rfl
theorem st_175:Zu Tryz.prog 175=some 5:=by kernel_rfl
theorem st_36:Zu Tryz.prog 36=some 4:=by kernel_rfl
set_option maxRecDepth 20000 in
theorem ZcA{vc vA vb:Value}{vq:Int->Value}{p:Lp}(w0:World)(hL:LAt w0 vc vA vb vq p):
    Calls Tryz.prog 158 [.agg #[vc,vA,vb]].toArray w0 fun e w=>∃v,e= .returned v/\v=B (LOk p)/\Sat w0 w []:=by
  have hn:=hL.c.slh.n0;have hn1:=hL.c.slh.n1;have hm:=hL.A.row.slh.n0;have hm1:=hL.A.row.slh.n1;have hk:=hL.b.slh.n0;have hk1:=hL.b.slh.n1
  refine Zj Tryz.func158 Tryz.ntmps158 fun w hS=> ?_
  refine zsr ?_
  refine zla (xbx (cs:= [_,_,_]) hS) ?_;rintro _ w ⟨g1,rfl,hS⟩
  replace hS:=hS.n1
  refine zlv xas ?_
  refine zx5 ?_
  refine zlv xas ?_
  refine zx6<|zlp (fun mm M w=>∃(i:Int),mm=((p.m-i).toNat)/\(0<=i)/\(i<=p.m)/\(∀k,0<=k->k<i->p.ln k=p.n/\∀j,0<=j->j<p.n-> -1000000<=p.A k j/\p.A k j<=1000000)/\M= [(1,.pointer (some ⟨g1,0,none⟩)),(3,.int .i64 i)]/\Sat w0 w [.blk g1 [vc,vA,vb]]) ⟨0,rfl,(by omega),(by omega),?_,rfl,hS⟩ ?_
  ·
   intro k k0 k1;omega
  clear hS w
  rintro mm M w ⟨i,rfl,h0,h1,hall,rfl,hS⟩
  refine zx11 ?_
  refine zlv xmv ?_
  refine zlv (xfb 1 fd_134_1) ?_
  refine zlv (xlb 0 pl_27 hS) ?_
  refine zlv (xln sl_27 hL.A.row.slh) ?_
  refine zlv xlss ?_
  refine zlt ?_
  refine zcif ?_ ?_<;>intro hc
  ·
   refine zsk<|ztn<|zsq<|zbk<|zsq ?_
   refine zdst [0] [0] 1000 mx_ hS ?_;clear hS;intro w hS
   refine zDrv 0 (xfb 1 fd_134_1) ?_
   refine zdla 1 (fun w hS=>(xlb 0 pl_27 hS)) ?_
   refine zDrv 2 xmv ?_
   refine zDrv 3 (xix (kk:=i) sl_27 hL.A.row.slh) ?_
   refine zdla 4 (fun w hS=>(xlr (u:=(vq i)) pl_22 (hL.A.row.below hS.below))) ?_
   refine zDrv 5 (xln sl_22 (hL.A.p i (by omega) (by omega)).slh) ?_
   refine zDrv 6 (xfb 0 fd_134_0) ?_
   refine zdla 7 (fun w hS=>(xlb 0 pl_22 hS)) ?_
   refine zDrv 8 (xln sl_22 hL.c.slh) ?_
   refine zDrv 9 Yf ?_
   refine zDrv 10 xmv ?_
   refine zdb 21 ?_ ?_<;>intro hc
   ·
    refine zdof 11 ?_
    refine zdof 12 ?_
    refine zdof 13 ?_
    refine zdof 14 ?_
    refine zdof 15 ?_
    refine zdof 16 ?_
    refine zdof 17 ?_
    refine zDrv 18 xpt ?_
    refine zdd<|ztn<|zct<|zsr ?_
    refine zlv xas ?_
    refine zx2<|zf1 ⟨_,rfl,?_⟩
    exact⟨Zf (by intro hl;have b1:=hl.n1;have b2:=hl.n2;have b3:=hl.m2;have b4:=hl.k;first|omega|exact absurd (fun j j0 j1=>by have:=hl.c j j0 j1;omega) ‹¬∀k,0<=k->k<p.n->0<=p.c k/\p.c k<=1000000›|(have:=(hl.rows i h0 (by omega)).1;omega)|exact absurd (fun j j0 j1=>(hl.rows i h0 (by omega)).2 j j0 (by have:=(hl.rows i h0 (by omega)).1;omega)) ‹¬∀k,0<=k->k<p.ln i-> -1000000<=p.A i k/\p.A i k<=1000000›),hS.nl⟩
   refine zDrv 11 (xfb 1 fd_134_1) ?_
   refine zdla 12 (fun w hS=>(xlb 0 pl_27 hS)) ?_
   refine zDrv 13 xmv ?_
   refine zDrv 14 (xix (kk:=i) sl_27 hL.A.row.slh) ?_
   refine zdla 15 (fun w hS=>(xlr (u:=(vq i)) pl_22 (hL.A.row.below hS.below))) ?_
   refine zdc 16 (xc0 cl_175) (c_within (n:=(p.ln i)) (lo:=(-1000000)) (hi:=1000000) (f:=(p.A i)) w ((hL.A.p i (by omega) (by omega)).below hS.below)) ?_;rintro _ w ⟨rfl,hS'⟩
   replace hS:=hS.cmp hS';clear hS'
   refine⟨⟨fun _=>hS,hS⟩,?_⟩
   refine zDrv 17 ZX ?_
   refine zDrv 18 xpf ?_
   refine zdd<|ztn ?_
   refine zcif ?_ ?_<;>intro hc
   ·
    refine zsr ?_
    refine zlv xas ?_
    refine zx2<|zf1 ⟨_,rfl,?_⟩
    exact⟨Zf (by intro hl;have b1:=hl.n1;have b2:=hl.n2;have b3:=hl.m2;have b4:=hl.k;first|omega|exact absurd (fun j j0 j1=>by have:=hl.c j j0 j1;omega) ‹¬∀k,0<=k->k<p.n->0<=p.c k/\p.c k<=1000000›|(have:=(hl.rows i h0 (by omega)).1;omega)|exact absurd (fun j j0 j1=>(hl.rows i h0 (by omega)).2 j j0 (by have:=(hl.rows i h0 (by omega)).1;omega)) ‹¬∀k,0<=k->k<p.ln i-> -1000000<=p.A i k/\p.A i k<=1000000›),hS.nl⟩
   refine zx4 ?_
   refine zlv xmv ?_
   refine zlv (xadd (r:=i+1)) ?_
   refine zlv xas ?_
   refine zln<|zlq ⟨i+1,rfl,(by omega),(by omega),?_,rfl,hS⟩
   ·
    have hq:∀k,0<=k->k<p.ln i-> -1000000<=p.A i k/\p.A i k<=1000000:=by first|assumption|exact Classical.not_not.1 ‹_›
    intro k h0' h1';rcases Int.lt_or_eq_of_le (show k<=i by omega) with hk|hk;exact hall k h0' hk;rw [hk];exact⟨by omega,fun j j0 j1=>hq j j0 (by omega)⟩
  refine zx8 ?_
  refine zlv (xfb 0 fd_134_0) ?_
  refine zlv (xlb 0 pl_22 hS) ?_
  refine zlv (xln sl_22 hL.c.slh) ?_
  refine zs2 ?_
  refine zlb 34 ?_ ?_<;>intro hc
  ·
   refine zlv (xfb 0 fd_134_0) ?_
   refine zlv (xlb 0 pl_22 hS) ?_
   refine zlv (xln sl_22 hL.c.slh) ?_
   refine zs3 ?_
   refine zlb 40 ?_ ?_<;>intro hc
   ·
    refine zlv (xfb 1 fd_134_1) ?_
    refine zlv (xlb 0 pl_27 hS) ?_
    refine zlv (xln sl_27 hL.A.row.slh) ?_
    refine zs3 ?_
    refine zlb 46 ?_ ?_<;>intro hc
    ·
     refine zlv (xfb 2 fd_134_2) ?_
     refine zlv (xlb 0 pl_22 hS) ?_
     refine zlv (xln sl_22 hL.b.slh) ?_
     refine zlv (xfb 1 fd_134_1) ?_
     refine zlv (xlb 0 pl_27 hS) ?_
     refine zlv (xln sl_27 hL.A.row.slh) ?_
     refine zs3 ?_
     refine zlb 55 ?_ ?_<;>intro hc
     ·
      refine zlv (xfb 0 fd_134_0) ?_
      refine zlv (xlb 0 pl_22 hS) ?_
      refine zlc (xc0 cl_175) (c_within (n:=p.n) (lo:=0) (hi:=1000000) (f:=p.c) w (hL.c.below hS.below)) ?_;rintro _ w ⟨rfl,hS'⟩
      replace hS:=hS.cmp hS';clear hS'
      refine zs2 ?_
      refine zlb 60 ?_ ?_<;>intro hc
      ·
       refine zlv (xfb 2 fd_134_2) ?_
       refine zlv (xlb 0 pl_22 hS) ?_
       refine zlc (xc0 cl_175) (c_within (n:=p.k) (lo:=(-1000000)) (hi:=1000000) (f:=p.b) w (hL.b.below hS.below)) ?_;rintro _ w ⟨rfl,hS'⟩
       replace hS:=hS.cmp hS';clear hS'
       refine zs2 ?_
       refine zx1<|zf1 ⟨_,rfl,?_⟩
       exact⟨Zq ⟨fun hx=>⟨by omega,by omega,by omega,by omega,‹∀k,0<=k->k<p.n->0<=p.c k/\p.c k<=1000000›,fun k k0 k1=>hx k k0 (by omega),fun k k0 k1=>hall k k0 (by omega)⟩,fun hl k k0 k1=>hl.b k k0 (by have:=hl.k;omega)⟩,hS.nl⟩
      iterate 3 refine zlo ?_
      refine zs2 ?_
      refine zx1<|zf1 ⟨_,rfl,?_⟩
      exact⟨Zf (by intro hl;have b1:=hl.n1;have b2:=hl.n2;have b3:=hl.m2;have b4:=hl.k;first|omega|exact absurd (fun j j0 j1=>by have:=hl.c j j0 j1;omega) ‹¬∀k,0<=k->k<p.n->0<=p.c k/\p.c k<=1000000›|(have:=(hl.rows i h0 (by omega)).1;omega)|exact absurd (fun j j0 j1=>(hl.rows i h0 (by omega)).2 j j0 (by have:=(hl.rows i h0 (by omega)).1;omega)) ‹¬∀k,0<=k->k<p.ln i-> -1000000<=p.A i k/\p.A i k<=1000000›),hS.nl⟩
     iterate 3 refine zlo ?_
     refine zs2 ?_
     iterate 3 refine zlo ?_
     refine zs2 ?_
     refine zx1<|zf1 ⟨_,rfl,?_⟩
     exact⟨Zf (by intro hl;have b1:=hl.n1;have b2:=hl.n2;have b3:=hl.m2;have b4:=hl.k;first|omega|exact absurd (fun j j0 j1=>by have:=hl.c j j0 j1;omega) ‹¬∀k,0<=k->k<p.n->0<=p.c k/\p.c k<=1000000›|(have:=(hl.rows i h0 (by omega)).1;omega)|exact absurd (fun j j0 j1=>(hl.rows i h0 (by omega)).2 j j0 (by have:=(hl.rows i h0 (by omega)).1;omega)) ‹¬∀k,0<=k->k<p.ln i-> -1000000<=p.A i k/\p.A i k<=1000000›),hS.nl⟩
    iterate 7 refine zlo ?_
    refine zs2 ?_
    iterate 3 refine zlo ?_
    refine zs2 ?_
    iterate 3 refine zlo ?_
    refine zs2 ?_
    refine zx1<|zf1 ⟨_,rfl,?_⟩
    exact⟨Zf (by intro hl;have b1:=hl.n1;have b2:=hl.n2;have b3:=hl.m2;have b4:=hl.k;first|omega|exact absurd (fun j j0 j1=>by have:=hl.c j j0 j1;omega) ‹¬∀k,0<=k->k<p.n->0<=p.c k/\p.c k<=1000000›|(have:=(hl.rows i h0 (by omega)).1;omega)|exact absurd (fun j j0 j1=>(hl.rows i h0 (by omega)).2 j j0 (by have:=(hl.rows i h0 (by omega)).1;omega)) ‹¬∀k,0<=k->k<p.ln i-> -1000000<=p.A i k/\p.A i k<=1000000›),hS.nl⟩
   iterate 4 refine zlo ?_
   refine zs2 ?_
   iterate 7 refine zlo ?_
   refine zs2 ?_
   iterate 3 refine zlo ?_
   refine zs2 ?_
   iterate 3 refine zlo ?_
   refine zs2 ?_
   refine zx1<|zf1 ⟨_,rfl,?_⟩
   exact⟨Zf (by intro hl;have b1:=hl.n1;have b2:=hl.n2;have b3:=hl.m2;have b4:=hl.k;first|omega|exact absurd (fun j j0 j1=>by have:=hl.c j j0 j1;omega) ‹¬∀k,0<=k->k<p.n->0<=p.c k/\p.c k<=1000000›|(have:=(hl.rows i h0 (by omega)).1;omega)|exact absurd (fun j j0 j1=>(hl.rows i h0 (by omega)).2 j j0 (by have:=(hl.rows i h0 (by omega)).1;omega)) ‹¬∀k,0<=k->k<p.ln i-> -1000000<=p.A i k/\p.A i k<=1000000›),hS.nl⟩
  iterate 4 refine zlo ?_
  refine zs2 ?_
  iterate 4 refine zlo ?_
  refine zs2 ?_
  iterate 7 refine zlo ?_
  refine zs2 ?_
  iterate 3 refine zlo ?_
  refine zs2 ?_
  iterate 3 refine zlo ?_
  refine zs2 ?_
  refine zx1<|zf1 ⟨_,rfl,?_⟩
  exact⟨Zf (by intro hl;have b1:=hl.n1;have b2:=hl.n2;have b3:=hl.m2;have b4:=hl.k;first|omega|exact absurd (fun j j0 j1=>by have:=hl.c j j0 j1;omega) ‹¬∀k,0<=k->k<p.n->0<=p.c k/\p.c k<=1000000›|(have:=(hl.rows i h0 (by omega)).1;omega)|exact absurd (fun j j0 j1=>(hl.rows i h0 (by omega)).2 j j0 (by have:=(hl.rows i h0 (by omega)).1;omega)) ‹¬∀k,0<=k->k<p.ln i-> -1000000<=p.A i k/\p.A i k<=1000000›),hS.nl⟩
theorem Zar(t:Tb){k:Int}(k0:0<=k):(cat t.nb (cat 0 (fun _=>0) t.B) t.F) k=cat t.nb t.B t.F k:=by
  unfold cat;(repeat' split)<;>first|rfl|omega|(congr 1;omega)
theorem Xv{t:Tb}(hp:TPrp t)(hm:0<=t.nb):PermF (cat t.nb (cat 0 (fun _=>0) t.B) t.F) (t.nb+t.nf):=
  (UK (by have:=hp.n1;omega) hm hp.perm).congr fun k k0 _=>(Zar t k0).symm
set_option maxRecDepth 20000 in
theorem U1{vB vF vC:Value}{vv:Int->Value}{t:Tb}(w0:World)(hT:TAt w0 vB vF vC vv t):
    Calls Tryz.prog 176 [.agg #[.int .i64 t.vars,.int .i64 t.den,vB,vF,vC]].toArray w0 fun e w=>∃v,e= .returned v/\v=B (TPrp t)/\Sat w0 w []:=by
  have hn:=hT.F.slh.n0;have hn1:=hT.F.slh.n1;have hb:=hT.B.slh.n0;have hb1:=hT.B.slh.n1;have hc0:=hT.C.row.slh.n0;have hc1:=hT.C.row.slh.n1
  refine Zj Tryz.func176 Tryz.ntmps176 fun w hS=> ?_
  refine zsr ?_
  refine zla (xbx (cs:= [_,_,_,_,_]) hS) ?_;rintro _ w ⟨g1,rfl,hS⟩
  replace hS:=hS.n1
  refine zlv xas ?_
  refine zx7 ?_
  refine zdst [0] [0] 1000 mx_ hS ?_;clear hS;intro w hS
  refine zDrv 0 (xfb 2 fd_175_2) ?_
  refine zdla 1 (fun w hS=>(xlb 0 pl_22 hS)) ?_
  refine zDrv 2 (xln sl_22 hT.B.slh) ?_
  refine zDrv 3 (xfb 3 fd_175_3) ?_
  refine zdla 4 (fun w hS=>(xlb 0 pl_22 hS)) ?_
  refine zDrv 5 (xln sl_22 hT.F.slh) ?_
  refine zDrv 6 xas ?_
  refine zDrv 7 xas ?_
  refine zdd<|ztn<|zsq<|zsr ?_
  refine zs3 ?_
  refine zlb 17 ?_ ?_<;>intro hc;rotate_left
  refine zs4 ?_
  refine zlb 21 ?_ ?_<;>intro hc;rotate_left
  refine zs4 ?_
  refine zlb 25 ?_ ?_<;>intro hc;rotate_left
  refine zlv (xfb 0 fd_175_0) ?_
  refine zlv (xlb 0 pl_3 hS) ?_
  refine zs4 ?_
  refine zlb 31 ?_ ?_<;>intro hc;rotate_left
  refine zlv (xfb 4 fd_175_4) ?_
  refine zlv (xlb 0 pl_27 hS) ?_
  refine zlv (xln sl_27 hT.C.row.slh) ?_
  refine zlv xmv ?_
  refine zlv (xadd (r:=t.nb+1)) ?_
  refine zs3 ?_
  refine zlb 39 ?_ ?_<;>intro hc;rotate_left
  refine zlv (xfb 1 fd_175_1) ?_
  refine zlv (xlb 0 pl_3 hS) ?_
  refine zs3 ?_
  refine zlb 44 ?_ ?_<;>intro hc;rotate_left
  refine zlv (xfb 1 fd_175_1) ?_
  refine zlv (xlb 0 pl_3 hS) ?_
  refine zs2 ?_
  refine zlt ?_
  refine zcif ?_ ?_<;>intro hc
  ·
   refine zsr ?_
   refine zlv xas ?_
   refine zx14<|zf1 ⟨_,rfl,?_⟩
   exact⟨Zf (by
    intro hp;have b1:=hp.n1;have b2:=hp.n2;have b3:=hp.m2;have b4:=hp.v;have b5:=hp.d1;have b6:=hp.d2;have b7:=hp.c;have b8:=Xv hp (by omega)
    first
    |omega
    |(have hr:=(hp.rows i h0 (by omega)).1;omega)
    |exact absurd (fun j j0 j1=>(hp.rows i h0 (by omega)).2 j j0 j1) ‹¬(∀k,0<=k->k<t.ln i-> -1073741824<=t.C i k/\t.C i k<=1073741824)›
    |(have:=b8.1 q q0 (by omega);omega)
    |(obtain⟨j,j0,j1,e⟩:=‹∃j,0<=j/\j<q/\(cat t.nb (cat 0 (fun _=>0) t.B) t.F) j=(cat t.nb (cat 0 (fun _=>0) t.B) t.F) q›;have:=b8.2 j q j0 (by omega) q0 (by omega) e;omega)),hS.nl⟩
  refine YR ?_
  refine zlv xas ?_
  refine zx6<|zlp (fun mm M w=>∃(i:Int),mm=((t.nc-i).toNat)/\(0<=i)/\(i<=t.nc)/\(∀k,0<=k->k<i->t.rowOk k)/\M= [(1,.pointer (some ⟨g1,0,none⟩)),(3,.int .i64 t.nb),(4,.int .i64 t.nf),(5,.int .i64 i)]/\Sat w0 w [.blk g1 [.int .i64 t.vars,.int .i64 t.den,vB,vF,vC]]) ⟨0,rfl,(by omega),(by omega),?_,rfl,hS⟩ ?_
  ·
   intro k k0 k1;omega
  clear hS w
  rintro mm M w ⟨i,rfl,h0,h1,hall,rfl,hS⟩
  refine zx11 ?_
  refine zlv xmv ?_
  refine zlv (xfb 4 fd_175_4) ?_
  refine zlv (xlb 0 pl_27 hS) ?_
  refine zlv (xln sl_27 hT.C.row.slh) ?_
  refine zlv xlss ?_
  refine zlt ?_
  refine zcif ?_ ?_<;>intro hc
  ·
   refine zx3 ?_
   refine zlv (xfb 4 fd_175_4) ?_
   refine zlv (xlb 0 pl_27 hS) ?_
   refine zlv xmv ?_
   refine zlv (xix (kk:=i) sl_27 hT.C.row.slh) ?_
   refine zlv (xlr (u:=(vv i)) pl_22 (hT.C.row.below hS.below)) ?_
   refine zlv (xln sl_22 (hT.C.p i (by omega) (by omega)).slh) ?_
   refine zlv xmv ?_
   refine zlv (xadd (r:=t.nf+1)) ?_
   refine zs2 ?_
   refine zlb 65 ?_ ?_<;>intro hc
   ·
    iterate 7 refine zlo ?_
    refine zlv xpt ?_
    refine zlt<|zct<|zsr ?_
    refine zlv xas ?_
    refine zx2<|zf1 ⟨_,rfl,?_⟩
    exact⟨Zf (by
     intro hp;have b1:=hp.n1;have b2:=hp.n2;have b3:=hp.m2;have b4:=hp.v;have b5:=hp.d1;have b6:=hp.d2;have b7:=hp.c;have b8:=Xv hp (by omega)
     first
     |omega
     |(have hr:=(hp.rows i h0 (by omega)).1;omega)
     |exact absurd (fun j j0 j1=>(hp.rows i h0 (by omega)).2 j j0 j1) ‹¬(∀k,0<=k->k<t.ln i-> -1073741824<=t.C i k/\t.C i k<=1073741824)›
     |(have:=b8.1 q q0 (by omega);omega)
     |(obtain⟨j,j0,j1,e⟩:=‹∃j,0<=j/\j<q/\(cat t.nb (cat 0 (fun _=>0) t.B) t.F) j=(cat t.nb (cat 0 (fun _=>0) t.B) t.F) q›;have:=b8.2 j q j0 (by omega) q0 (by omega) e;omega)),hS.nl⟩
   refine zlv (xfb 4 fd_175_4) ?_
   refine zlv (xlb 0 pl_27 hS) ?_
   refine zlv xmv ?_
   refine zlv (xix (kk:=i) sl_27 hT.C.row.slh) ?_
   refine zlv (xlr (u:=(vv i)) pl_22 (hT.C.row.below hS.below)) ?_
   refine zlc (xc0 cl_175) (c_within (n:=(t.ln i)) (lo:=(-1073741824)) (hi:=1073741824) (f:=(t.C i)) w ((hT.C.p i (by omega) (by omega)).below hS.below)) ?_;rintro _ w ⟨rfl,hS'⟩
   replace hS:=hS.cmp hS';clear hS'
   refine zs2 ?_
   refine zlt ?_
   refine zcif ?_ ?_<;>intro hc
   ·
    refine zsr ?_
    refine zlv xas ?_
    refine zx2<|zf1 ⟨_,rfl,?_⟩
    exact⟨Zf (by
     intro hp;have b1:=hp.n1;have b2:=hp.n2;have b3:=hp.m2;have b4:=hp.v;have b5:=hp.d1;have b6:=hp.d2;have b7:=hp.c;have b8:=Xv hp (by omega)
     first
     |omega
     |(have hr:=(hp.rows i h0 (by omega)).1;omega)
     |exact absurd (fun j j0 j1=>(hp.rows i h0 (by omega)).2 j j0 j1) ‹¬(∀k,0<=k->k<t.ln i-> -1073741824<=t.C i k/\t.C i k<=1073741824)›
     |(have:=b8.1 q q0 (by omega);omega)
     |(obtain⟨j,j0,j1,e⟩:=‹∃j,0<=j/\j<q/\(cat t.nb (cat 0 (fun _=>0) t.B) t.F) j=(cat t.nb (cat 0 (fun _=>0) t.B) t.F) q›;have:=b8.2 j q j0 (by omega) q0 (by omega) e;omega)),hS.nl⟩
   refine zx4 ?_
   refine zlv xmv ?_
   refine zlv (xadd (r:=i+1)) ?_
   refine zlv xas ?_
   refine zln<|zlq ⟨i+1,rfl,(by omega),(by omega),?_,rfl,hS⟩
   ·
    have hq:∀k,0<=k->k<t.ln i-> -1073741824<=t.C i k/\t.C i k<=1073741824:=by first|assumption|exact Classical.not_not.1 ‹_›
    intro k h0' h1';rcases Int.lt_or_eq_of_le (show k<=i by omega) with hk|hk;exact hall k h0' hk;rw [hk];exact⟨by omega,fun j j0 j1=>hq j j0 j1⟩
  refine zxt<|ztx<|ztx<|zbh<|ztn<|zsq ?_
  refine zdst [0] [0] 1000 mx_ hS ?_;clear hS;intro w hS
  refine zDrv 1 (xfb 2 fd_175_2) ?_
  refine zdla 2 (fun w hS=>(xlb 0 pl_22 hS)) ?_
  refine zDrv 4 (xfb 3 fd_175_3) ?_
  refine zdla 5 (fun w hS=>(xlb 0 pl_22 hS)) ?_
  refine zda 0 (xl0 (c:=ints (fun _=>0)) sl_22 hS) ?_;rintro v1 w ⟨hS,hv1⟩
  replace hS:=hS.n2
  refine⟨⟨fun _=>hS.pk [0],hS.pk [0]⟩,?_⟩
  refine zda 3 (xap 1 (r:=t.nb) (f:=ints (cat 0 (fun _=>0) t.B)) sl_22 el_3 hS (hT.B.below hS.below) (by exact Zg _ _ _)) ?_;rintro v2 w ⟨hS,hv2⟩
  replace hS:=hS.n2
  refine⟨⟨fun _=>hS.pk [0],hS.pk [0]⟩,?_⟩
  refine zda 6 (xap 1 (r:=t.nb+t.nf) (f:=ints (cat t.nb (cat 0 (fun _=>0) t.B) t.F)) sl_22 el_3 hS (hT.F.below hS.below) (by exact Zg _ _ _)) ?_;rintro v3 w ⟨hS,hv3⟩
  replace hS:=hS.n2
  refine⟨⟨fun _=>hS.pk [0],hS.pk [0]⟩,?_⟩
  refine zDrv 7 xas ?_
  refine zdd<|ztn<|zsr ?_
  refine zs2 ?_
  refine zlv (xadd (r:=t.nb+t.nf)) ?_
  refine zla (xmk Ka Zh3 hS) ?_;rintro v4 w ⟨hS,hv4⟩
  replace hS:=hS.n3
  refine zlv xas ?_
  refine zx5 ?_
  refine zlv xas ?_
  refine zx6<|zlp (fun mm M w=>∃(cS:Int->Value) (q:Int),mm=((t.nb+t.nf-q).toNat)/\(0<=q)/\(q<=t.nb+t.nf)/\(∀k,0<=k->k<t.nb+t.nf->cS k=B (∃j,0<=j/\j<q/\(cat t.nb (cat 0 (fun _=>0) t.B) t.F) j=k))/\(∀k,0<=k->k<q->0<=(cat t.nb (cat 0 (fun _=>0) t.B) t.F) k/\(cat t.nb (cat 0 (fun _=>0) t.B) t.F) k<t.nb+t.nf)/\(∀k j,0<=k->k<q->0<=j->j<q->(cat t.nb (cat 0 (fun _=>0) t.B) t.F) k=(cat t.nb (cat 0 (fun _=>0) t.B) t.F) j->k=j)/\M= [(3,.int .i64 t.nb),(4,.int .i64 t.nf),(6,v3),(7,v4),(8,.int .i64 q)]/\Sat w0 w [.blk g1 [.int .i64 t.vars,.int .i64 t.den,vB,vF,vC],.own v3 1 3 (t.nb+t.nf) (ints (cat t.nb (cat 0 (fun _=>0) t.B) t.F)),.own v4 1 4 (t.nb+t.nf) cS]) ⟨(fun _=> .bool false),0,rfl,(by omega),(by omega),?_,?_,?_,rfl,hS⟩ ?_
  ·
   intro k k0 k1;exact(B_false (by rintro⟨j,j0,j1,_⟩;omega)).symm
  ·
   intro k k0 k1;omega
  ·
   intro k j k0 k1;omega
  clear hS w
  rintro mm M w ⟨cS,q,rfl,q0,q1,hcS,hrg,hin,rfl,hS⟩
  refine zx11 ?_
  refine zs2 ?_
  refine zlv (xln sl_22 hv3) ?_
  refine zlv xlss ?_
  refine zlt ?_
  refine zcif ?_ ?_<;>intro hc
  ·
   refine zsk<|ztn<|zsq<|zbk<|zsq<|zsr ?_
   refine zs2 ?_
   refine zlv (xix (kk:=q) sl_22 hv3) ?_
   refine zlv (xlr (u:= .int .i64 ((cat t.nb (cat 0 (fun _=>0) t.B) t.F) q)) pl_3 (hS.rowN 1 rfl)) ?_
   refine zs2 ?_
   refine zlb 96 ?_ ?_<;>intro hc;rotate_left
   refine zs2 ?_
   refine zlv (xix (kk:=q) sl_22 hv3) ?_
   refine zlv (xlr (u:= .int .i64 ((cat t.nb (cat 0 (fun _=>0) t.B) t.F) q)) pl_3 (hS.rowN 1 rfl)) ?_
   refine zs2 ?_
   refine zlv (xadd (r:=t.nb+t.nf)) ?_
   refine zs3 ?_
   refine zlb 106 ?_ ?_<;>intro hc;rotate_left
   refine zs3 ?_
   refine zlv (xix (kk:=q) sl_22 hv3) ?_
   refine zlv (xlr (u:= .int .i64 ((cat t.nb (cat 0 (fun _=>0) t.B) t.F) q)) pl_3 (hS.rowN 1 rfl)) ?_
   refine zlv (xix (kk:=(cat t.nb (cat 0 (fun _=>0) t.B) t.F) q) Ka hv4) ?_
   refine zlv (xlr (u:=B (∃j,0<=j/\j<q/\(cat t.nb (cat 0 (fun _=>0) t.B) t.F) j=(cat t.nb (cat 0 (fun _=>0) t.B) t.F) q)) ZgU (hS.rowN 2 rfl) (e:=(hcS _ (by omega) (by omega)))) ?_
   refine zlv xpf ?_
   refine zlt ?_
   refine zcif ?_ ?_<;>intro hc
   ·
    refine zsr ?_
    refine zlv xas ?_
    refine zlt<|zrt<|ztr<|zbr<|ztr<|ztr<|zbr<|ztr<|zf1 ⟨_,rfl,?_⟩
    exact⟨Zf (by
     intro hp;have b1:=hp.n1;have b2:=hp.n2;have b3:=hp.m2;have b4:=hp.v;have b5:=hp.d1;have b6:=hp.d2;have b7:=hp.c;have b8:=Xv hp (by omega)
     first
     |omega
     |(have hr:=(hp.rows i h0 (by omega)).1;omega)
     |exact absurd (fun j j0 j1=>(hp.rows i h0 (by omega)).2 j j0 j1) ‹¬(∀k,0<=k->k<t.ln i-> -1073741824<=t.C i k/\t.C i k<=1073741824)›
     |(have:=b8.1 q q0 (by omega);omega)
     |(obtain⟨j,j0,j1,e⟩:=‹∃j,0<=j/\j<q/\(cat t.nb (cat 0 (fun _=>0) t.B) t.F) j=(cat t.nb (cat 0 (fun _=>0) t.B) t.F) q›;have:=b8.2 j q j0 (by omega) q0 (by omega) e;omega)),hS.nl⟩
   refine zsk<|ztn<|zrg ?_
   refine zs3 ?_
   refine zlv (xix (kk:=q) sl_22 hv3) ?_
   refine zlv (xlr (u:= .int .i64 ((cat t.nb (cat 0 (fun _=>0) t.B) t.F) q)) pl_3 (hS.rowN 1 rfl)) ?_
   refine zlv (xix (kk:=(cat t.nb (cat 0 (fun _=>0) t.B) t.F) q) Ka hv4) ?_
   refine zle (xso 2 ZgU hS rfl) ?_;clear hS;rintro w hS
   replace hS:=hS.n3
   refine zx10 ?_
   refine zlv xmv ?_
   refine zlv (xadd (r:=q+1)) ?_
   refine zlv xas ?_
   refine zln<|zlq ⟨upd cS ((cat t.nb (cat 0 (fun _=>0) t.B) t.F) q) (.bool true),q+1,rfl,(by omega),(by omega),?_,?_,?_,rfl,hS⟩
   ·
    intro k k0 k1;by_cases e:k=(cat t.nb (cat 0 (fun _=>0) t.B) t.F) q
    · rw [e,ZA];exact(Yq ⟨q,q0,by omega,rfl⟩).symm
    · rw [upd_ne _ _ e,hcS k k0 k1];exact Zq ⟨fun⟨j,j0,j1,h⟩=>⟨j,j0,by omega,h⟩,fun⟨j,j0,j1,h⟩=>⟨j,j0,by rcases Int.lt_or_eq_of_le (show j<=q by omega) with hh|hh;exact hh;exact absurd (by rw [<-h,hh]) e,h⟩⟩
   ·
    intro k k0 k1;rcases Int.lt_or_eq_of_le (show k<=q by omega) with hk|hk;exact hrg k k0 hk;rw [hk];omega
   ·
    have hns:¬(∃j,0<=j/\j<q/\(cat t.nb (cat 0 (fun _=>0) t.B) t.F) j=(cat t.nb (cat 0 (fun _=>0) t.B) t.F) q):=‹_›
    intro k j k0 k1 j0 j1 e;rcases Int.lt_or_eq_of_le (show k<=q by omega) with hk|hk<;>rcases Int.lt_or_eq_of_le (show j<=q by omega) with hj|hj
    · exact hin k j k0 hk j0 hj e
    · exact absurd ⟨k,k0,hk,by rw [e,hj]⟩ hns
    · exact absurd ⟨j,j0,hj,by rw [<-e,hk]⟩ hns
    · omega
   all_goals
    refine YC ?_
    refine zlt<|zct<|zsr ?_
    refine YC ?_
    refine zlt<|zrt<|ztr<|zbr<|ztr<|ztr<|zbr<|ztr<|zf1 ⟨_,rfl,?_⟩
    exact⟨Zf (by
     intro hp;have b1:=hp.n1;have b2:=hp.n2;have b3:=hp.m2;have b4:=hp.v;have b5:=hp.d1;have b6:=hp.d2;have b7:=hp.c;have b8:=Xv hp (by omega)
     first
     |omega
     |(have hr:=(hp.rows i h0 (by omega)).1;omega)
     |exact absurd (fun j j0 j1=>(hp.rows i h0 (by omega)).2 j j0 j1) ‹¬(∀k,0<=k->k<t.ln i-> -1073741824<=t.C i k/\t.C i k<=1073741824)›
     |(have:=b8.1 q q0 (by omega);omega)
     |(obtain⟨j,j0,j1,e⟩:=‹∃j,0<=j/\j<q/\(cat t.nb (cat 0 (fun _=>0) t.B) t.F) j=(cat t.nb (cat 0 (fun _=>0) t.B) t.F) q›;have:=b8.2 j q j0 (by omega) q0 (by omega) e;omega)),hS.nl⟩
  refine zx8 ?_
  refine zlv xas ?_
  refine zx1<|zf1 ⟨_,rfl,?_⟩
  obtain rfl:q=t.nb+t.nf:=by omega
  have hpp:PermF (cat t.nb (cat 0 (fun _=>0) t.B) t.F) (t.nb+t.nf):=⟨hrg,hin⟩
  exact⟨ZU ⟨by omega,by omega,by omega,by omega,by omega,by omega,by omega,UK (by omega) (by omega) (hpp.congr fun k k0 _=>Zar t k0),fun k k0 k1=>hall k k0 (by omega)⟩,hS.nl⟩
  all_goals
   refine YC ?_
   refine zlt<|zct<|zsr ?_
   refine YC ?_
   refine zx14<|zf1 ⟨_,rfl,?_⟩
   exact⟨Zf (by
    intro hp;have b1:=hp.n1;have b2:=hp.n2;have b3:=hp.m2;have b4:=hp.v;have b5:=hp.d1;have b6:=hp.d2;have b7:=hp.c;have b8:=Xv hp (by omega)
    first
    |omega
    |(have hr:=(hp.rows i h0 (by omega)).1;omega)
    |exact absurd (fun j j0 j1=>(hp.rows i h0 (by omega)).2 j j0 j1) ‹¬(∀k,0<=k->k<t.ln i-> -1073741824<=t.C i k/\t.C i k<=1073741824)›
    |(have:=b8.1 q q0 (by omega);omega)
    |(obtain⟨j,j0,j1,e⟩:=‹∃j,0<=j/\j<q/\(cat t.nb (cat 0 (fun _=>0) t.B) t.F) j=(cat t.nb (cat 0 (fun _=>0) t.B) t.F) q›;have:=b8.2 j q j0 (by omega) q0 (by omega) e;omega)),hS.nl⟩
set_option maxRecDepth 20000 in
theorem Zbb{vB vF vC:Value}{vv:Int->Value}{t:Tb}(w0:World)(hT:TAt w0 vB vF vC vv t)(hp:TPrp t):
    Calls Tryz.prog 177 [.agg #[.int .i64 t.vars,.int .i64 t.den,vB,vF,vC]].toArray w0 fun e w=>∃v,e= .returned v/\v= .int .i64 (ZF t t.nb.toNat)/\Sat w0 w []:=by
  have hn:=hT.F.slh.n0;have hn1:=hT.F.slh.n1;have hb:=hT.B.slh.n0;have hb1:=hT.B.slh.n1;have hc0:=hT.C.row.slh.n0;have hc1:=hT.C.row.slh.n1
  have b1:=hp.n1;have b2:=hp.n2;have b3:=hp.m2;have b4:=hp.v;have b5:=hp.d1;have b6:=hp.d2;have b7:=hp.c
  refine Zj Tryz.func177 Tryz.ntmps177 fun w hS=> ?_
  refine zsr ?_
  refine zla (xbx (cs:= [_,_,_,_,_]) hS) ?_;rintro _ w ⟨g1,rfl,hS⟩
  replace hS:=hS.n1
  refine zlv xas ?_
  refine zlz ?_
  refine zlv xas ?_
  refine zx5 ?_
  refine zlv xas ?_
  refine zx6<|zlp (fun mm M w=>∃(r:Int) (i:Int),mm=((t.nb-i).toNat)/\(0<=i)/\(i<=t.nb)/\(r=ZF t i.toNat)/\M= [(1,.pointer (some ⟨g1,0,none⟩)),(2,.int .i64 0),(3,.int .i64 r),(4,.int .i64 i)]/\Sat w0 w [.blk g1 [.int .i64 t.vars,.int .i64 t.den,vB,vF,vC]]) ⟨(-1),0,rfl,(by omega),(by omega),?_,rfl,hS⟩ ?_
  ·
   rfl
  clear hS w
  rintro mm M w ⟨r,i,rfl,h0,h1,hr,rfl,hS⟩
  have hrr:=Yk t i.toNat;rw [<-hr] at hrr
  refine zx11 ?_
  refine zlv xmv ?_
  refine zlv (xfb 2 fd_175_2) ?_
  refine zlv (xlb 0 pl_22 hS) ?_
  refine zlv (xln sl_22 hT.B.slh) ?_
  refine zlv xlss ?_
  refine zlt ?_
  refine zcif ?_ ?_<;>intro hc
  ·
   refine zsk<|ztn<|zsq<|zbk<|zsq ?_
   refine zdst [0] [0] 1000 mx_ hS ?_;clear hS;intro w hS
   refine zDrv 0 (xfb 4 fd_175_4) ?_
   have hlen:=hp.len (i:=i+1) (by omega) (by omega)
   refine zdla 1 (fun w hS=>(xlb 0 pl_27 hS)) ?_
   refine zDrv 2 xmv ?_
   refine zDrv 3 (xadd (r:=i+1)) ?_
   refine zDrv 4 (xix (kk:=i+1) sl_27 hT.C.row.slh) ?_
   refine zdla 5 (fun w hS=>(xlr (u:=(vv (i+1))) pl_22 (hT.C.row.below hS.below))) ?_
   refine zDrv 6 (xix (kk:=0) sl_22 (hT.C.p (i+1) (by omega) (by omega)).slh) ?_
   refine zdla 7 (fun w hS=>(xlr (u:= .int .i64 ((t.C (i+1)) 0)) pl_3 ((hT.C.p (i+1) (by omega) (by omega)).below hS.below))) ?_
   refine zDrv 8 xlss ?_
   refine zDrv 9 xmv ?_
   refine zdb 21 ?_ ?_<;>intro hc
   ·
    refine zDrv 10 xmv ?_
    refine zDrv 11 xlss ?_
    refine zDrv 12 xmv ?_
    refine zdb 24 ?_ ?_<;>intro hc
    ·
     refine zdof 13 ?_
     refine zdof 14 ?_
     refine zdof 15 ?_
     refine zdof 16 ?_
     refine zdof 17 ?_
     refine zdof 18 ?_
     refine zdof 19 ?_
     refine zdof 20 ?_
     refine zdof 21 ?_
     refine zdof 22 ?_
     refine zdof 23 ?_
     refine zDrv 24 xpt ?_
     refine zDrv 25 xpt ?_
     refine zdd<|ztn<|zct<|zrg ?_
     refine zs2 ?_
     refine zx10 ?_
     refine zlv xmv ?_
     refine zlv (xadd (r:=i+1)) ?_
     refine zlv xas ?_
     refine zln<|zlq ⟨i,i+1,rfl,(by omega),(by omega),?_,rfl,hS⟩
     ·
      rw [Yv t h0,<-hr];split<;>omega
    refine zDrv 13 (xfb 2 fd_175_2) ?_
    refine zdla 14 (fun w hS=>(xlb 0 pl_22 hS)) ?_
    refine zDrv 15 xmv ?_
    refine zDrv 16 (xix (kk:=i) sl_22 hT.B.slh) ?_
    refine zdla 17 (fun w hS=>(xlr (u:= .int .i64 (t.B i)) pl_3 (hT.B.below hS.below))) ?_
    refine zDrv 18 (xfb 2 fd_175_2) ?_
    refine zdla 19 (fun w hS=>(xlb 0 pl_22 hS)) ?_
    refine zDrv 20 xmv ?_
    refine zDrv 21 (xix (kk:=r) sl_22 hT.B.slh) ?_
    refine zdla 22 (fun w hS=>(xlr (u:= .int .i64 (t.B r)) pl_3 (hT.B.below hS.below))) ?_
    refine zDrv 23 xlss ?_
    refine zDrv 24 xpf ?_
    refine zDrv 25 xpt ?_
    refine zdd<|ztn ?_
    refine zcif ?_ ?_<;>intro hc
    ·
     refine zrg ?_
     refine zs2 ?_
     refine zx10 ?_
     refine zlv xmv ?_
     refine zlv (xadd (r:=i+1)) ?_
     refine zlv xas ?_
     refine zln<|zlq ⟨i,i+1,rfl,(by omega),(by omega),?_,rfl,hS⟩
     ·
      rw [Yv t h0,<-hr];split<;>omega
    refine zx4 ?_
    refine zlv xmv ?_
    refine zlv (xadd (r:=i+1)) ?_
    refine zlv xas ?_
    refine zln<|zlq ⟨r,i+1,rfl,(by omega),(by omega),?_,rfl,hS⟩
    ·
     rw [Yv t h0,<-hr];split<;>omega
   refine zdof 10 ?_
   refine zdof 11 ?_
   refine zdof 12 ?_
   refine zdof 13 ?_
   refine zdof 14 ?_
   refine zdof 15 ?_
   refine zdof 16 ?_
   refine zdof 17 ?_
   refine zdof 18 ?_
   refine zdof 19 ?_
   refine zdof 20 ?_
   refine zdof 21 ?_
   refine zdof 22 ?_
   refine zdof 23 ?_
   refine zdof 24 ?_
   refine zDrv 25 xpf ?_
   refine zdd<|ztn<|zcf<|zsk<|zbn<|ztn<|zrg ?_
   refine zlv xmv ?_
   refine zlv (xadd (r:=i+1)) ?_
   refine zlv xas ?_
   refine zln<|zlq ⟨r,i+1,rfl,(by omega),(by omega),?_,rfl,hS⟩
   ·
    rw [Yv t h0,<-hr];split<;>omega
  refine zx8 ?_
  refine zs2 ?_
  refine zx1<|zf1 ⟨_,rfl,?_⟩
  obtain rfl:i=t.nb:=by omega
  exact⟨by rw [hr],hS.nl⟩
set_option maxRecDepth 20000 in
theorem Zd1{vB vF vC:Value}{vv:Int->Value}{t:Tb}(w0:World)(hT:TAt w0 vB vF vC vv t):
    Calls Tryz.prog 159 [.agg #[.int .i64 t.vars,.int .i64 t.den,vB,vF,vC]].toArray w0 fun e w=>∃v,e= .returned v/\∃r c d e,v= .tuple #[.int .i64 r,.int .i64 c,.bool d,.int .i64 e]/\NextR t r c d e/\Sat w0 w []:=by
  have hn:=hT.F.slh.n0;have hn1:=hT.F.slh.n1;have hb:=hT.B.slh.n0;have hb1:=hT.B.slh.n1;have hc0:=hT.C.row.slh.n0;have hc1:=hT.C.row.slh.n1
  refine Zj Tryz.func159 Tryz.ntmps159 fun w hS=> ?_
  refine zsr ?_
  refine zla (xbx (cs:= [_,_,_,_,_]) hS) ?_;rintro _ w ⟨g1,rfl,hS⟩
  replace hS:=hS.n1
  refine zs4 ?_
  refine zx5 ?_
  refine zlv (xls 0 st_175 hS) ?_
  refine zlc (xc0 Zcj) (U1 (t:=t) w (hT.below hS.below)) ?_;rintro _ w ⟨rfl,hS'⟩
  replace hS:=hS.cmp hS';clear hS'
  refine zs2 ?_
  refine zlb 15 ?_ ?_<;>intro hc
  ·
   iterate 7 refine zlo ?_
   refine zlv xpt ?_
   refine zlt<|zct<|zsr ?_
   refine zs4 ?_
   refine zx14<|zf4 ⟨_,rfl,?_⟩
   refine⟨_,_,_,_,rfl,.inl ⟨?_,rfl,rfl,rfl,rfl⟩,hS.nl⟩
   first|exact fun hh=>absurd hh.1 ‹_›|(rintro⟨_,hco⟩;exact absurd (show∀k,0<=k->k<t.ln 0-1->0<=t.C 0 (k+1)/\t.C 0 (k+1)<=1073741824 from fun k k0 k1=>⟨hco (k+1) (by omega) (by omega),(hp.cell (i:=0) (j:=k+1) (by omega) (by omega) (by omega) (by omega)).2⟩) (by assumption))
  refine zlv (xfb 4 fd_175_4) ?_
  refine zlv (xlb 0 pl_27 hS) ?_
  have hp:TPrp t:=by first|assumption|exact Classical.not_not.1 ‹¬¬(TPrp t)›
  have b1:=hp.n1
  have b2:=hp.n2
  have b3:=hp.m2
  have b4:=hp.v
  have b5:=hp.d1
  have b6:=hp.d2
  have b7:=hp.c
  have hl0:=hp.len (i:=0) (by omega) (by omega)
  refine zlv (xix (kk:=0) sl_27 hT.C.row.slh) ?_
  refine zlv (xlr (u:=(vv 0)) pl_22 (hT.C.row.below hS.below)) ?_
  refine zlvr rfl rfl rfl (Yx (q:=1) rfl sl_22 rfl rfl rfl (hT.C.p 0 (by omega) (by omega)).slh rfl (by omega) (by omega)) ?_
  refine zlc (xc0 cl_175) (c_within (n:=((t.ln 0)-1)) (lo:=0) (hi:=1073741824) (f:=(fun k=>(t.C 0) (k+1))) w ((YG (q:=1) (hT.C.p 0 (by omega) (by omega)).slh (hT.C.room 0 (by omega) (by omega)) (by omega)).row (by omega) ((hT.C.p 0 (by omega) (by omega)).below hS.below))) ?_;rintro _ w ⟨rfl,hS'⟩
  replace hS:=hS.cmp hS';clear hS'
  refine zs2 ?_
  refine zlt ?_
  refine zcif ?_ ?_<;>intro hc
  ·
   refine zsr ?_
   refine zs4 ?_
   refine zx14<|zf4 ⟨_,rfl,?_⟩
   refine⟨_,_,_,_,rfl,.inl ⟨?_,rfl,rfl,rfl,rfl⟩,hS.nl⟩
   first|exact fun hh=>absurd hh.1 ‹_›|(rintro⟨_,hco⟩;exact absurd (show∀k,0<=k->k<t.ln 0-1->0<=t.C 0 (k+1)/\t.C 0 (k+1)<=1073741824 from fun k k0 k1=>⟨hco (k+1) (by omega) (by omega),(hp.cell (i:=0) (j:=k+1) (by omega) (by omega) (by omega) (by omega)).2⟩) (by assumption))
  refine ZR ?_
  refine zlv (xls 0 st_175 hS) ?_
  have hcq:∀k,0<=k->k<t.ln 0-1->0<=t.C 0 (k+1)/\t.C 0 (k+1)<=1073741824:=by first|assumption|exact Classical.not_not.1 ‹_›
  have hrr:=Yk t t.nb.toNat
  refine zlc (xc0 Zfw) (Zbb (t:=t) w (hT.below hS.below) hp) ?_;rintro _ w ⟨rfl,hS'⟩
  replace hS:=hS.cmp hS';clear hS'
  refine zlv xas ?_
  refine zx5 ?_
  refine zs2 ?_
  refine zlt ?_
  refine zcif ?_ ?_<;>intro hc
  ·
   refine zsr ?_
   refine zs4 ?_
   refine zx14<|zf4 ⟨_,rfl,?_⟩
   exact⟨_,_,_,_,rfl,.inr (.inl ⟨hp,(fun j j0 j1=>by have:=hcq (j-1) (by omega) (by omega);rw [show j-1+1=j by omega] at this;omega),by omega,rfl,rfl,rfl,rfl⟩),hS.nl⟩
  refine ZR ?_
  refine zlv xas ?_
  refine zx5 ?_
  refine zlv xas ?_
  refine zx6<|zlp (fun mm M w=>∃(c:Int) (j:Int),mm=((t.nf-j).toNat)/\(0<=j)/\(j<=t.nf)/\(c=ZW t (ZF t t.nb.toNat) j.toNat)/\M= [(1,.pointer (some ⟨g1,0,none⟩)),(2,.int .i64 0),(3,.int .i64 0),(4,.bool false),(5,.int .i64 0),(6,.int .i64 (ZF t t.nb.toNat)),(7,.int .i64 c),(8,.int .i64 j)]/\Sat w0 w [.blk g1 [.int .i64 t.vars,.int .i64 t.den,vB,vF,vC]]) ⟨(-1),0,rfl,(by omega),(by omega),?_,rfl,hS⟩ ?_
  ·
   rfl
  clear hS w
  rintro mm M w ⟨c,j,rfl,j0,j1,hcc,rfl,hS⟩
  have hcr:=YO t (ZF t t.nb.toNat) j.toNat;rw [<-hcc] at hcr
  refine zx11 ?_
  refine zlv xmv ?_
  refine zlv (xfb 3 fd_175_3) ?_
  refine zlv (xlb 0 pl_22 hS) ?_
  refine zlv (xln sl_22 hT.F.slh) ?_
  refine zlv xlss ?_
  refine zlt ?_
  refine zcif ?_ ?_<;>intro hc
  ·
   refine zx3 ?_
   refine zlv (xfb 4 fd_175_4) ?_
   refine zlv (xlb 0 pl_27 hS) ?_
   refine zlv xmv ?_
   have hlr:=hp.len (i:=(ZF t t.nb.toNat)+1) (by omega) (by omega)
   refine zlv (xadd (r:=(ZF t t.nb.toNat)+1)) ?_
   refine zlv (xix (kk:=(ZF t t.nb.toNat)+1) sl_27 hT.C.row.slh) ?_
   refine zlv (xlr (u:=(vv ((ZF t t.nb.toNat)+1))) pl_22 (hT.C.row.below hS.below)) ?_
   refine zlv xmv ?_
   refine zlv (xadd (r:=j+1)) ?_
   refine zlv (xix (kk:=j+1) sl_22 (hT.C.p ((ZF t t.nb.toNat)+1) (by omega) (by omega)).slh) ?_
   refine zlv (xlr (u:= .int .i64 ((t.C ((ZF t t.nb.toNat)+1)) (j+1))) pl_3 ((hT.C.p ((ZF t t.nb.toNat)+1) (by omega) (by omega)).below hS.below)) ?_
   refine zlv xas ?_
   refine zx5 ?_
   refine zs2 ?_
   refine zlt ?_
   refine zcif ?_ ?_<;>intro hc
   ·
    refine zxt<|ztx<|zbh<|ztn<|zrg ?_
    refine zlv xmv ?_
    refine zlv (xadd (r:=j+1)) ?_
    refine zlv xas ?_
    refine zln<|zlq ⟨c,j+1,rfl,(by omega),(by omega),?_,rfl,hS⟩
    ·
     rw [Z0 t (ZF t t.nb.toNat) j0,<-hcc];(repeat' split)<;>omega
   refine YR ?_
   refine zs2 ?_
   refine zlt ?_
   refine zcif ?_ ?_<;>intro hc
   ·
    refine zsr ?_
    refine zs2 ?_
    refine zlt<|zxt<|ztx<|zbh<|ztn<|zrg ?_
    refine zlv xmv ?_
    refine zlv (xadd (r:=j+1)) ?_
    refine zlv xas ?_
    refine zln<|zlq ⟨j,j+1,rfl,(by omega),(by omega),?_,rfl,hS⟩
    ·
     rw [Z0 t (ZF t t.nb.toNat) j0,<-hcc];(repeat' split)<;>omega
   refine zsk<|ztn<|zsq ?_
   refine zdst [0] [0] 1000 mx_ hS ?_;clear hS;intro w hS
   refine zDrv 0 (xfb 4 fd_175_4) ?_
   refine zdla 1 (fun w hS=>(xlb 0 pl_27 hS)) ?_
   refine zDrv 2 (xix (kk:=0) sl_27 hT.C.row.slh) ?_
   refine zdla 3 (fun w hS=>(xlr (u:=(vv 0)) pl_22 (hT.C.row.below hS.below))) ?_
   refine zDrv 4 xmv ?_
   have hcr:=YO t (ZF t t.nb.toNat) j.toNat;rw [<-hcc] at hcr
   have hm1:=Yy (hp.cell (i:=0) (j:=j+1) (by omega) (by omega) (by omega) (by omega)) (hp.cell (i:=(ZF t t.nb.toNat)+1) (j:=c+1) (by omega) (by omega) (by omega) (by omega));have hm2:=Yy (hp.cell (i:=0) (j:=c+1) (by omega) (by omega) (by omega) (by omega)) (hp.cell (i:=(ZF t t.nb.toNat)+1) (j:=j+1) (by omega) (by omega) (by omega) (by omega))
   refine zDrv 5 (xadd (r:=j+1)) ?_
   refine zDrv 6 (xix (kk:=j+1) sl_22 (hT.C.p 0 (by omega) (by omega)).slh) ?_
   refine zdla 7 (fun w hS=>(xlr (u:= .int .i64 ((t.C 0) (j+1))) pl_3 ((hT.C.p 0 (by omega) (by omega)).below hS.below))) ?_
   refine zDrv 8 (xfb 4 fd_175_4) ?_
   refine zdla 9 (fun w hS=>(xlb 0 pl_27 hS)) ?_
   refine zDrv 10 xmv ?_
   refine zDrv 11 (xadd (r:=(ZF t t.nb.toNat)+1)) ?_
   refine zDrv 12 (xix (kk:=(ZF t t.nb.toNat)+1) sl_27 hT.C.row.slh) ?_
   refine zdla 13 (fun w hS=>(xlr (u:=(vv ((ZF t t.nb.toNat)+1))) pl_22 (hT.C.row.below hS.below))) ?_
   refine zDrv 14 xmv ?_
   refine zDrv 15 (xadd (r:=c+1)) ?_
   refine zDrv 16 (xix (kk:=c+1) sl_22 (hT.C.p ((ZF t t.nb.toNat)+1) (by omega) (by omega)).slh) ?_
   refine zdla 17 (fun w hS=>(xlr (u:= .int .i64 ((t.C ((ZF t t.nb.toNat)+1)) (c+1))) pl_3 ((hT.C.p ((ZF t t.nb.toNat)+1) (by omega) (by omega)).below hS.below))) ?_
   refine zdv 18 (fun _=>(xmul (r:=(((t.C 0) (j+1))*((t.C ((ZF t t.nb.toNat)+1)) (c+1)))) (e:=rfl))) ?_
   refine zDrv 19 (xfb 4 fd_175_4) ?_
   refine zdla 20 (fun w hS=>(xlb 0 pl_27 hS)) ?_
   refine zDrv 21 (xix (kk:=0) sl_27 hT.C.row.slh) ?_
   refine zdla 22 (fun w hS=>(xlr (u:=(vv 0)) pl_22 (hT.C.row.below hS.below))) ?_
   refine zDrv 23 xmv ?_
   refine zDrv 24 (xadd (r:=c+1)) ?_
   refine zDrv 25 (xix (kk:=c+1) sl_22 (hT.C.p 0 (by omega) (by omega)).slh) ?_
   refine zdla 26 (fun w hS=>(xlr (u:= .int .i64 ((t.C 0) (c+1))) pl_3 ((hT.C.p 0 (by omega) (by omega)).below hS.below))) ?_
   refine zDrv 27 xmv ?_
   refine zdv 28 (fun _=>(xmul (r:=(((t.C 0) (c+1))*((t.C ((ZF t t.nb.toNat)+1)) (j+1)))) (e:=rfl))) ?_
   refine zDrv 29 xas ?_
   refine zDrv 30 xas ?_
   refine zdd<|ztn<|zsq ?_
   refine zdst [0] [0] 1000 mx_ hS ?_;clear hS;intro w hS
   refine zDrv 0 xmv ?_
   have hne:t.F j≠t.F c:=fun hh=>by have:=hp.injF (i:=j) (j:=c) (by omega) (by omega) (by omega) (by omega) (by omega) hh;omega
   refine zDrv 1 xmv ?_
   refine zDrv 2 xlss ?_
   refine zDrv 3 xmv ?_
   refine zdb 82 ?_ ?_<;>intro hc
   ·
    refine zdof 4 ?_
    refine zdof 5 ?_
    refine zdof 6 ?_
    refine zdof 7 ?_
    refine zdof 8 ?_
    refine zdof 9 ?_
    refine zdof 10 ?_
    refine zdof 11 ?_
    refine zdof 12 ?_
    refine zdof 13 ?_
    refine zdof 14 ?_
    refine zdof 15 ?_
    refine zdof 16 ?_
    refine zdof 17 ?_
    refine zdof 18 ?_
    refine zdof 19 ?_
    refine zDrv 20 xpt ?_
    refine zdd<|ztn<|zct<|zrg ?_
    refine zs2 ?_
    refine zx10 ?_
    refine zlv xmv ?_
    refine zlv (xadd (r:=j+1)) ?_
    refine zlv xas ?_
    refine zln<|zlq ⟨j,j+1,rfl,(by omega),(by omega),?_,rfl,hS⟩
    ·
     rw [Z0 t (ZF t t.nb.toNat) j0,<-hcc];(repeat' split)<;>omega
   refine zDrv 4 xmv ?_
   refine zDrv 5 xmv ?_
   refine zDrv 6 Yi ?_
   refine zDrv 7 xmv ?_
   refine zdb 86 ?_ ?_<;>intro hc
   ·
    refine zDrv 8 (xfb 3 fd_175_3) ?_
    refine zdla 9 (fun w hS=>(xlb 0 pl_22 hS)) ?_
    refine zDrv 10 xmv ?_
    refine zDrv 11 (xix (kk:=j) sl_22 hT.F.slh) ?_
    refine zdla 12 (fun w hS=>(xlr (u:= .int .i64 (t.F j)) pl_3 (hT.F.below hS.below))) ?_
    refine zDrv 13 (xfb 3 fd_175_3) ?_
    refine zdla 14 (fun w hS=>(xlb 0 pl_22 hS)) ?_
    refine zDrv 15 xmv ?_
    refine zDrv 16 (xix (kk:=c) sl_22 hT.F.slh) ?_
    refine zdla 17 (fun w hS=>(xlr (u:= .int .i64 (t.F c)) pl_3 (hT.F.below hS.below))) ?_
    refine zDrv 18 xlss ?_
    refine zDrv 19 xpt ?_
    refine zDrv 20 xpf ?_
    refine zdd<|ztn ?_
    refine zcif ?_ ?_<;>intro hc
    ·
     refine zrg ?_
     refine zs2 ?_
     refine zx10 ?_
     refine zlv xmv ?_
     refine zlv (xadd (r:=j+1)) ?_
     refine zlv xas ?_
     refine zln<|zlq ⟨j,j+1,rfl,(by omega),(by omega),?_,rfl,hS⟩
     ·
      rw [Z0 t (ZF t t.nb.toNat) j0,<-hcc];(repeat' split)<;>omega
    refine zx4 ?_
    refine zlv xmv ?_
    refine zlv (xadd (r:=j+1)) ?_
    refine zlv xas ?_
    refine zln<|zlq ⟨c,j+1,rfl,(by omega),(by omega),?_,rfl,hS⟩
    ·
     rw [Z0 t (ZF t t.nb.toNat) j0,<-hcc];(repeat' split)<;>omega
   refine zdof 8 ?_
   refine zdof 9 ?_
   refine zdof 10 ?_
   refine zdof 11 ?_
   refine zdof 12 ?_
   refine zdof 13 ?_
   refine zdof 14 ?_
   refine zdof 15 ?_
   refine zdof 16 ?_
   refine zdof 17 ?_
   refine zdof 18 ?_
   refine zDrv 19 xpf ?_
   refine zDrv 20 xpf ?_
   refine zdd<|ztn<|zcf<|zsk<|zbn<|ztn<|zrg ?_
   refine zlv xmv ?_
   refine zlv (xadd (r:=j+1)) ?_
   refine zlv xas ?_
   refine zln<|zlq ⟨c,j+1,rfl,(by omega),(by omega),?_,rfl,hS⟩
   ·
    rw [Z0 t (ZF t t.nb.toNat) j0,<-hcc];(repeat' split)<;>omega
  refine zx18 ?_
  refine zs2 ?_
  refine zlt ?_
  refine zcif ?_ ?_<;>intro hc
  ·
   refine zsr ?_
   refine zs4 ?_
   refine zx14<|zf4 ⟨_,rfl,?_⟩
   obtain rfl:j=t.nf:=by omega
   exact⟨_,_,_,_,rfl,.inr (.inr (.inl ⟨hp,(fun j j0 j1=>by have:=hcq (j-1) (by omega) (by omega);rw [show j-1+1=j by omega] at this;omega),by omega,by omega,rfl,rfl,rfl,rfl⟩)),hS.nl⟩
  refine ZR ?_
  refine zs6 ?_
  refine zx1<|zf4 ⟨_,rfl,?_⟩
  obtain rfl:j=t.nf:=by omega
  exact⟨_,_,_,_,rfl,.inr (.inr (.inr ⟨hp,(fun j j0 j1=>by have:=hcq (j-1) (by omega) (by omega);rw [show j-1+1=j by omega] at this;omega),by omega,by omega,rfl,hcc,rfl,rfl⟩)),hS.nl⟩
set_option maxRecDepth 20000 in
theorem c_cell{vB vF vC:Value}{vv:Int->Value}{t:Tb}{i j r s:Int}(w0:World)(hT:TAt w0 vB vF vC vv t)(hp:TPrp t)(i0:0<=i)(i1:i<=t.nb)(j0:0<=j)(j1:j<=t.nf)(r0:0<=r)(r1:r<=t.nb)(s0:0<=s)(s1:s<=t.nf):
    Calls Tryz.prog 178 [.agg #[.int .i64 t.vars,.int .i64 t.den,vB,vF,vC],.int .i64 i,.int .i64 j,.int .i64 r,.int .i64 s].toArray w0 fun e w=>∃v,e= .returned v/\∃(n:Int) (ok:Value),v= .tuple #[.int .i64 n,ok]/\n=Zz t r s i j/\ok=B (WM t r s i j)/\Sat w0 w []:=by
  have hn:=hT.F.slh.n0;have hn1:=hT.F.slh.n1;have hb:=hT.B.slh.n0;have hb1:=hT.B.slh.n1;have hc0:=hT.C.row.slh.n0;have hc1:=hT.C.row.slh.n1
  have b1:=hp.n1;have b2:=hp.n2;have b3:=hp.m2;have b4:=hp.v;have b5:=hp.d1;have b6:=hp.d2;have b7:=hp.c
  have hc1x:=hp.cell (i:=r) (j:=s) (by omega) (by omega) (by omega) (by omega);have hc2x:=hp.cell (i:=i) (j:=j) (by omega) (by omega) (by omega) (by omega);have hc3x:=hp.cell (i:=i) (j:=s) (by omega) (by omega) (by omega) (by omega);have hc4x:=hp.cell (i:=r) (j:=j) (by omega) (by omega) (by omega) (by omega)
  have hm1:=Yy hc1x hc2x;have hm2:=Yy hc3x hc4x;have hli:=hp.len (i:=i) (by omega) (by omega);have hlr:=hp.len (i:=r) (by omega) (by omega)
  have hqd:=Yr (a:=t.C r s*t.C i j-t.C i s*t.C r j) (d:=t.den) (A:=2305843009213693952) (by omega) (by omega)
  refine Zj Tryz.func178 Tryz.ntmps178 fun w hS=> ?_
  refine zsr ?_
  refine zla (xbx (cs:= [_,_,_,_,_]) hS) ?_;rintro _ w ⟨g1,rfl,hS⟩
  replace hS:=hS.n1
  refine zs2 ?_
  refine zlz ?_
  refine zlv (xfb 4 fd_175_4) ?_
  refine zlv (xlb 0 pl_27 hS) ?_
  refine zlv xmv ?_
  refine zlv (xix (kk:=r) sl_27 hT.C.row.slh) ?_
  refine zlv (xlr (u:=(vv r)) pl_22 (hT.C.row.below hS.below)) ?_
  refine zlv xmv ?_
  refine zlv (xix (kk:=s) sl_22 (hT.C.p r (by omega) (by omega)).slh) ?_
  refine zlv (xlr (u:= .int .i64 ((t.C r) s)) pl_3 ((hT.C.p r (by omega) (by omega)).below hS.below)) ?_
  refine zlv xas ?_
  refine zlt<|zsq<|zbk<|zsr ?_
  refine zs4 ?_
  refine zlb 26 ?_ ?_<;>intro hc
  ·
   refine zs5 ?_
   refine zlt ?_
   refine zcif ?_ ?_<;>intro hc
   ·
    refine zsr ?_
    refine zlv (xfb 1 fd_175_1) ?_
    refine zlv (xlb 0 pl_3 hS) ?_
    refine zs2 ?_
    refine zlt<|zrt<|zbr<|ztr<|zf2 ⟨_,rfl,?_⟩
    skip
    exact⟨(_),_,rfl,by unfold Zz;first|exact(if_pos ⟨by omega,by omega⟩).symm|(rw [if_neg (by omega)];exact(if_pos (by omega)).symm)|(rw [if_neg (by omega),if_neg (by omega)];exact(if_pos (by omega)).symm),ZU (fun h1 h2=>by omega),hS.nl⟩
   refine zsr ?_
   refine zs2 ?_
   refine zlv (xkt Yi) ?_
   refine zlv xas ?_
   refine zlt<|zct<|zsr ?_
   refine zlv (xfb 4 fd_175_4) ?_
   refine zlv (xlb 0 pl_27 hS) ?_
   refine zlv xmv ?_
   refine zlv (xix (kk:=r) sl_27 hT.C.row.slh) ?_
   refine zlv (xlr (u:=(vv r)) pl_22 (hT.C.row.below hS.below)) ?_
   refine zlv xmv ?_
   refine zlv (xix (kk:=j) sl_22 (hT.C.p r (by omega) (by omega)).slh) ?_
   refine zlv (xlr (u:= .int .i64 ((t.C r) j)) pl_3 ((hT.C.p r (by omega) (by omega)).below hS.below)) ?_
   refine zlv (xneg (r:= -(((t.C r) j)))) ?_
   refine zs2 ?_
   refine zlt<|zrt<|zbr<|ztr<|zf2 ⟨_,rfl,?_⟩
   obtain rfl:i=r:=by omega
   skip
   exact⟨(_),_,rfl,by unfold Zz;first|exact(if_pos ⟨by omega,by omega⟩).symm|(rw [if_neg (by omega)];exact(if_pos (by omega)).symm)|(rw [if_neg (by omega),if_neg (by omega)];exact(if_pos (by omega)).symm),ZU (fun h1 h2=>by omega),hS.nl⟩
  iterate 3 refine zlo ?_
  refine zs2 ?_
  refine zlt<|zcf<|zsr ?_
  refine zs4 ?_
  refine zlt ?_
  refine zcif ?_ ?_<;>intro hc
  ·
   exfalso;omega
  refine zsr ?_
  refine zs4 ?_
  refine zlt ?_
  refine zcif ?_ ?_<;>intro hc
  ·
   refine zsr ?_
   refine zlv (xfb 4 fd_175_4) ?_
   refine zlv (xlb 0 pl_27 hS) ?_
   refine zlv xmv ?_
   refine zlv (xix (kk:=i) sl_27 hT.C.row.slh) ?_
   refine zlv (xlr (u:=(vv i)) pl_22 (hT.C.row.below hS.below)) ?_
   refine zlv xmv ?_
   refine zlv (xix (kk:=s) sl_22 (hT.C.p i (by omega) (by omega)).slh) ?_
   refine zlv (xlr (u:= .int .i64 ((t.C i) s)) pl_3 ((hT.C.p i (by omega) (by omega)).below hS.below)) ?_
   refine zs2 ?_
   refine zlt<|zrt<|zbr<|ztr<|zf2 ⟨_,rfl,?_⟩
   obtain rfl:j=s:=by omega
   skip
   exact⟨(_),_,rfl,by unfold Zz;first|exact(if_pos ⟨by omega,by omega⟩).symm|(rw [if_neg (by omega)];exact(if_pos (by omega)).symm)|(rw [if_neg (by omega),if_neg (by omega)];exact(if_pos (by omega)).symm),ZU (fun h1 h2=>by omega),hS.nl⟩
  refine zsk<|zbn<|ztn<|zsq ?_
  refine zdst [0] [0] 1000 mx_ hS ?_;clear hS;intro w hS
  refine zDrv 0 xmv ?_
  refine zDrv 1 (xfb 4 fd_175_4) ?_
  refine zdla 2 (fun w hS=>(xlb 0 pl_27 hS)) ?_
  refine zDrv 3 xmv ?_
  refine zDrv 4 (xix (kk:=i) sl_27 hT.C.row.slh) ?_
  refine zdla 5 (fun w hS=>(xlr (u:=(vv i)) pl_22 (hT.C.row.below hS.below))) ?_
  refine zDrv 6 xmv ?_
  refine zDrv 7 (xix (kk:=j) sl_22 (hT.C.p i (by omega) (by omega)).slh) ?_
  refine zdla 8 (fun w hS=>(xlr (u:= .int .i64 ((t.C i) j)) pl_3 ((hT.C.p i (by omega) (by omega)).below hS.below))) ?_
  refine zdv 9 (fun _=>(xmul (r:=(((t.C r) s)*((t.C i) j))) (e:=rfl))) ?_
  refine zDrv 10 (xfb 4 fd_175_4) ?_
  refine zdla 11 (fun w hS=>(xlb 0 pl_27 hS)) ?_
  refine zDrv 12 xmv ?_
  refine zDrv 13 (xix (kk:=i) sl_27 hT.C.row.slh) ?_
  refine zdla 14 (fun w hS=>(xlr (u:=(vv i)) pl_22 (hT.C.row.below hS.below))) ?_
  refine zDrv 15 xmv ?_
  refine zDrv 16 (xix (kk:=s) sl_22 (hT.C.p i (by omega) (by omega)).slh) ?_
  refine zdla 17 (fun w hS=>(xlr (u:= .int .i64 ((t.C i) s)) pl_3 ((hT.C.p i (by omega) (by omega)).below hS.below))) ?_
  refine zDrv 18 (xfb 4 fd_175_4) ?_
  refine zdla 19 (fun w hS=>(xlb 0 pl_27 hS)) ?_
  refine zDrv 20 xmv ?_
  refine zDrv 21 (xix (kk:=r) sl_27 hT.C.row.slh) ?_
  refine zdla 22 (fun w hS=>(xlr (u:=(vv r)) pl_22 (hT.C.row.below hS.below))) ?_
  refine zDrv 23 xmv ?_
  refine zDrv 24 (xix (kk:=j) sl_22 (hT.C.p r (by omega) (by omega)).slh) ?_
  refine zdla 25 (fun w hS=>(xlr (u:= .int .i64 ((t.C r) j)) pl_3 ((hT.C.p r (by omega) (by omega)).below hS.below))) ?_
  refine zdv 26 (fun _=>(xmul (r:=(((t.C i) s)*((t.C r) j))) (e:=rfl))) ?_
  refine zdv 27 (fun _=>(xsub (r:=(((t.C r) s)*((t.C i) j))-(((t.C i) s)*((t.C r) j))))) ?_
  refine zDrv 28 xas ?_
  refine zdd<|ztn<|zsq ?_
  refine zdst [0] [0] 1000 mx_ hS ?_;clear hS;intro w hS
  refine zDrv 0 xmv ?_
  refine zDrv 1 (xfb 1 fd_175_1) ?_
  refine zdla 2 (fun w hS=>(xlb 0 pl_3 hS)) ?_
  refine zdv 3 (fun _=>(Um (r:=(Int.tdiv ((((t.C r) s)*((t.C i) j))-(((t.C i) s)*((t.C r) j))) t.den)))) ?_
  refine zDrv 4 xmv ?_
  refine zDrv 5 (xfb 1 fd_175_1) ?_
  refine zdla 6 (fun w hS=>(xlb 0 pl_3 hS)) ?_
  refine zdv 7 (fun _=>(xrem (r:=(Int.tmod ((((t.C r) s)*((t.C i) j))-(((t.C i) s)*((t.C r) j))) t.den)))) ?_
  refine zDrv 8 Yi ?_
  refine zDrv 9 xas ?_
  refine zDrv 10 xas ?_
  refine zdd<|ztn<|zrt<|zf2 ⟨_,rfl,?_⟩
  exact⟨_,_,rfl,by unfold Zz;rw [if_neg (by omega),if_neg (by omega),if_neg (by omega)],Zq ⟨fun h _ _=>h,fun h=>h (by omega) (by omega)⟩,hS.nl⟩
theorem KR {t:Tb} {row col:Int} (ha:WE t row col) (hb:∀a b,0<=a->a<=t.nb->0<=b->b<=t.nf-> -1073741824<=Zz t (row+1) (col+1) a b/\Zz t (row+1) (col+1) a b<=1073741824):TPrp (piv t row col):=by
  obtain⟨hp,r0,r1,c0,c1,hne⟩:=ha
  have hcl:=hp.cell (i:=row+1) (j:=col+1) (by omega) (by omega) (by omega) (by omega)
  have hs:=Wt (t.C (row+1) (col+1))
  have hden:1<=(piv t row col).den/\(piv t row col).den<=1073741824:=by
    rw [WD];unfold sg;split<;>omega
  have hcc:=hp.c
  refine⟨hp.n1,hp.n2,hp.m2,hp.v,hden.1,hden.2,hp.c,?_,fun i i0 i1=>⟨(hp.rows i i0 i1).1,fun j j0 j1=> ?_⟩⟩
  · have tr:∀i,0<=i->i<t.nf+t.nb->∃k,0<=k/\k<t.nf+t.nb/\cat t.nf (upd t.F col (t.B row)) (upd t.B row (t.F col)) i=cat t.nf t.F t.B k/\(i=col->k=t.nf+row)/\(i=t.nf+row->k=col)/\(i≠col->i≠t.nf+row->k=i):=fun i i0 i1=>by
      by_cases e1:i=col
      · refine⟨t.nf+row,by omega,by omega,?_,fun _=>rfl,fun h=>by omega,fun h=>absurd e1 h⟩
        unfold cat;rw [if_pos (by omega),if_neg (by omega),e1,ZA];congr 1;omega
      · by_cases e2:i=t.nf+row
        · refine⟨col,by omega,by omega,?_,fun h=>by omega,fun _=>rfl,fun _ h=>absurd e2 h⟩
          unfold cat;rw [if_neg (by omega),if_pos (by omega),e2,show t.nf+row-t.nf=row by omega,ZA]
        · refine⟨i,by omega,by omega,?_,fun h=>by omega,fun h=>by omega,fun _ _=>rfl⟩
          unfold cat;split
          · rw [upd_ne _ _ e1]
          · rw [upd_ne _ _ (by omega)]
    refine⟨fun i i0 i1=> ?_,fun i j i0 i1 j0 j1 e=> ?_⟩
    · obtain⟨k,k0,k1,e,_⟩:=tr i i0 i1
      have:=hp.perm.1 k k0 k1
      have h3:0<=cat t.nf (upd t.F col (t.B row)) (upd t.B row (t.F col)) i/\cat t.nf (upd t.F col (t.B row)) (upd t.B row (t.F col)) i<t.nf+t.nb:=by rw [e];exact this
      exact h3
    · obtain⟨k,k0,k1,e1,x1,x2,x3⟩:=tr i i0 i1
      obtain⟨q,q0,q1,e2,y1,y2,y3⟩:=tr j j0 j1
      have:=hp.perm.2 k q k0 k1 q0 q1 (by rw [<-e1,<-e2];exact e)
      by_cases a1:i=col<;>by_cases a2:i=t.nf+row<;>by_cases b1:j=col<;>by_cases b2:j=t.nf+row<;>simp only [a1,a2,b1,b2,true_implies,false_implies,not_true,not_false_eq_true,ne_eq] at x1 x2 x3 y1 y2 y3<;>omega
  · have h1:t.ln i=t.nf+1:=(hp.rows i i0 i1).1
    have j2:j<t.ln i:=j1
    have i2:i<t.nc:=i1
    have:=hb i j i0 (by omega) j0 (by omega)
    rw [YN]
    rcases hs with h|h<;>rw [h]<;>omega
set_option maxHeartbeats 4000000 in
set_option maxRecDepth 20000 in
theorem ZcE {vB vF vC:Value} {vv:Int->Value} {t:Tb} {row col:Int} (w0:World) (hT:TAt w0 vB vF vC vv t) (hrow0: -9223372036854775808<=row/\row<=9223372036854775807) (hcol0: -9223372036854775808<=col/\col<=9223372036854775807):
    Calls Tryz.prog 160 [.agg #[.int .i64 t.vars,.int .i64 t.den,vB,vF,vC],.int .i64 row,.int .i64 col].toArray w0 fun e w=>∃v,e= .returned v/\∃vB vF vC vv t' e,v= .tuple #[.agg #[.int .i64 t'.vars,.int .i64 t'.den,vB,vF,vC],.int .i64 e]/\PivR t row col t' e/\Slh vB t'.nb/\Slh vF t'.nf/\Slh vC t'.nc/\Sat w0 w [.own vB 1 3 t'.nb (ints t'.B),.own vF 1 3 t'.nf (ints t'.F),.own vC 1 22 t'.nc vv,.sem (Frame.rows 3 t'.nc vv t'.ln t'.C)]:=by
  have hn:=hT.F.slh.n0;have hn1:=hT.F.slh.n1;have hb:=hT.B.slh.n0;have hb1:=hT.B.slh.n1;have hc0:=hT.C.row.slh.n0;have hc1:=hT.C.row.slh.n1
  refine Zj Tryz.func160 Tryz.ntmps160 fun w hS=> ?_
  refine zsr ?_
  refine zla (xbx (cs:= [_,_,_,_,_]) hS) ?_;rintro _ w ⟨g1,rfl,hS⟩
  replace hS:=hS.n1
  refine zla (xal (cs:= [_,_,_,_,_]) ZG hS) ?_;rintro _ w ⟨g2,rfl,hS⟩
  replace hS:=hS.n2
  refine zlv xas ?_
  refine zx5 ?_
  refine zlv (xls 0 st_175 hS) ?_
  refine zlc (xc0 Zcj) (U1 (t:=t) w (hT.below hS.below)) ?_;rintro _ w ⟨rfl,hS'⟩
  replace hS:=hS.cmp hS';clear hS'
  refine zs2 ?_
  refine zlb 21 ?_ ?_<;>intro hc;rotate_left
  refine zlv xmv ?_
  have hp:TPrp t:=by first|assumption|exact Classical.not_not.1 ‹¬¬(TPrp t)›
  have b1:=hp.n1
  have b2:=hp.n2
  have b3:=hp.m2
  have b4:=hp.v
  have b5:=hp.d1
  have b6:=hp.d2
  have b7:=hp.c
  have hl0:=hp.len (i:=0) (by omega) (by omega)
  refine zs3 ?_
  refine zlb 25 ?_ ?_<;>intro hc;rotate_left
  refine zlv xmv ?_
  refine zlv (xfb 2 fd_175_2) ?_
  refine zlv (xlb 0 pl_22 hS) ?_
  refine zlv (xln sl_22 hT.B.slh) ?_
  refine zs3 ?_
  refine zlb 32 ?_ ?_<;>intro hc;rotate_left
  refine zs4 ?_
  refine zlb 36 ?_ ?_<;>intro hc;rotate_left
  refine zlv xmv ?_
  refine zlv (xfb 3 fd_175_3) ?_
  refine zlv (xlb 0 pl_22 hS) ?_
  refine zlv (xln sl_22 hT.F.slh) ?_
  refine zs3 ?_
  refine zlb 43 ?_ ?_<;>intro hc;rotate_left
  refine zlv (xfb 4 fd_175_4) ?_
  refine zlv (xlb 0 pl_27 hS) ?_
  refine zlv xmv ?_
  refine zlv (xadd (r:=row+1)) ?_
  refine zlv (xix (kk:=row+1) sl_27 hT.C.row.slh) ?_
  refine zlv (xlr (u:=(vv (row+1))) pl_22 (hT.C.row.below hS.below)) ?_
  refine zlv xmv ?_
  have hlr:=hp.len (i:=row+1) (by omega) (by omega)
  refine zlv (xadd (r:=col+1)) ?_
  refine zlv (xix (kk:=col+1) sl_22 (hT.C.p (row+1) (by omega) (by omega)).slh) ?_
  refine zlv (xlr (u:= .int .i64 ((t.C (row+1)) (col+1))) pl_3 ((hT.C.p (row+1) (by omega) (by omega)).below hS.below)) ?_
  refine zs2 ?_
  refine zlt ?_
  refine zcif ?_ ?_<;>intro hc
  ·
   refine zsr ?_
   refine zlv (xany (v:= .agg #[.int .i64 0,.int .i64 0,.slice none 0 0,.slice none 0 0,.slice none 0 0])) ?_
   refine zle (xsw 1 st_175 hS) ?_;clear hS;rintro w hS
   replace hS:=hS.n2
   refine zlv xas ?_
   refine zx14<|ZI 1 st_175 hS ⟨_,rfl,?_⟩
   exact⟨_,_,_,fun _=>undef,Tb.zero,1,rfl,.inl ⟨by first|exact fun hh=>absurd hh.1 ‹_›|(rintro⟨_,p1,p2,p3,p4,p5⟩;omega),rfl,rfl⟩,slh_nil,slh_nil,slh_nil,((((hS.sub (.cons _ (.cons _ .slnil))).addnil 1 3 (ints Tb.zero.B)).addnil 1 3 (ints Tb.zero.F)).addnil 1 22 (fun _=>undef)).addrows 3 (fun _=>undef) Tb.zero.ln Tb.zero.C⟩
  refine ZR ?_
  refine zlv xmv ?_
  have hnz:t.C (row+1) (col+1)≠0:=by omega
  have hpb:=hp.cell (i:=row+1) (j:=col+1) (by omega) (by omega) (by omega) (by omega)
  refine zlv (xadd (r:=row+1)) ?_
  refine zlv xmv ?_
  refine zlv (xadd (r:=col+1)) ?_
  refine zs2 ?_
  refine zlz ?_
  refine zlv xas ?_
  refine zx5 ?_
  refine zlv (xfb 4 fd_175_4) ?_
  refine zlv (xlb 0 pl_27 hS) ?_
  refine zlv xmv ?_
  refine zlv (xix (kk:=row+1) sl_27 hT.C.row.slh) ?_
  refine zlv (xlr (u:=(vv (row+1))) pl_22 (hT.C.row.below hS.below)) ?_
  refine zlv xmv ?_
  refine zlv (xix (kk:=col+1) sl_22 (hT.C.p (row+1) (by omega) (by omega)).slh) ?_
  refine zlv (xlr (u:= .int .i64 ((t.C (row+1)) (col+1))) pl_3 ((hT.C.p (row+1) (by omega) (by omega)).below hS.below)) ?_
  refine zlv xlss ?_
  refine zlt ?_
  refine zcif ?_ ?_<;>intro hc
  ·
   refine zrg ?_
   refine zlv xas ?_
   refine zx7 ?_
   refine zgcut (fun M w=>∃(g3:Nat) (v1:Value) (v2:Value) (v3:Value) (v4:Value),(Slh v2 t.nb)/\(Slh v4 t.nf)/\M= [(0,.agg #[.int .i64 t.vars,.int .i64 t.den,vB,vF,vC]),(1,.int .i64 row),(2,.int .i64 col),(3,.pointer (some ⟨g1,0,none⟩)),(6,.pointer (some ⟨g2,0,none⟩)),(7,.int .i64 0),(18,.agg #[.int .i64 t.vars,.int .i64 t.den,vB,vF,vC]),(19,B (TPrp t)),(20,B (¬(TPrp t))),(21,.bool false),(22,.int .i64 row),(23,B (row<0)),(24,B (row<0)),(25,.bool false),(26,.int .i64 row),(27,.pointer (some ⟨g1,2,none⟩)),(28,vB),(29,.int .i64 t.nb),(30,B (t.nb<=row)),(31,B (t.nb<=row)),(32,.bool false),(33,.int .i64 col),(34,B (col<0)),(35,B (col<0)),(36,.bool false),(37,.int .i64 col),(38,.pointer (some ⟨g1,3,none⟩)),(39,vF),(40,.int .i64 t.nf),(41,B (t.nf<=col)),(42,B (t.nf<=col)),(43,.bool false),(44,.pointer (some ⟨g1,4,none⟩)),(45,vC),(46,.int .i64 row),(47,.int .i64 (row+1)),(48,.pointer (some (cad vC (row+1)))),(49,(vv (row+1))),(50,.int .i64 col),(51,.int .i64 (col+1)),(52,.pointer (some (cad (vv (row+1)) (col+1)))),(53,.int .i64 ((t.C (row+1)) (col+1))),(54,B (((t.C (row+1)) (col+1))=0)),(55,B (((t.C (row+1)) (col+1))=0)),(57,.int .i64 row),(58,.int .i64 (row+1)),(59,.int .i64 col),(60,.int .i64 (col+1)),(8,.int .i64 (row+1)),(9,.int .i64 (col+1)),(10,.int .i64 (-1)),(61,.pointer (some ⟨g1,4,none⟩)),(62,vC),(63,.int .i64 (row+1)),(64,.pointer (some (cad vC (row+1)))),(65,(vv (row+1))),(66,.int .i64 (col+1)),(67,.pointer (some (cad (vv (row+1)) (col+1)))),(68,.int .i64 ((t.C (row+1)) (col+1))),(69,B (((t.C (row+1)) (col+1))<0)),(70,.pointer (some ⟨g1,0,none⟩)),(71,.int .i64 t.vars),(72,.int .i64 (-1)),(73,.pointer (some ⟨g1,4,none⟩)),(74,vC),(75,.int .i64 (row+1)),(76,.pointer (some (cad vC (row+1)))),(77,(vv (row+1))),(78,.int .i64 (col+1)),(79,.pointer (some (cad (vv (row+1)) (col+1)))),(80,.int .i64 ((t.C (row+1)) (col+1))),(81,.int .i64 (-(((t.C (row+1)) (col+1))))),(83,.pointer (some ⟨g1,2,none⟩)),(84,vB),(87,.pointer (some ⟨g1,3,none⟩)),(88,vF),(82,v1),(85,v2),(86,v3),(89,v4),(90,.agg #[.int .i64 t.vars,.int .i64 (-(((t.C (row+1)) (col+1)))),v2,v4,.slice none 0 0]),(11,.pointer (some ⟨g3,0,none⟩))]/\Sat w0 w [.blk g1 [.int .i64 t.vars,.int .i64 t.den,vB,vF,vC],.blk g2 [.int .i64 0,.int .i64 0,.slice none 0 0,.slice none 0 0,.slice none 0 0],.own v2 1 3 t.nb (ints (cat 0 (fun _=>0) t.B)),.own v4 1 3 t.nf (ints (cat 0 (fun _=>0) t.F)),.blk g3 [.int .i64 t.vars,.int .i64 (-(((t.C (row+1)) (col+1)))),v2,v4,.slice none 0 0]]) ?_ ?_
   ·
    refine zdst [0,1] [0,1] 22 mx_ hS ?_;clear hS;intro w hS
    refine zDrv 0 (xfb 0 fd_175_0) ?_
    refine zdla 1 (fun w hS=>(xlb 0 pl_3 hS)) ?_
    refine zDrv 2 xmv ?_
    refine zDrv 3 (xfb 4 fd_175_4) ?_
    refine zdla 4 (fun w hS=>(xlb 0 pl_27 hS)) ?_
    refine zDrv 5 xmv ?_
    refine zDrv 6 (xix (kk:=row+1) sl_27 hT.C.row.slh) ?_
    refine zdla 7 (fun w hS=>(xlr (u:=(vv (row+1))) pl_22 (hT.C.row.below hS.below))) ?_
    refine zDrv 8 xmv ?_
    refine zDrv 9 (xix (kk:=col+1) sl_22 (hT.C.p (row+1) (by omega) (by omega)).slh) ?_
    refine zdla 10 (fun w hS=>(xlr (u:= .int .i64 ((t.C (row+1)) (col+1))) pl_3 ((hT.C.p (row+1) (by omega) (by omega)).below hS.below))) ?_
    refine zdv 11 (fun _=>(xmul (r:= -(((t.C (row+1)) (col+1)))))) ?_
    refine zDrv 13 (xfb 2 fd_175_2) ?_
    refine zdla 14 (fun w hS=>(xlb 0 pl_22 hS)) ?_
    refine zDrv 17 (xfb 3 fd_175_3) ?_
    refine zdla 18 (fun w hS=>(xlb 0 pl_22 hS)) ?_
    refine Z9 (r:= [12,16,21]) ((Zt ?_ (Zt ?_ (Zt ?_ Z8))))
    ·
     refine zka (xl0 (c:=ints (fun _=>0)) sl_22 hS) ?_;rintro v1 w ⟨hS,hv1⟩
     replace hS:=hS.n3
     refine⟨⟨fun _=>hS.pk [0,1],hS.pk [0,1]⟩,?_⟩
     refine Z9 (r:= [15,16,21]) ((Zt ?_ (Zt ?_ (Zt ?_ Z8))))
     ·
      refine zka (xap 2 (r:=t.nb) (f:=ints (cat 0 (fun _=>0) t.B)) sl_22 el_3 hS (hT.B.below hS.below) (by exact Zg _ _ _)) ?_;rintro v2 w ⟨hS,hv2⟩
      replace hS:=hS.n3
      refine⟨⟨fun _=>hS.pk [0,1],hS.pk [0,1]⟩,?_⟩
      refine Z9 (r:= [16,21]) ((Zt ?_ (Zt ?_ Z8)))
      ·
       refine zka (xl0 (c:=ints (fun _=>0)) sl_22 hS) ?_;rintro v3 w ⟨hS,hv3⟩
       replace hS:=hS.n4
       refine⟨⟨fun _=>hS.pk [0,1],hS.pk [0,1]⟩,?_⟩
       refine Z9 (r:= [19,21]) ((Zt ?_ (Zt ?_ Z8)))
       ·
        refine zka (xap 3 (r:=t.nf) (f:=ints (cat 0 (fun _=>0) t.F)) sl_22 el_3 hS (hT.F.below hS.below) (by exact Zg _ _ _)) ?_;rintro v4 w ⟨hS,hv4⟩
        replace hS:=hS.n4
        refine⟨⟨fun _=>hS.pk [0,1],hS.pk [0,1]⟩,?_⟩
        refine zdv 20 (fun _=>(xany (v:= .agg #[.int .i64 t.vars,.int .i64 (-(((t.C (row+1)) (col+1)))),v2,v4,.slice none 0 0]) (hr:=by obtain⟨_,_,_,_,rfl,_⟩:=hv2;obtain⟨_,_,_,_,rfl,_⟩:=hv4;kernel_rfl))) ?_
        refine zda 21 (xal (cs:= [_,_,_,_,_]) ZG hS) ?_;rintro _ w ⟨g3,rfl,hS⟩
        replace hS:=hS.n5
        refine⟨⟨fun _=>hS.pk [0,1],hS.pk [0,1]⟩,?_⟩
        refine zde 22 (xsw 4 st_175 hS (hd:=(Za rfl (Za rfl (Za hv2.one (Za hv4.one (Za rfl Zd))))))) ?_;clear hS;rintro w hS
        replace hS:=hS.n5
        refine⟨⟨fun h=>absurd h (by decide),hS.pk [0,1]⟩,?_⟩
        refine zdd<|zgj ⟨g3,v1,v2,v3,v4,hv2,hv4,rfl,hS⟩
       refine zka (xal (cs:= [_,_,_,_,_]) ZG hS) ?_;rintro _ w ⟨g3,rfl,hS⟩
       replace hS:=hS.n5
       refine⟨⟨fun _=>hS.pk [0,1],hS.pk [0,1]⟩,?_⟩
       refine zda 19 (xap 3 (r:=t.nf) (f:=ints (cat 0 (fun _=>0) t.F)) sl_22 el_3 hS (hT.F.below hS.below) (by exact Zg _ _ _)) ?_;rintro v4 w ⟨hS,hv4⟩
       replace hS:=hS.n5
       refine⟨⟨fun _=>hS.pk [0,1],hS.pk [0,1]⟩,?_⟩
       refine zdv 20 (fun _=>(xany (v:= .agg #[.int .i64 t.vars,.int .i64 (-(((t.C (row+1)) (col+1)))),v2,v4,.slice none 0 0]) (hr:=by obtain⟨_,_,_,_,rfl,_⟩:=hv2;obtain⟨_,_,_,_,rfl,_⟩:=hv4;kernel_rfl))) ?_
       refine zde 22 (xsw 4 st_175 hS (hd:=(Za rfl (Za rfl (Za hv2.one (Za hv4.one (Za rfl Zd))))))) ?_;clear hS;rintro w hS
       replace hS:=hS.n5
       refine⟨⟨fun h=>absurd h (by decide),hS.pk [0,1]⟩,?_⟩
       refine zdd<|zgj ⟨g3,v1,v2,v3,v4,hv2,hv4,rfl,hS⟩
      refine zka (xal (cs:= [_,_,_,_,_]) ZG hS) ?_;rintro _ w ⟨g3,rfl,hS⟩
      replace hS:=hS.n4
      refine⟨⟨fun _=>hS.pk [0,1],hS.pk [0,1]⟩,?_⟩
      refine zda 16 (xl0 (c:=ints (fun _=>0)) sl_22 hS) ?_;rintro v3 w ⟨hS,hv3⟩
      replace hS:=hS.n5
      refine⟨⟨fun _=>hS.pk [0,1],hS.pk [0,1]⟩,?_⟩
      refine zda 19 (xap 4 (r:=t.nf) (f:=ints (cat 0 (fun _=>0) t.F)) sl_22 el_3 hS (hT.F.below hS.below) (by exact Zg _ _ _)) ?_;rintro v4 w ⟨hS,hv4⟩
      replace hS:=hS.n5
      refine⟨⟨fun _=>hS.pk [0,1],hS.pk [0,1]⟩,?_⟩
      refine zdv 20 (fun _=>(xany (v:= .agg #[.int .i64 t.vars,.int .i64 (-(((t.C (row+1)) (col+1)))),v2,v4,.slice none 0 0]) (hr:=by obtain⟨_,_,_,_,rfl,_⟩:=hv2;obtain⟨_,_,_,_,rfl,_⟩:=hv4;kernel_rfl))) ?_
      refine zde 22 (xsw 3 st_175 hS (hd:=(Za rfl (Za rfl (Za hv2.one (Za hv4.one (Za rfl Zd))))))) ?_;clear hS;rintro w hS
      replace hS:=hS.n5
      refine⟨⟨fun h=>absurd h (by decide),hS.pk [0,1]⟩,?_⟩
      refine zdd<|zgj ⟨g3,v1,v2,v3,v4,hv2,hv4,rfl,hS.pk [0,1,2,4,3]⟩
     ·
      refine zka (xl0 (c:=ints (fun _=>0)) sl_22 hS) ?_;rintro v2 w ⟨hS,hv2⟩
      replace hS:=hS.n4
      refine⟨⟨fun _=>hS.pk [0,1],hS.pk [0,1]⟩,?_⟩
      refine Z9 (r:= [15,21]) ((Zt ?_ (Zt ?_ Z8)))
      ·
       refine zka (xap 2 (r:=t.nb) (f:=ints (cat 0 (fun _=>0) t.B)) sl_22 el_3 hS (hT.B.below hS.below) (by exact Zg _ _ _)) ?_;rintro v3 w ⟨hS,hv3⟩
       replace hS:=hS.n4
       refine⟨⟨fun _=>hS.pk [0,1],hS.pk [0,1]⟩,?_⟩
       refine Z9 (r:= [19,21]) ((Zt ?_ (Zt ?_ Z8)))
       ·
        refine zka (xap 3 (r:=t.nf) (f:=ints (cat 0 (fun _=>0) t.F)) sl_22 el_3 hS (hT.F.below hS.below) (by exact Zg _ _ _)) ?_;rintro v4 w ⟨hS,hv4⟩
        replace hS:=hS.n4
        refine⟨⟨fun _=>hS.pk [0,1],hS.pk [0,1]⟩,?_⟩
        refine zdv 20 (fun _=>(xany (v:= .agg #[.int .i64 t.vars,.int .i64 (-(((t.C (row+1)) (col+1)))),v3,v4,.slice none 0 0]) (hr:=by obtain⟨_,_,_,_,rfl,_⟩:=hv3;obtain⟨_,_,_,_,rfl,_⟩:=hv4;kernel_rfl))) ?_
        refine zda 21 (xal (cs:= [_,_,_,_,_]) ZG hS) ?_;rintro _ w ⟨g3,rfl,hS⟩
        replace hS:=hS.n5
        refine⟨⟨fun _=>hS.pk [0,1],hS.pk [0,1]⟩,?_⟩
        refine zde 22 (xsw 4 st_175 hS (hd:=(Za rfl (Za rfl (Za hv3.one (Za hv4.one (Za rfl Zd))))))) ?_;clear hS;rintro w hS
        replace hS:=hS.n5
        refine⟨⟨fun h=>absurd h (by decide),hS.pk [0,1]⟩,?_⟩
        refine zdd<|zgj ⟨g3,v1,v3,v2,v4,hv3,hv4,rfl,hS⟩
       refine zka (xal (cs:= [_,_,_,_,_]) ZG hS) ?_;rintro _ w ⟨g3,rfl,hS⟩
       replace hS:=hS.n5
       refine⟨⟨fun _=>hS.pk [0,1],hS.pk [0,1]⟩,?_⟩
       refine zda 19 (xap 3 (r:=t.nf) (f:=ints (cat 0 (fun _=>0) t.F)) sl_22 el_3 hS (hT.F.below hS.below) (by exact Zg _ _ _)) ?_;rintro v4 w ⟨hS,hv4⟩
       replace hS:=hS.n5
       refine⟨⟨fun _=>hS.pk [0,1],hS.pk [0,1]⟩,?_⟩
       refine zdv 20 (fun _=>(xany (v:= .agg #[.int .i64 t.vars,.int .i64 (-(((t.C (row+1)) (col+1)))),v3,v4,.slice none 0 0]) (hr:=by obtain⟨_,_,_,_,rfl,_⟩:=hv3;obtain⟨_,_,_,_,rfl,_⟩:=hv4;kernel_rfl))) ?_
       refine zde 22 (xsw 4 st_175 hS (hd:=(Za rfl (Za rfl (Za hv3.one (Za hv4.one (Za rfl Zd))))))) ?_;clear hS;rintro w hS
       replace hS:=hS.n5
       refine⟨⟨fun h=>absurd h (by decide),hS.pk [0,1]⟩,?_⟩
       refine zdd<|zgj ⟨g3,v1,v3,v2,v4,hv3,hv4,rfl,hS⟩
      refine zka (xal (cs:= [_,_,_,_,_]) ZG hS) ?_;rintro _ w ⟨g3,rfl,hS⟩
      replace hS:=hS.n5
      refine⟨⟨fun _=>hS.pk [0,1],hS.pk [0,1]⟩,?_⟩
      refine zda 15 (xap 2 (r:=t.nb) (f:=ints (cat 0 (fun _=>0) t.B)) sl_22 el_3 hS (hT.B.below hS.below) (by exact Zg _ _ _)) ?_;rintro v3 w ⟨hS,hv3⟩
      replace hS:=hS.n5
      refine⟨⟨fun _=>hS.pk [0,1],hS.pk [0,1]⟩,?_⟩
      refine zda 19 (xap 3 (r:=t.nf) (f:=ints (cat 0 (fun _=>0) t.F)) sl_22 el_3 hS (hT.F.below hS.below) (by exact Zg _ _ _)) ?_;rintro v4 w ⟨hS,hv4⟩
      replace hS:=hS.n5
      refine⟨⟨fun _=>hS.pk [0,1],hS.pk [0,1]⟩,?_⟩
      refine zdv 20 (fun _=>(xany (v:= .agg #[.int .i64 t.vars,.int .i64 (-(((t.C (row+1)) (col+1)))),v3,v4,.slice none 0 0]) (hr:=by obtain⟨_,_,_,_,rfl,_⟩:=hv3;obtain⟨_,_,_,_,rfl,_⟩:=hv4;kernel_rfl))) ?_
      refine zde 22 (xsw 4 st_175 hS (hd:=(Za rfl (Za rfl (Za hv3.one (Za hv4.one (Za rfl Zd))))))) ?_;clear hS;rintro w hS
      replace hS:=hS.n5
      refine⟨⟨fun h=>absurd h (by decide),hS.pk [0,1]⟩,?_⟩
      refine zdd<|zgj ⟨g3,v1,v3,v2,v4,hv3,hv4,rfl,hS⟩
     refine zka (xal (cs:= [_,_,_,_,_]) ZG hS) ?_;rintro _ w ⟨g3,rfl,hS⟩
     replace hS:=hS.n4
     refine⟨⟨fun _=>hS.pk [0,1],hS.pk [0,1]⟩,?_⟩
     refine Z9 (r:= [15,16]) ((Zt ?_ (Zt ?_ Z8)))
     ·
      refine zka (xap 2 (r:=t.nb) (f:=ints (cat 0 (fun _=>0) t.B)) sl_22 el_3 hS (hT.B.below hS.below) (by exact Zg _ _ _)) ?_;rintro v2 w ⟨hS,hv2⟩
      replace hS:=hS.n4
      refine⟨⟨fun _=>hS.pk [0,1],hS.pk [0,1]⟩,?_⟩
      refine zda 16 (xl0 (c:=ints (fun _=>0)) sl_22 hS) ?_;rintro v3 w ⟨hS,hv3⟩
      replace hS:=hS.n5
      refine⟨⟨fun _=>hS.pk [0,1],hS.pk [0,1]⟩,?_⟩
      refine zda 19 (xap 4 (r:=t.nf) (f:=ints (cat 0 (fun _=>0) t.F)) sl_22 el_3 hS (hT.F.below hS.below) (by exact Zg _ _ _)) ?_;rintro v4 w ⟨hS,hv4⟩
      replace hS:=hS.n5
      refine⟨⟨fun _=>hS.pk [0,1],hS.pk [0,1]⟩,?_⟩
      refine zdv 20 (fun _=>(xany (v:= .agg #[.int .i64 t.vars,.int .i64 (-(((t.C (row+1)) (col+1)))),v2,v4,.slice none 0 0]) (hr:=by obtain⟨_,_,_,_,rfl,_⟩:=hv2;obtain⟨_,_,_,_,rfl,_⟩:=hv4;kernel_rfl))) ?_
      refine zde 22 (xsw 3 st_175 hS (hd:=(Za rfl (Za rfl (Za hv2.one (Za hv4.one (Za rfl Zd))))))) ?_;clear hS;rintro w hS
      replace hS:=hS.n5
      refine⟨⟨fun h=>absurd h (by decide),hS.pk [0,1]⟩,?_⟩
      refine zdd<|zgj ⟨g3,v1,v2,v3,v4,hv2,hv4,rfl,hS.pk [0,1,2,4,3]⟩
     refine zka (xl0 (c:=ints (fun _=>0)) sl_22 hS) ?_;rintro v2 w ⟨hS,hv2⟩
     replace hS:=hS.n5
     refine⟨⟨fun _=>hS.pk [0,1],hS.pk [0,1]⟩,?_⟩
     refine zda 15 (xap 2 (r:=t.nb) (f:=ints (cat 0 (fun _=>0) t.B)) sl_22 el_3 hS (hT.B.below hS.below) (by exact Zg _ _ _)) ?_;rintro v3 w ⟨hS,hv3⟩
     replace hS:=hS.n5
     refine⟨⟨fun _=>hS.pk [0,1],hS.pk [0,1]⟩,?_⟩
     refine zda 19 (xap 4 (r:=t.nf) (f:=ints (cat 0 (fun _=>0) t.F)) sl_22 el_3 hS (hT.F.below hS.below) (by exact Zg _ _ _)) ?_;rintro v4 w ⟨hS,hv4⟩
     replace hS:=hS.n5
     refine⟨⟨fun _=>hS.pk [0,1],hS.pk [0,1]⟩,?_⟩
     refine zdv 20 (fun _=>(xany (v:= .agg #[.int .i64 t.vars,.int .i64 (-(((t.C (row+1)) (col+1)))),v3,v4,.slice none 0 0]) (hr:=by obtain⟨_,_,_,_,rfl,_⟩:=hv3;obtain⟨_,_,_,_,rfl,_⟩:=hv4;kernel_rfl))) ?_
     refine zde 22 (xsw 3 st_175 hS (hd:=(Za rfl (Za rfl (Za hv3.one (Za hv4.one (Za rfl Zd))))))) ?_;clear hS;rintro w hS
     replace hS:=hS.n5
     refine⟨⟨fun h=>absurd h (by decide),hS.pk [0,1]⟩,?_⟩
     refine zdd<|zgj ⟨g3,v1,v3,v2,v4,hv3,hv4,rfl,hS.pk [0,1,2,4,3]⟩
    ·
     refine zka (xl0 (c:=ints (fun _=>0)) sl_22 hS) ?_;rintro v1 w ⟨hS,hv1⟩
     replace hS:=hS.n3
     refine⟨⟨fun _=>hS.pk [0,1],hS.pk [0,1]⟩,?_⟩
     refine Z9 (r:= [12,21]) ((Zt ?_ (Zt ?_ Z8)))
     ·
      refine zka (xl0 (c:=ints (fun _=>0)) sl_22 hS) ?_;rintro v2 w ⟨hS,hv2⟩
      replace hS:=hS.n4
      refine⟨⟨fun _=>hS.pk [0,1],hS.pk [0,1]⟩,?_⟩
      refine Z9 (r:= [15,21]) ((Zt ?_ (Zt ?_ Z8)))
      ·
       refine zka (xap 3 (r:=t.nb) (f:=ints (cat 0 (fun _=>0) t.B)) sl_22 el_3 hS (hT.B.below hS.below) (by exact Zg _ _ _)) ?_;rintro v3 w ⟨hS,hv3⟩
       replace hS:=hS.n4
       refine⟨⟨fun _=>hS.pk [0,1],hS.pk [0,1]⟩,?_⟩
       refine Z9 (r:= [19,21]) ((Zt ?_ (Zt ?_ Z8)))
       ·
        refine zka (xap 2 (r:=t.nf) (f:=ints (cat 0 (fun _=>0) t.F)) sl_22 el_3 hS (hT.F.below hS.below) (by exact Zg _ _ _)) ?_;rintro v4 w ⟨hS,hv4⟩
        replace hS:=hS.n4
        refine⟨⟨fun _=>hS.pk [0,1],hS.pk [0,1]⟩,?_⟩
        refine zdv 20 (fun _=>(xany (v:= .agg #[.int .i64 t.vars,.int .i64 (-(((t.C (row+1)) (col+1)))),v3,v4,.slice none 0 0]) (hr:=by obtain⟨_,_,_,_,rfl,_⟩:=hv3;obtain⟨_,_,_,_,rfl,_⟩:=hv4;kernel_rfl))) ?_
        refine zda 21 (xal (cs:= [_,_,_,_,_]) ZG hS) ?_;rintro _ w ⟨g3,rfl,hS⟩
        replace hS:=hS.n5
        refine⟨⟨fun _=>hS.pk [0,1],hS.pk [0,1]⟩,?_⟩
        refine zde 22 (xsw 4 st_175 hS (hd:=(Za rfl (Za rfl (Za hv3.one (Za hv4.one (Za rfl Zd))))))) ?_;clear hS;rintro w hS
        replace hS:=hS.n5
        refine⟨⟨fun h=>absurd h (by decide),hS.pk [0,1]⟩,?_⟩
        refine zdd<|zgj ⟨g3,v2,v3,v1,v4,hv3,hv4,rfl,hS.pk [0,1,3,2,4]⟩
       refine zka (xal (cs:= [_,_,_,_,_]) ZG hS) ?_;rintro _ w ⟨g3,rfl,hS⟩
       replace hS:=hS.n5
       refine⟨⟨fun _=>hS.pk [0,1],hS.pk [0,1]⟩,?_⟩
       refine zda 19 (xap 2 (r:=t.nf) (f:=ints (cat 0 (fun _=>0) t.F)) sl_22 el_3 hS (hT.F.below hS.below) (by exact Zg _ _ _)) ?_;rintro v4 w ⟨hS,hv4⟩
       replace hS:=hS.n5
       refine⟨⟨fun _=>hS.pk [0,1],hS.pk [0,1]⟩,?_⟩
       refine zdv 20 (fun _=>(xany (v:= .agg #[.int .i64 t.vars,.int .i64 (-(((t.C (row+1)) (col+1)))),v3,v4,.slice none 0 0]) (hr:=by obtain⟨_,_,_,_,rfl,_⟩:=hv3;obtain⟨_,_,_,_,rfl,_⟩:=hv4;kernel_rfl))) ?_
       refine zde 22 (xsw 4 st_175 hS (hd:=(Za rfl (Za rfl (Za hv3.one (Za hv4.one (Za rfl Zd))))))) ?_;clear hS;rintro w hS
       replace hS:=hS.n5
       refine⟨⟨fun h=>absurd h (by decide),hS.pk [0,1]⟩,?_⟩
       refine zdd<|zgj ⟨g3,v2,v3,v1,v4,hv3,hv4,rfl,hS.pk [0,1,3,2,4]⟩
      refine zka (xal (cs:= [_,_,_,_,_]) ZG hS) ?_;rintro _ w ⟨g3,rfl,hS⟩
      replace hS:=hS.n5
      refine⟨⟨fun _=>hS.pk [0,1],hS.pk [0,1]⟩,?_⟩
      refine zda 15 (xap 3 (r:=t.nb) (f:=ints (cat 0 (fun _=>0) t.B)) sl_22 el_3 hS (hT.B.below hS.below) (by exact Zg _ _ _)) ?_;rintro v3 w ⟨hS,hv3⟩
      replace hS:=hS.n5
      refine⟨⟨fun _=>hS.pk [0,1],hS.pk [0,1]⟩,?_⟩
      refine zda 19 (xap 2 (r:=t.nf) (f:=ints (cat 0 (fun _=>0) t.F)) sl_22 el_3 hS (hT.F.below hS.below) (by exact Zg _ _ _)) ?_;rintro v4 w ⟨hS,hv4⟩
      replace hS:=hS.n5
      refine⟨⟨fun _=>hS.pk [0,1],hS.pk [0,1]⟩,?_⟩
      refine zdv 20 (fun _=>(xany (v:= .agg #[.int .i64 t.vars,.int .i64 (-(((t.C (row+1)) (col+1)))),v3,v4,.slice none 0 0]) (hr:=by obtain⟨_,_,_,_,rfl,_⟩:=hv3;obtain⟨_,_,_,_,rfl,_⟩:=hv4;kernel_rfl))) ?_
      refine zde 22 (xsw 4 st_175 hS (hd:=(Za rfl (Za rfl (Za hv3.one (Za hv4.one (Za rfl Zd))))))) ?_;clear hS;rintro w hS
      replace hS:=hS.n5
      refine⟨⟨fun h=>absurd h (by decide),hS.pk [0,1]⟩,?_⟩
      refine zdd<|zgj ⟨g3,v2,v3,v1,v4,hv3,hv4,rfl,hS.pk [0,1,3,2,4]⟩
     refine zka (xal (cs:= [_,_,_,_,_]) ZG hS) ?_;rintro _ w ⟨g3,rfl,hS⟩
     replace hS:=hS.n4
     refine⟨⟨fun _=>hS.pk [0,1],hS.pk [0,1]⟩,?_⟩
     refine zda 12 (xl0 (c:=ints (fun _=>0)) sl_22 hS) ?_;rintro v2 w ⟨hS,hv2⟩
     replace hS:=hS.n5
     refine⟨⟨fun _=>hS.pk [0,1],hS.pk [0,1]⟩,?_⟩
     refine zda 15 (xap 4 (r:=t.nb) (f:=ints (cat 0 (fun _=>0) t.B)) sl_22 el_3 hS (hT.B.below hS.below) (by exact Zg _ _ _)) ?_;rintro v3 w ⟨hS,hv3⟩
     replace hS:=hS.n5
     refine⟨⟨fun _=>hS.pk [0,1],hS.pk [0,1]⟩,?_⟩
     refine zda 19 (xap 2 (r:=t.nf) (f:=ints (cat 0 (fun _=>0) t.F)) sl_22 el_3 hS (hT.F.below hS.below) (by exact Zg _ _ _)) ?_;rintro v4 w ⟨hS,hv4⟩
     replace hS:=hS.n5
     refine⟨⟨fun _=>hS.pk [0,1],hS.pk [0,1]⟩,?_⟩
     refine zdv 20 (fun _=>(xany (v:= .agg #[.int .i64 t.vars,.int .i64 (-(((t.C (row+1)) (col+1)))),v3,v4,.slice none 0 0]) (hr:=by obtain⟨_,_,_,_,rfl,_⟩:=hv3;obtain⟨_,_,_,_,rfl,_⟩:=hv4;kernel_rfl))) ?_
     refine zde 22 (xsw 3 st_175 hS (hd:=(Za rfl (Za rfl (Za hv3.one (Za hv4.one (Za rfl Zd))))))) ?_;clear hS;rintro w hS
     replace hS:=hS.n5
     refine⟨⟨fun h=>absurd h (by decide),hS.pk [0,1]⟩,?_⟩
     refine zdd<|zgj ⟨g3,v2,v3,v1,v4,hv3,hv4,rfl,hS.pk [0,1,4,2,3]⟩
    refine zka (xal (cs:= [_,_,_,_,_]) ZG hS) ?_;rintro _ w ⟨g3,rfl,hS⟩
    replace hS:=hS.n3
    refine⟨⟨fun _=>hS.pk [0,1],hS.pk [0,1]⟩,?_⟩
    refine Z9 (r:= [12,16]) ((Zt ?_ (Zt ?_ Z8)))
    ·
     refine zka (xl0 (c:=ints (fun _=>0)) sl_22 hS) ?_;rintro v1 w ⟨hS,hv1⟩
     replace hS:=hS.n4
     refine⟨⟨fun _=>hS.pk [0,1],hS.pk [0,1]⟩,?_⟩
     refine Z9 (r:= [15,16]) ((Zt ?_ (Zt ?_ Z8)))
     ·
      refine zka (xap 3 (r:=t.nb) (f:=ints (cat 0 (fun _=>0) t.B)) sl_22 el_3 hS (hT.B.below hS.below) (by exact Zg _ _ _)) ?_;rintro v2 w ⟨hS,hv2⟩
      replace hS:=hS.n4
      refine⟨⟨fun _=>hS.pk [0,1],hS.pk [0,1]⟩,?_⟩
      refine zda 16 (xl0 (c:=ints (fun _=>0)) sl_22 hS) ?_;rintro v3 w ⟨hS,hv3⟩
      replace hS:=hS.n5
      refine⟨⟨fun _=>hS.pk [0,1],hS.pk [0,1]⟩,?_⟩
      refine zda 19 (xap 4 (r:=t.nf) (f:=ints (cat 0 (fun _=>0) t.F)) sl_22 el_3 hS (hT.F.below hS.below) (by exact Zg _ _ _)) ?_;rintro v4 w ⟨hS,hv4⟩
      replace hS:=hS.n5
      refine⟨⟨fun _=>hS.pk [0,1],hS.pk [0,1]⟩,?_⟩
      refine zdv 20 (fun _=>(xany (v:= .agg #[.int .i64 t.vars,.int .i64 (-(((t.C (row+1)) (col+1)))),v2,v4,.slice none 0 0]) (hr:=by obtain⟨_,_,_,_,rfl,_⟩:=hv2;obtain⟨_,_,_,_,rfl,_⟩:=hv4;kernel_rfl))) ?_
      refine zde 22 (xsw 2 st_175 hS (hd:=(Za rfl (Za rfl (Za hv2.one (Za hv4.one (Za rfl Zd))))))) ?_;clear hS;rintro w hS
      replace hS:=hS.n5
      refine⟨⟨fun h=>absurd h (by decide),hS.pk [0,1]⟩,?_⟩
      refine zdd<|zgj ⟨g3,v1,v2,v3,v4,hv2,hv4,rfl,hS.pk [0,1,3,4,2]⟩
     refine zka (xl0 (c:=ints (fun _=>0)) sl_22 hS) ?_;rintro v2 w ⟨hS,hv2⟩
     replace hS:=hS.n5
     refine⟨⟨fun _=>hS.pk [0,1],hS.pk [0,1]⟩,?_⟩
     refine zda 15 (xap 3 (r:=t.nb) (f:=ints (cat 0 (fun _=>0) t.B)) sl_22 el_3 hS (hT.B.below hS.below) (by exact Zg _ _ _)) ?_;rintro v3 w ⟨hS,hv3⟩
     replace hS:=hS.n5
     refine⟨⟨fun _=>hS.pk [0,1],hS.pk [0,1]⟩,?_⟩
     refine zda 19 (xap 4 (r:=t.nf) (f:=ints (cat 0 (fun _=>0) t.F)) sl_22 el_3 hS (hT.F.below hS.below) (by exact Zg _ _ _)) ?_;rintro v4 w ⟨hS,hv4⟩
     replace hS:=hS.n5
     refine⟨⟨fun _=>hS.pk [0,1],hS.pk [0,1]⟩,?_⟩
     refine zdv 20 (fun _=>(xany (v:= .agg #[.int .i64 t.vars,.int .i64 (-(((t.C (row+1)) (col+1)))),v3,v4,.slice none 0 0]) (hr:=by obtain⟨_,_,_,_,rfl,_⟩:=hv3;obtain⟨_,_,_,_,rfl,_⟩:=hv4;kernel_rfl))) ?_
     refine zde 22 (xsw 2 st_175 hS (hd:=(Za rfl (Za rfl (Za hv3.one (Za hv4.one (Za rfl Zd))))))) ?_;clear hS;rintro w hS
     replace hS:=hS.n5
     refine⟨⟨fun h=>absurd h (by decide),hS.pk [0,1]⟩,?_⟩
     refine zdd<|zgj ⟨g3,v1,v3,v2,v4,hv3,hv4,rfl,hS.pk [0,1,3,4,2]⟩
    refine zka (xl0 (c:=ints (fun _=>0)) sl_22 hS) ?_;rintro v1 w ⟨hS,hv1⟩
    replace hS:=hS.n4
    refine⟨⟨fun _=>hS.pk [0,1],hS.pk [0,1]⟩,?_⟩
    refine zda 12 (xl0 (c:=ints (fun _=>0)) sl_22 hS) ?_;rintro v2 w ⟨hS,hv2⟩
    replace hS:=hS.n5
    refine⟨⟨fun _=>hS.pk [0,1],hS.pk [0,1]⟩,?_⟩
    refine zda 15 (xap 4 (r:=t.nb) (f:=ints (cat 0 (fun _=>0) t.B)) sl_22 el_3 hS (hT.B.below hS.below) (by exact Zg _ _ _)) ?_;rintro v3 w ⟨hS,hv3⟩
    replace hS:=hS.n5
    refine⟨⟨fun _=>hS.pk [0,1],hS.pk [0,1]⟩,?_⟩
    refine zda 19 (xap 3 (r:=t.nf) (f:=ints (cat 0 (fun _=>0) t.F)) sl_22 el_3 hS (hT.F.below hS.below) (by exact Zg _ _ _)) ?_;rintro v4 w ⟨hS,hv4⟩
    replace hS:=hS.n5
    refine⟨⟨fun _=>hS.pk [0,1],hS.pk [0,1]⟩,?_⟩
    refine zdv 20 (fun _=>(xany (v:= .agg #[.int .i64 t.vars,.int .i64 (-(((t.C (row+1)) (col+1)))),v3,v4,.slice none 0 0]) (hr:=by obtain⟨_,_,_,_,rfl,_⟩:=hv3;obtain⟨_,_,_,_,rfl,_⟩:=hv4;kernel_rfl))) ?_
    refine zde 22 (xsw 2 st_175 hS (hd:=(Za rfl (Za rfl (Za hv3.one (Za hv4.one (Za rfl Zd))))))) ?_;clear hS;rintro w hS
    replace hS:=hS.n5
    refine⟨⟨fun h=>absurd h (by decide),hS.pk [0,1]⟩,?_⟩
    refine zdd<|zgj ⟨g3,v2,v3,v1,v4,hv3,hv4,rfl,hS.pk [0,1,4,3,2]⟩
   clear hS w;rintro M w ⟨g3,v1,v2,v3,v4,hv2,hv4,rfl,hS⟩
   refine ztn<|zsq ?_
   refine zdst [0,1,2,3,4] [0,1,4] 17 mx_ hS ?_;clear hS;intro w hS
   refine zDrv 0 (xfb 2 fd_175_2) ?_
   have hsg:sg (t.C (row+1) (col+1))= -1:=by unfold sg;rw [if_pos (by omega)]
   refine zdla 1 (fun w hS=>(xlb 2 pl_22 hS)) ?_
   refine zDrv 2 xmv ?_
   refine zDrv 3 (xfb 3 fd_175_3) ?_
   refine zdla 4 (fun w hS=>(xlb 2 pl_22 hS)) ?_
   refine zDrv 5 xmv ?_
   refine zDrv 6 (xfb 3 fd_175_3) ?_
   refine zdla 7 (fun w hS=>(xlb 0 pl_22 hS)) ?_
   refine zDrv 8 xmv ?_
   refine zDrv 9 (xix (kk:=col) sl_22 hT.F.slh) ?_
   refine zdla 10 (fun w hS=>(xlr (u:= .int .i64 (t.F col)) pl_3 (hT.F.below hS.below))) ?_
   refine zDrv 11 (xfb 2 fd_175_2) ?_
   refine zdla 12 (fun w hS=>(xlb 0 pl_22 hS)) ?_
   refine zDrv 13 xmv ?_
   refine zDrv 14 (xix (kk:=row) sl_22 hT.B.slh) ?_
   refine zdla 15 (fun w hS=>(xlr (u:= .int .i64 (t.B row)) pl_3 (hT.B.below hS.below))) ?_
   refine zDrv 16 (xix (kk:=row) sl_22 hv2) ?_
   refine zde 17 (xso 2 pl_3 hS (Zs _ _ _)) ?_;clear hS;rintro w hS
   replace hS:=hS.n5
   refine⟨⟨fun h=>absurd h (by decide),hS.pk [0,1,4]⟩,?_⟩
   refine zDrv 18 (xix (kk:=col) sl_22 hv4) ?_
   refine zde 19 (xso 3 pl_3 hS (Zs _ _ _)) ?_;clear hS;rintro w hS
   replace hS:=hS.n5
   refine⟨⟨fun h=>absurd h (by decide),hS.pk [0,1,4]⟩,?_⟩
   refine zdd<|ztn<|zsr ?_
   refine zlv xas ?_
   refine TX 12 (u:=B (True)) (Yq trivial).symm ?_
   refine zx5 ?_
   refine zlv xas ?_
   refine zx6 ?_
   replace hS:=hS.addnil 1 22 (fun _=>Value.slice none 0 0)
   replace hS:=hS.n6
   replace hS:=hS.addrows 3 (fun _=>Value.slice none 0 0) t.ln ((piv t row col).C)
   replace hS:=hS.n7
   replace hS:=hS.n7
   have hrs0:=fun k (k0:0<=k) (k1:k<0)=>hS.slhIn 6 rfl k0 k1
   refine zlp (fun mm M w=>∃(sm:Prop) (nC:Int) (wv:Int->Value) (i:Int) (wC:Value),mm=((t.nc-i).toNat)/\(0<=i)/\(i<=t.nc)/\(nC=i)/\(sm↔(∀a b,0<=a->a<i->0<=b->b<=t.nf-> -1073741824<=Zz t (row+1) (col+1) a b/\Zz t (row+1) (col+1) a b<=1073741824))/\(∀a b,0<=a->a<i->0<=b->b<=t.nf->WM t (row+1) (col+1) a b)/\(Slh wC nC)/\M= [(3,.pointer (some ⟨g1,0,none⟩)),(6,.pointer (some ⟨g2,0,none⟩)),(8,.int .i64 (row+1)),(9,.int .i64 (col+1)),(10,.int .i64 (-1)),(11,.pointer (some ⟨g3,0,none⟩)),(12,B (sm)),(13,.int .i64 i)]/\Sat w0 w [.blk g1 [.int .i64 t.vars,.int .i64 t.den,vB,vF,vC],.blk g2 [.int .i64 0,.int .i64 0,.slice none 0 0,.slice none 0 0,.slice none 0 0],.own v2 1 3 t.nb (ints (upd (cat 0 (fun _=>0) t.B) row (t.F col))),.own v4 1 3 t.nf (ints (upd (cat 0 (fun _=>0) t.F) col (t.B row))),.blk g3 [.int .i64 t.vars,.int .i64 (-(((t.C (row+1)) (col+1)))),v2,v4,wC],.own wC 1 22 nC wv,.sem (Frame.rows 3 nC wv t.ln ((piv t row col).C))]) ⟨True,0,(fun _=>Value.slice none 0 0),0,(.slice none 0 0),rfl,(by omega),(by omega),(by omega),?_,?_,?_,rfl,hS⟩ ?_
   ·
    exact⟨fun _ a b a0 a1=>by omega,fun _=>trivial⟩
   ·
    intro a b a0 a1;omega
   ·
    exact slh_nil
   clear hS w
   rintro mm M w ⟨sm,nC,wv,i,wC,rfl,h0,h1,hnC,hsm,hdv,hwC,rfl,hS⟩
   have hrs1:=fun k (k0:0<=k) (k1:k<nC)=>hS.slhIn 6 rfl k0 k1
   refine zx11 ?_
   refine zlv xmv ?_
   refine zlv (xfb 4 fd_175_4) ?_
   refine zlv (xlb 0 pl_27 hS) ?_
   refine zlv (xln sl_27 hT.C.row.slh) ?_
   refine zlv xlss ?_
   refine zlt ?_
   refine zcif ?_ ?_<;>intro hc
   ·
    refine zx3 ?_
    refine zlv xas ?_
    refine zx5 ?_
    refine zlv xas ?_
    refine zx6 ?_
    replace hS:=hS.addnil 1 3 (ints (fun _=>0))
    replace hS:=hS.n8
    refine zlp (fun mm M w=>∃(sn:Prop) (nl:Int) (j:Int) (wl:Value) (fl:Int->Int),mm=((t.nf+1-j).toNat)/\(0<=j)/\(j<=t.nf+1)/\(nl=j)/\(sn↔((∀a b,0<=a->a<i->0<=b->b<=t.nf-> -1073741824<=Zz t (row+1) (col+1) a b/\Zz t (row+1) (col+1) a b<=1073741824)/\∀b,0<=b->b<j-> -1073741824<=Zz t (row+1) (col+1) i b/\Zz t (row+1) (col+1) i b<=1073741824))/\(∀b,0<=b->b<j->WM t (row+1) (col+1) i b)/\(∀b,0<=b->b<j->fl b=(piv t row col).C i b)/\(Slh wl nl)/\M= [(3,.pointer (some ⟨g1,0,none⟩)),(6,.pointer (some ⟨g2,0,none⟩)),(8,.int .i64 (row+1)),(9,.int .i64 (col+1)),(10,.int .i64 (-1)),(11,.pointer (some ⟨g3,0,none⟩)),(12,B (sn)),(13,.int .i64 i),(14,wl),(15,.int .i64 j)]/\Sat w0 w [.blk g1 [.int .i64 t.vars,.int .i64 t.den,vB,vF,vC],.blk g2 [.int .i64 0,.int .i64 0,.slice none 0 0,.slice none 0 0,.slice none 0 0],.own v2 1 3 t.nb (ints (upd (cat 0 (fun _=>0) t.B) row (t.F col))),.own v4 1 3 t.nf (ints (upd (cat 0 (fun _=>0) t.F) col (t.B row))),.blk g3 [.int .i64 t.vars,.int .i64 (-(((t.C (row+1)) (col+1)))),v2,v4,wC],.own wC 1 22 nC wv,.sem (Frame.rows 3 nC wv t.ln ((piv t row col).C)),.own wl 1 3 nl (ints fl)]) ⟨sm,0,0,(.slice none 0 0),(fun _=>0),rfl,(by omega),(by omega),(by omega),?_,?_,?_,?_,rfl,hS⟩ ?_
    ·
     exact⟨fun h=>⟨hsm.1 h,fun b b0 b1=>by omega⟩,fun h=>hsm.2 h.1⟩
    ·
     intro b b0 b1;omega
    ·
     intro b b0 b1;omega
    ·
     exact slh_nil
    clear hS w
    rintro mm M w ⟨sn,nl,j,wl,fl,rfl,j0,j1,hnl,hsn,hdr,hfl,hwl,rfl,hS⟩
    refine zx11 ?_
    refine zlv xmv ?_
    refine zlv (xfb 4 fd_175_4) ?_
    refine zlv (xlb 0 pl_27 hS) ?_
    have hli:=hp.len (i:=i) (by omega) (by omega)
    refine zlv xmv ?_
    refine zlv (xix (kk:=i) sl_27 hT.C.row.slh) ?_
    refine zlv (xlr (u:=(vv i)) pl_22 (hT.C.row.below hS.below)) ?_
    refine zlv (xln sl_22 (hT.C.p i (by omega) (by omega)).slh) ?_
    refine zlv xlss ?_
    refine zlt ?_
    refine zcif ?_ ?_<;>intro hc
    ·
     refine zx3 ?_
     refine zlv (xls 0 st_175 hS) ?_
     refine zs4 ?_
     refine zlc (xc0 cl_178) (c_cell (t:=t) (i:=i) (j:=j) (r:=(row+1)) (s:=(col+1)) w (hT.below hS.below) hp (by omega) (by omega) (by omega) (by omega) (by omega) (by omega) (by omega) (by omega)) ?_;rintro _ w ⟨nn1,_,rfl,hnn1,rfl,hS'⟩
     replace hS:=hS.cmp hS';clear hS'
     refine zs2 ?_
     have hpcb:=VU hp (r:=row+1) (s:=col+1) (i:=i) (j:=j) (by omega) (by omega) (by omega) (by omega) (by omega) (by omega) (by omega) (by omega);rw [<-hnn1] at hpcb
     refine zs3 ?_
     refine zx5 ?_
     refine zs2 ?_
     refine zlt ?_
     refine zcif ?_ ?_<;>intro hc
     ·
      refine zsr ?_
      refine zlv (xany (v:= .agg #[.int .i64 0,.int .i64 0,.slice none 0 0,.slice none 0 0,.slice none 0 0])) ?_
      refine zle (xsw 1 st_175 hS) ?_;clear hS;rintro w hS
      replace hS:=hS.n8
      refine zlv xas ?_
      refine zlt<|zrt<|ztr<|zbr<|ztr<|ztr<|zbr<|ztr<|zbr<|ztr<|ztr<|zbr<|ztr<|ZI 1 st_175 hS ⟨_,rfl,?_⟩
      exact⟨_,_,_,fun _=>undef,Tb.zero,4,rfl,.inr (.inl ⟨⟨hp,by omega,by omega,by omega,by omega,hnz⟩,fun hd=>absurd (hd i j (by omega) (by omega) (by omega) (by omega)) ‹_›,rfl,rfl⟩),slh_nil,slh_nil,slh_nil,((((hS.sub (.cons _ (.cons _ (.cons _ (.cons _ (.cons _ (.cons _ (.cons _ (.cons _ .slnil))))))))).addnil 1 3 (ints Tb.zero.B)).addnil 1 3 (ints Tb.zero.F)).addnil 1 22 (fun _=>undef)).addrows 3 (fun _=>undef) Tb.zero.ln Tb.zero.C⟩
     refine ZR ?_
     refine zs2 ?_
     refine zlb 139 ?_ ?_<;>intro hc
     ·
      refine zs4 ?_
      refine zlb 143 ?_ ?_<;>intro hc
      ·
       refine zs4 ?_
       refine zlt<|zrg ?_
       refine zs3 ?_
       refine zlv (xmul (r:= -nn1)) ?_
       refine zla (xli (n:=1) (len:=1) (pv:= [(0,.int .i64 (-nn1))]) (cs:= [.int .i64 (-nn1)]) (c:=ints (fun _=> -nn1)) sl_22 el_3 hS) ?_;rintro v5 w ⟨hS,hv5⟩
       replace hS:=hS.n9
       refine zla (xap 7 (r:=nl+1) sl_22 el_3 hS (hS.rowN 8 rfl) (ZJ _ _ _)) ?_;rintro v6 w ⟨hS,hv6⟩
       replace hS:=hS.n9
       refine zlv xas ?_
       refine zx10 ?_
       refine zlv xmv ?_
       refine zlv (xadd (r:=j+1)) ?_
       refine zlv xas ?_
       refine zln<|zlq ⟨nn1<=1073741824,nl+1,j+1,v6,(snoc fl nl (-nn1)),rfl,(by omega),(by omega),(by omega),?_,?_,?_,?_,rfl,hS.pk [0,1,2,3,4,5,6,7]⟩
       ·
        constructor
        · intro hx
          first
          |exact hx.elim
          | exact⟨(hsn.1 (by assumption)).1,fun b b0 b1=>by
            by_cases e:b=j
            · rw [e];omega
            · exact(hsn.1 (by assumption)).2 b b0 (by omega)⟩
        · rintro⟨h1,h2⟩
          have h3:=h2 j j0 (by omega)
          first
          |omega
          |exact absurd (hsn.2 ⟨h1,fun b b0 b1=>h2 b b0 (by omega)⟩) (by assumption)
       ·
        have hdq:WM t (row+1) (col+1) i j:=by first|assumption|exact Classical.not_not.1 ‹_›
        intro b b0 b1
        by_cases e:b=j
        · rw [e];exact hdq
        · exact hdr b b0 (by omega)
       ·
        intro b b0 b1;by_cases e:b<nl
        · rw [Zk e];exact hfl b b0 (by omega)
        · obtain rfl:b=j:=by omega
          rw [Zl e,YN,hsg,<-hnn1];omega
       ·
        exact hv6
      iterate 2 refine zlo ?_
      refine zs2 ?_
      refine TX 12 (u:=B (False)) (B_false not_false).symm ?_
      refine zlt<|zrg ?_
      refine zs3 ?_
      refine zlv (xmul (r:= -nn1)) ?_
      refine zla (xli (n:=1) (len:=1) (pv:= [(0,.int .i64 (-nn1))]) (cs:= [.int .i64 (-nn1)]) (c:=ints (fun _=> -nn1)) sl_22 el_3 hS) ?_;rintro v7 w ⟨hS,hv7⟩
      replace hS:=hS.n9
      refine zla (xap 7 (r:=nl+1) sl_22 el_3 hS (hS.rowN 8 rfl) (ZJ _ _ _)) ?_;rintro v8 w ⟨hS,hv8⟩
      replace hS:=hS.n9
      refine zlv xas ?_
      refine zx10 ?_
      refine zlv xmv ?_
      refine zlv (xadd (r:=j+1)) ?_
      refine zlv xas ?_
      refine zln<|zlq ⟨False,nl+1,j+1,v8,(snoc fl nl (-nn1)),rfl,(by omega),(by omega),(by omega),?_,?_,?_,?_,rfl,hS.pk [0,1,2,3,4,5,6,7]⟩
      ·
       constructor
       · intro hx
         first
         |exact hx.elim
         | exact⟨(hsn.1 (by assumption)).1,fun b b0 b1=>by
           by_cases e:b=j
           · rw [e];omega
           · exact(hsn.1 (by assumption)).2 b b0 (by omega)⟩
       · rintro⟨h1,h2⟩
         have h3:=h2 j j0 (by omega)
         first
         |omega
         |exact absurd (hsn.2 ⟨h1,fun b b0 b1=>h2 b b0 (by omega)⟩) (by assumption)
      ·
       have hdq:WM t (row+1) (col+1) i j:=by first|assumption|exact Classical.not_not.1 ‹_›
       intro b b0 b1
       by_cases e:b=j
       · rw [e];exact hdq
       · exact hdr b b0 (by omega)
      ·
       intro b b0 b1;by_cases e:b<nl
       · rw [Zk e];exact hfl b b0 (by omega)
       · obtain rfl:b=j:=by omega
         rw [Zl e,YN,hsg,<-hnn1];omega
      ·
       exact hv8
     iterate 2 refine zlo ?_
     refine zs2 ?_
     iterate 2 refine zlo ?_
     refine zs2 ?_
     refine TX 12 (u:=B (False)) (B_false not_false).symm ?_
     refine zlt<|zrg ?_
     refine zs3 ?_
     refine zlv (xmul (r:= -nn1)) ?_
     refine zla (xli (n:=1) (len:=1) (pv:= [(0,.int .i64 (-nn1))]) (cs:= [.int .i64 (-nn1)]) (c:=ints (fun _=> -nn1)) sl_22 el_3 hS) ?_;rintro v9 w ⟨hS,hv9⟩
     replace hS:=hS.n9
     refine zla (xap 7 (r:=nl+1) sl_22 el_3 hS (hS.rowN 8 rfl) (ZJ _ _ _)) ?_;rintro v10 w ⟨hS,hv10⟩
     replace hS:=hS.n9
     refine zlv xas ?_
     refine zx10 ?_
     refine zlv xmv ?_
     refine zlv (xadd (r:=j+1)) ?_
     refine zlv xas ?_
     refine zln<|zlq ⟨False,nl+1,j+1,v10,(snoc fl nl (-nn1)),rfl,(by omega),(by omega),(by omega),?_,?_,?_,?_,rfl,hS.pk [0,1,2,3,4,5,6,7]⟩
     ·
      constructor
      · intro hx
        first
        |exact hx.elim
        | exact⟨(hsn.1 (by assumption)).1,fun b b0 b1=>by
          by_cases e:b=j
          · rw [e];omega
          · exact(hsn.1 (by assumption)).2 b b0 (by omega)⟩
      · rintro⟨h1,h2⟩
        have h3:=h2 j j0 (by omega)
        first
        |omega
        |exact absurd (hsn.2 ⟨h1,fun b b0 b1=>h2 b b0 (by omega)⟩) (by assumption)
     ·
      have hdq:WM t (row+1) (col+1) i j:=by first|assumption|exact Classical.not_not.1 ‹_›
      intro b b0 b1
      by_cases e:b=j
      · rw [e];exact hdq
      · exact hdr b b0 (by omega)
     ·
      intro b b0 b1;by_cases e:b<nl
      · rw [Zk e];exact hfl b b0 (by omega)
      · obtain rfl:b=j:=by omega
        rw [Zl e,YN,hsg,<-hnn1];omega
     ·
      exact hv10
    refine zxt<|ztx<|ztx<|zbh<|ztn<|zrg ?_
    refine zlv (xfb 4 fd_175_4) ?_
    refine zlv (xlb 4 pl_27 hS) ?_
    refine zlv xmv ?_
    refine zla (xli (n:=1) (len:=1) (pv:= [(0,wl)]) (cs:= [wl]) (c:=(fun _=>wl)) sl_27 ZL hS (hf:=by obtain⟨_,_,_,_,rfl,_⟩:=hwl;kernel_rfl)) ?_;rintro v11 w ⟨hS,hv11⟩
    replace hS:=hS.n9
    refine zla (xap 5 (r:=nC+1) sl_27 ZL hS (hS.rowN 8 rfl) (Ys _ _ _) (h1:=fun _ _ _=>hwl.one)) ?_;rintro v12 w ⟨hS,hv12⟩
    replace hS:=hS.n9
    replace hS:=Sat.merge (l1:= [_,_,_,_,_,_]) (l2:= []) (l3:= [_]) hS (by omega)
    have hrs2:=fun k (k0:0<=k) (k1:k<nC+1)=>hS.slhIn 6 rfl k0 k1
    replace hS:=hS.n8
    replace hS:=hS.rerows (vv':=gsn wv nC wl) (ln':=t.ln) (f':=(piv t row col).C) 6 rfl (fun k k0 k1=>by
      by_cases e:k<i
      · exact⟨rfl,Zo (by omega),fun j _ _=>by rw [Zo (by omega)]⟩
      · have hki:k=i:=by omega
        refine⟨rfl,?_,fun b b0 b1=> ?_⟩
        · rw [Zn (by omega),hki];omega
        · rw [Zn (by omega),hki];exact hfl b b0 (by rw [Zn (by omega)] at b1;omega))
    replace hS:=hS.n8
    have hrs2x:=fun k (k0:0<=k) (k1:k<nC+1)=>hS.slhIn 6 rfl k0 k1
    refine zlv (xfb 4 fd_175_4) ?_
    refine zle (xsb 4 pl_27 hS (hv:=hv12.one)) ?_;clear hS;rintro w hS
    replace hS:=hS.n8
    refine zx10 ?_
    refine zlv xmv ?_
    refine zlv (xadd (r:=i+1)) ?_
    refine zlv xas ?_
    refine zln<|zlq ⟨sn,nC+1,gsn wv nC wl,i+1,v12,rfl,(by omega),(by omega),(by omega),?_,?_,?_,rfl,hS.pk [0,1,2,3,4,5,6]⟩
    ·
     exact hsn.trans ⟨fun⟨h1,h2⟩ a b a0 a1 b0 b1=>by
      by_cases e:a=i
      · rw [e];exact h2 b b0 (by omega)
      · exact h1 a b a0 (by omega) b0 b1,fun h=>⟨fun a b a0 a1 b0 b1=>h a b a0 (by omega) b0 b1,fun b b0 b1=>h i b h0 (by omega) b0 (by omega)⟩⟩
    ·
     intro a b a0 a1 b0 b1
     by_cases e:a=i
     · subst e;exact hdr b b0 (by omega)
     · exact hdv a b a0 (by omega) b0 b1
    ·
     exact hv12
   refine zx18 ?_
   refine zs2 ?_
   refine zlt ?_
   refine zcif ?_ ?_<;>intro hc
   ·
    refine zsr ?_
    refine zlv (xany (v:= .agg #[.int .i64 0,.int .i64 0,.slice none 0 0,.slice none 0 0,.slice none 0 0])) ?_
    refine zle (xsw 1 st_175 hS) ?_;clear hS;rintro w hS
    replace hS:=hS.n7
    refine zlv xas ?_
    refine zx14<|ZI 1 st_175 hS ⟨_,rfl,?_⟩
    exact⟨_,_,_,fun _=>undef,Tb.zero,2,rfl,.inr (.inr (.inl ⟨⟨hp,by omega,by omega,by omega,by omega,hnz⟩,fun a b a0 a1 b0 b1=>hdv a b a0 (by omega) b0 b1,fun hq=>absurd (hsm.2 fun a b a0 a1 b0 b1=>by have hq1:=hq.cell (i:=a) (j:=b) a0 (by show a<=t.nb;omega) b0 b1;rw [YN,hsg] at hq1;omega) ‹_›,rfl,rfl⟩)),slh_nil,slh_nil,slh_nil,((((hS.sub (.cons _ (.cons _ (.cons _ (.cons _ (.cons _ (.cons _ (.cons _ .slnil)))))))).addnil 1 3 (ints Tb.zero.B)).addnil 1 3 (ints Tb.zero.F)).addnil 1 22 (fun _=>undef)).addrows 3 (fun _=>undef) Tb.zero.ln Tb.zero.C⟩
   refine ZR ?_
   refine zlv (xls 4 st_175 hS) ?_
   refine zle (xsw 1 st_175 hS (hd:=(Za rfl (Za rfl (Za hv2.one (Za hv4.one (Za hwC.one Zd))))))) ?_;clear hS;rintro w hS
   replace hS:=hS.n7
   refine zlv xas ?_
   refine zx1<|ZI 1 st_175 hS ⟨_,rfl,?_⟩
   obtain rfl:i=t.nc:=by omega
   have hden: -(((t.C (row+1)) (col+1)))=(piv t row col).den:=by rw [WD,hsg];omega
   replace hS:=hS.recont 2 rfl (d:=ints (piv t row col).B) (fun k k0 k1=>by unfold ints;show Value.int .i64 (upd (cat 0 (fun _=>0) t.B) row (t.F col) k)=Value.int .i64 (upd t.B row (t.F col) k);congr 1;by_cases e:k=row;rw [e,ZA,ZA];rw [upd_ne _ _ e,upd_ne _ _ e];unfold cat;rw [if_neg (by omega),Int.sub_zero])
   replace hS:=hS.recont 3 rfl (d:=ints (piv t row col).F) (fun k k0 k1=>by unfold ints;show Value.int .i64 (upd (cat 0 (fun _=>0) t.F) col (t.B row) k)=Value.int .i64 (upd t.F col (t.B row) k);congr 1;by_cases e:k=col;rw [e,ZA,ZA];rw [upd_ne _ _ e,upd_ne _ _ e];unfold cat;rw [if_neg (by omega),Int.sub_zero])
   have hsm1:=hsm.1 (by first|assumption|exact Classical.not_not.1 ‹_›)
   subst hnC
   exact⟨_,_,_,_,piv t row col,0,by rw [<-hden];rfl,.inr (.inr (.inr ⟨⟨hp,by omega,by omega,by omega,by omega,hnz⟩,fun a b a0 a1 b0 b1=>hdv a b a0 (by omega) b0 b1,KR ⟨hp,by omega,by omega,by omega,by omega,hnz⟩ (fun a b a0 a1 b0 b1=>hsm1 a b a0 (by omega) b0 b1),rfl,rfl⟩)),hv2,hv4,hwC,hS.pk [2,3,5,6]⟩
  refine zsk<|ztn<|zsq<| ?_
  refine zgcut (fun M w=>∃(g3:Nat) (v1:Value) (v2:Value) (v3:Value) (v4:Value),(Slh v2 t.nb)/\(Slh v4 t.nf)/\M= [(0,.agg #[.int .i64 t.vars,.int .i64 t.den,vB,vF,vC]),(1,.int .i64 row),(2,.int .i64 col),(3,.pointer (some ⟨g1,0,none⟩)),(6,.pointer (some ⟨g2,0,none⟩)),(7,.int .i64 0),(18,.agg #[.int .i64 t.vars,.int .i64 t.den,vB,vF,vC]),(19,B (TPrp t)),(20,B (¬(TPrp t))),(21,.bool false),(22,.int .i64 row),(23,B (row<0)),(24,B (row<0)),(25,.bool false),(26,.int .i64 row),(27,.pointer (some ⟨g1,2,none⟩)),(28,vB),(29,.int .i64 t.nb),(30,B (t.nb<=row)),(31,B (t.nb<=row)),(32,.bool false),(33,.int .i64 col),(34,B (col<0)),(35,B (col<0)),(36,.bool false),(37,.int .i64 col),(38,.pointer (some ⟨g1,3,none⟩)),(39,vF),(40,.int .i64 t.nf),(41,B (t.nf<=col)),(42,B (t.nf<=col)),(43,.bool false),(44,.pointer (some ⟨g1,4,none⟩)),(45,vC),(46,.int .i64 row),(47,.int .i64 (row+1)),(48,.pointer (some (cad vC (row+1)))),(49,(vv (row+1))),(50,.int .i64 col),(51,.int .i64 (col+1)),(52,.pointer (some (cad (vv (row+1)) (col+1)))),(53,.int .i64 ((t.C (row+1)) (col+1))),(54,B (((t.C (row+1)) (col+1))=0)),(55,B (((t.C (row+1)) (col+1))=0)),(57,.int .i64 row),(58,.int .i64 (row+1)),(59,.int .i64 col),(60,.int .i64 (col+1)),(8,.int .i64 (row+1)),(9,.int .i64 (col+1)),(10,.int .i64 1),(61,.pointer (some ⟨g1,4,none⟩)),(62,vC),(63,.int .i64 (row+1)),(64,.pointer (some (cad vC (row+1)))),(65,(vv (row+1))),(66,.int .i64 (col+1)),(67,.pointer (some (cad (vv (row+1)) (col+1)))),(68,.int .i64 ((t.C (row+1)) (col+1))),(69,B (((t.C (row+1)) (col+1))<0)),(70,.pointer (some ⟨g1,0,none⟩)),(71,.int .i64 t.vars),(72,.int .i64 1),(73,.pointer (some ⟨g1,4,none⟩)),(74,vC),(75,.int .i64 (row+1)),(76,.pointer (some (cad vC (row+1)))),(77,(vv (row+1))),(78,.int .i64 (col+1)),(79,.pointer (some (cad (vv (row+1)) (col+1)))),(80,.int .i64 ((t.C (row+1)) (col+1))),(81,.int .i64 ((t.C (row+1)) (col+1))),(83,.pointer (some ⟨g1,2,none⟩)),(84,vB),(87,.pointer (some ⟨g1,3,none⟩)),(88,vF),(82,v1),(85,v2),(86,v3),(89,v4),(90,.agg #[.int .i64 t.vars,.int .i64 ((t.C (row+1)) (col+1)),v2,v4,.slice none 0 0]),(11,.pointer (some ⟨g3,0,none⟩))]/\Sat w0 w [.blk g1 [.int .i64 t.vars,.int .i64 t.den,vB,vF,vC],.blk g2 [.int .i64 0,.int .i64 0,.slice none 0 0,.slice none 0 0,.slice none 0 0],.own v2 1 3 t.nb (ints (cat 0 (fun _=>0) t.B)),.own v4 1 3 t.nf (ints (cat 0 (fun _=>0) t.F)),.blk g3 [.int .i64 t.vars,.int .i64 ((t.C (row+1)) (col+1)),v2,v4,.slice none 0 0]]) ?_ ?_
  ·
   refine zdst [0,1] [0,1] 22 mx_ hS ?_;clear hS;intro w hS
   refine zDrv 0 (xfb 0 fd_175_0) ?_
   refine zdla 1 (fun w hS=>(xlb 0 pl_3 hS)) ?_
   refine zDrv 2 xmv ?_
   refine zDrv 3 (xfb 4 fd_175_4) ?_
   refine zdla 4 (fun w hS=>(xlb 0 pl_27 hS)) ?_
   refine zDrv 5 xmv ?_
   refine zDrv 6 (xix (kk:=row+1) sl_27 hT.C.row.slh) ?_
   refine zdla 7 (fun w hS=>(xlr (u:=(vv (row+1))) pl_22 (hT.C.row.below hS.below))) ?_
   refine zDrv 8 xmv ?_
   refine zDrv 9 (xix (kk:=col+1) sl_22 (hT.C.p (row+1) (by omega) (by omega)).slh) ?_
   refine zdla 10 (fun w hS=>(xlr (u:= .int .i64 ((t.C (row+1)) (col+1))) pl_3 ((hT.C.p (row+1) (by omega) (by omega)).below hS.below))) ?_
   refine zdv 11 (fun _=>(xmul (r:=((t.C (row+1)) (col+1))))) ?_
   refine zDrv 13 (xfb 2 fd_175_2) ?_
   refine zdla 14 (fun w hS=>(xlb 0 pl_22 hS)) ?_
   refine zDrv 17 (xfb 3 fd_175_3) ?_
   refine zdla 18 (fun w hS=>(xlb 0 pl_22 hS)) ?_
   refine Z9 (r:= [12,16,21]) ((Zt ?_ (Zt ?_ (Zt ?_ Z8))))
   ·
    refine zka (xl0 (c:=ints (fun _=>0)) sl_22 hS) ?_;rintro v1 w ⟨hS,hv1⟩
    replace hS:=hS.n3
    refine⟨⟨fun _=>hS.pk [0,1],hS.pk [0,1]⟩,?_⟩
    refine Z9 (r:= [15,16,21]) ((Zt ?_ (Zt ?_ (Zt ?_ Z8))))
    ·
     refine zka (xap 2 (r:=t.nb) (f:=ints (cat 0 (fun _=>0) t.B)) sl_22 el_3 hS (hT.B.below hS.below) (by exact Zg _ _ _)) ?_;rintro v2 w ⟨hS,hv2⟩
     replace hS:=hS.n3
     refine⟨⟨fun _=>hS.pk [0,1],hS.pk [0,1]⟩,?_⟩
     refine Z9 (r:= [16,21]) ((Zt ?_ (Zt ?_ Z8)))
     ·
      refine zka (xl0 (c:=ints (fun _=>0)) sl_22 hS) ?_;rintro v3 w ⟨hS,hv3⟩
      replace hS:=hS.n4
      refine⟨⟨fun _=>hS.pk [0,1],hS.pk [0,1]⟩,?_⟩
      refine Z9 (r:= [19,21]) ((Zt ?_ (Zt ?_ Z8)))
      ·
       refine zka (xap 3 (r:=t.nf) (f:=ints (cat 0 (fun _=>0) t.F)) sl_22 el_3 hS (hT.F.below hS.below) (by exact Zg _ _ _)) ?_;rintro v4 w ⟨hS,hv4⟩
       replace hS:=hS.n4
       refine⟨⟨fun _=>hS.pk [0,1],hS.pk [0,1]⟩,?_⟩
       refine zdv 20 (fun _=>(xany (v:= .agg #[.int .i64 t.vars,.int .i64 ((t.C (row+1)) (col+1)),v2,v4,.slice none 0 0]) (hr:=by obtain⟨_,_,_,_,rfl,_⟩:=hv2;obtain⟨_,_,_,_,rfl,_⟩:=hv4;kernel_rfl))) ?_
       refine zda 21 (xal (cs:= [_,_,_,_,_]) ZG hS) ?_;rintro _ w ⟨g3,rfl,hS⟩
       replace hS:=hS.n5
       refine⟨⟨fun _=>hS.pk [0,1],hS.pk [0,1]⟩,?_⟩
       refine zde 22 (xsw 4 st_175 hS (hd:=(Za rfl (Za rfl (Za hv2.one (Za hv4.one (Za rfl Zd))))))) ?_;clear hS;rintro w hS
       replace hS:=hS.n5
       refine⟨⟨fun h=>absurd h (by decide),hS.pk [0,1]⟩,?_⟩
       refine zdd<|zgj ⟨g3,v1,v2,v3,v4,hv2,hv4,rfl,hS⟩
      refine zka (xal (cs:= [_,_,_,_,_]) ZG hS) ?_;rintro _ w ⟨g3,rfl,hS⟩
      replace hS:=hS.n5
      refine⟨⟨fun _=>hS.pk [0,1],hS.pk [0,1]⟩,?_⟩
      refine zda 19 (xap 3 (r:=t.nf) (f:=ints (cat 0 (fun _=>0) t.F)) sl_22 el_3 hS (hT.F.below hS.below) (by exact Zg _ _ _)) ?_;rintro v4 w ⟨hS,hv4⟩
      replace hS:=hS.n5
      refine⟨⟨fun _=>hS.pk [0,1],hS.pk [0,1]⟩,?_⟩
      refine zdv 20 (fun _=>(xany (v:= .agg #[.int .i64 t.vars,.int .i64 ((t.C (row+1)) (col+1)),v2,v4,.slice none 0 0]) (hr:=by obtain⟨_,_,_,_,rfl,_⟩:=hv2;obtain⟨_,_,_,_,rfl,_⟩:=hv4;kernel_rfl))) ?_
      refine zde 22 (xsw 4 st_175 hS (hd:=(Za rfl (Za rfl (Za hv2.one (Za hv4.one (Za rfl Zd))))))) ?_;clear hS;rintro w hS
      replace hS:=hS.n5
      refine⟨⟨fun h=>absurd h (by decide),hS.pk [0,1]⟩,?_⟩
      refine zdd<|zgj ⟨g3,v1,v2,v3,v4,hv2,hv4,rfl,hS⟩
     refine zka (xal (cs:= [_,_,_,_,_]) ZG hS) ?_;rintro _ w ⟨g3,rfl,hS⟩
     replace hS:=hS.n4
     refine⟨⟨fun _=>hS.pk [0,1],hS.pk [0,1]⟩,?_⟩
     refine zda 16 (xl0 (c:=ints (fun _=>0)) sl_22 hS) ?_;rintro v3 w ⟨hS,hv3⟩
     replace hS:=hS.n5
     refine⟨⟨fun _=>hS.pk [0,1],hS.pk [0,1]⟩,?_⟩
     refine zda 19 (xap 4 (r:=t.nf) (f:=ints (cat 0 (fun _=>0) t.F)) sl_22 el_3 hS (hT.F.below hS.below) (by exact Zg _ _ _)) ?_;rintro v4 w ⟨hS,hv4⟩
     replace hS:=hS.n5
     refine⟨⟨fun _=>hS.pk [0,1],hS.pk [0,1]⟩,?_⟩
     refine zdv 20 (fun _=>(xany (v:= .agg #[.int .i64 t.vars,.int .i64 ((t.C (row+1)) (col+1)),v2,v4,.slice none 0 0]) (hr:=by obtain⟨_,_,_,_,rfl,_⟩:=hv2;obtain⟨_,_,_,_,rfl,_⟩:=hv4;kernel_rfl))) ?_
     refine zde 22 (xsw 3 st_175 hS (hd:=(Za rfl (Za rfl (Za hv2.one (Za hv4.one (Za rfl Zd))))))) ?_;clear hS;rintro w hS
     replace hS:=hS.n5
     refine⟨⟨fun h=>absurd h (by decide),hS.pk [0,1]⟩,?_⟩
     refine zdd<|zgj ⟨g3,v1,v2,v3,v4,hv2,hv4,rfl,hS.pk [0,1,2,4,3]⟩
    ·
     refine zka (xl0 (c:=ints (fun _=>0)) sl_22 hS) ?_;rintro v2 w ⟨hS,hv2⟩
     replace hS:=hS.n4
     refine⟨⟨fun _=>hS.pk [0,1],hS.pk [0,1]⟩,?_⟩
     refine Z9 (r:= [15,21]) ((Zt ?_ (Zt ?_ Z8)))
     ·
      refine zka (xap 2 (r:=t.nb) (f:=ints (cat 0 (fun _=>0) t.B)) sl_22 el_3 hS (hT.B.below hS.below) (by exact Zg _ _ _)) ?_;rintro v3 w ⟨hS,hv3⟩
      replace hS:=hS.n4
      refine⟨⟨fun _=>hS.pk [0,1],hS.pk [0,1]⟩,?_⟩
      refine Z9 (r:= [19,21]) ((Zt ?_ (Zt ?_ Z8)))
      ·
       refine zka (xap 3 (r:=t.nf) (f:=ints (cat 0 (fun _=>0) t.F)) sl_22 el_3 hS (hT.F.below hS.below) (by exact Zg _ _ _)) ?_;rintro v4 w ⟨hS,hv4⟩
       replace hS:=hS.n4
       refine⟨⟨fun _=>hS.pk [0,1],hS.pk [0,1]⟩,?_⟩
       refine zdv 20 (fun _=>(xany (v:= .agg #[.int .i64 t.vars,.int .i64 ((t.C (row+1)) (col+1)),v3,v4,.slice none 0 0]) (hr:=by obtain⟨_,_,_,_,rfl,_⟩:=hv3;obtain⟨_,_,_,_,rfl,_⟩:=hv4;kernel_rfl))) ?_
       refine zda 21 (xal (cs:= [_,_,_,_,_]) ZG hS) ?_;rintro _ w ⟨g3,rfl,hS⟩
       replace hS:=hS.n5
       refine⟨⟨fun _=>hS.pk [0,1],hS.pk [0,1]⟩,?_⟩
       refine zde 22 (xsw 4 st_175 hS (hd:=(Za rfl (Za rfl (Za hv3.one (Za hv4.one (Za rfl Zd))))))) ?_;clear hS;rintro w hS
       replace hS:=hS.n5
       refine⟨⟨fun h=>absurd h (by decide),hS.pk [0,1]⟩,?_⟩
       refine zdd<|zgj ⟨g3,v1,v3,v2,v4,hv3,hv4,rfl,hS⟩
      refine zka (xal (cs:= [_,_,_,_,_]) ZG hS) ?_;rintro _ w ⟨g3,rfl,hS⟩
      replace hS:=hS.n5
      refine⟨⟨fun _=>hS.pk [0,1],hS.pk [0,1]⟩,?_⟩
      refine zda 19 (xap 3 (r:=t.nf) (f:=ints (cat 0 (fun _=>0) t.F)) sl_22 el_3 hS (hT.F.below hS.below) (by exact Zg _ _ _)) ?_;rintro v4 w ⟨hS,hv4⟩
      replace hS:=hS.n5
      refine⟨⟨fun _=>hS.pk [0,1],hS.pk [0,1]⟩,?_⟩
      refine zdv 20 (fun _=>(xany (v:= .agg #[.int .i64 t.vars,.int .i64 ((t.C (row+1)) (col+1)),v3,v4,.slice none 0 0]) (hr:=by obtain⟨_,_,_,_,rfl,_⟩:=hv3;obtain⟨_,_,_,_,rfl,_⟩:=hv4;kernel_rfl))) ?_
      refine zde 22 (xsw 4 st_175 hS (hd:=(Za rfl (Za rfl (Za hv3.one (Za hv4.one (Za rfl Zd))))))) ?_;clear hS;rintro w hS
      replace hS:=hS.n5
      refine⟨⟨fun h=>absurd h (by decide),hS.pk [0,1]⟩,?_⟩
      refine zdd<|zgj ⟨g3,v1,v3,v2,v4,hv3,hv4,rfl,hS⟩
     refine zka (xal (cs:= [_,_,_,_,_]) ZG hS) ?_;rintro _ w ⟨g3,rfl,hS⟩
     replace hS:=hS.n5
     refine⟨⟨fun _=>hS.pk [0,1],hS.pk [0,1]⟩,?_⟩
     refine zda 15 (xap 2 (r:=t.nb) (f:=ints (cat 0 (fun _=>0) t.B)) sl_22 el_3 hS (hT.B.below hS.below) (by exact Zg _ _ _)) ?_;rintro v3 w ⟨hS,hv3⟩
     replace hS:=hS.n5
     refine⟨⟨fun _=>hS.pk [0,1],hS.pk [0,1]⟩,?_⟩
     refine zda 19 (xap 3 (r:=t.nf) (f:=ints (cat 0 (fun _=>0) t.F)) sl_22 el_3 hS (hT.F.below hS.below) (by exact Zg _ _ _)) ?_;rintro v4 w ⟨hS,hv4⟩
     replace hS:=hS.n5
     refine⟨⟨fun _=>hS.pk [0,1],hS.pk [0,1]⟩,?_⟩
     refine zdv 20 (fun _=>(xany (v:= .agg #[.int .i64 t.vars,.int .i64 ((t.C (row+1)) (col+1)),v3,v4,.slice none 0 0]) (hr:=by obtain⟨_,_,_,_,rfl,_⟩:=hv3;obtain⟨_,_,_,_,rfl,_⟩:=hv4;kernel_rfl))) ?_
     refine zde 22 (xsw 4 st_175 hS (hd:=(Za rfl (Za rfl (Za hv3.one (Za hv4.one (Za rfl Zd))))))) ?_;clear hS;rintro w hS
     replace hS:=hS.n5
     refine⟨⟨fun h=>absurd h (by decide),hS.pk [0,1]⟩,?_⟩
     refine zdd<|zgj ⟨g3,v1,v3,v2,v4,hv3,hv4,rfl,hS⟩
    refine zka (xal (cs:= [_,_,_,_,_]) ZG hS) ?_;rintro _ w ⟨g3,rfl,hS⟩
    replace hS:=hS.n4
    refine⟨⟨fun _=>hS.pk [0,1],hS.pk [0,1]⟩,?_⟩
    refine Z9 (r:= [15,16]) ((Zt ?_ (Zt ?_ Z8)))
    ·
     refine zka (xap 2 (r:=t.nb) (f:=ints (cat 0 (fun _=>0) t.B)) sl_22 el_3 hS (hT.B.below hS.below) (by exact Zg _ _ _)) ?_;rintro v2 w ⟨hS,hv2⟩
     replace hS:=hS.n4
     refine⟨⟨fun _=>hS.pk [0,1],hS.pk [0,1]⟩,?_⟩
     refine zda 16 (xl0 (c:=ints (fun _=>0)) sl_22 hS) ?_;rintro v3 w ⟨hS,hv3⟩
     replace hS:=hS.n5
     refine⟨⟨fun _=>hS.pk [0,1],hS.pk [0,1]⟩,?_⟩
     refine zda 19 (xap 4 (r:=t.nf) (f:=ints (cat 0 (fun _=>0) t.F)) sl_22 el_3 hS (hT.F.below hS.below) (by exact Zg _ _ _)) ?_;rintro v4 w ⟨hS,hv4⟩
     replace hS:=hS.n5
     refine⟨⟨fun _=>hS.pk [0,1],hS.pk [0,1]⟩,?_⟩
     refine zdv 20 (fun _=>(xany (v:= .agg #[.int .i64 t.vars,.int .i64 ((t.C (row+1)) (col+1)),v2,v4,.slice none 0 0]) (hr:=by obtain⟨_,_,_,_,rfl,_⟩:=hv2;obtain⟨_,_,_,_,rfl,_⟩:=hv4;kernel_rfl))) ?_
     refine zde 22 (xsw 3 st_175 hS (hd:=(Za rfl (Za rfl (Za hv2.one (Za hv4.one (Za rfl Zd))))))) ?_;clear hS;rintro w hS
     replace hS:=hS.n5
     refine⟨⟨fun h=>absurd h (by decide),hS.pk [0,1]⟩,?_⟩
     refine zdd<|zgj ⟨g3,v1,v2,v3,v4,hv2,hv4,rfl,hS.pk [0,1,2,4,3]⟩
    refine zka (xl0 (c:=ints (fun _=>0)) sl_22 hS) ?_;rintro v2 w ⟨hS,hv2⟩
    replace hS:=hS.n5
    refine⟨⟨fun _=>hS.pk [0,1],hS.pk [0,1]⟩,?_⟩
    refine zda 15 (xap 2 (r:=t.nb) (f:=ints (cat 0 (fun _=>0) t.B)) sl_22 el_3 hS (hT.B.below hS.below) (by exact Zg _ _ _)) ?_;rintro v3 w ⟨hS,hv3⟩
    replace hS:=hS.n5
    refine⟨⟨fun _=>hS.pk [0,1],hS.pk [0,1]⟩,?_⟩
    refine zda 19 (xap 4 (r:=t.nf) (f:=ints (cat 0 (fun _=>0) t.F)) sl_22 el_3 hS (hT.F.below hS.below) (by exact Zg _ _ _)) ?_;rintro v4 w ⟨hS,hv4⟩
    replace hS:=hS.n5
    refine⟨⟨fun _=>hS.pk [0,1],hS.pk [0,1]⟩,?_⟩
    refine zdv 20 (fun _=>(xany (v:= .agg #[.int .i64 t.vars,.int .i64 ((t.C (row+1)) (col+1)),v3,v4,.slice none 0 0]) (hr:=by obtain⟨_,_,_,_,rfl,_⟩:=hv3;obtain⟨_,_,_,_,rfl,_⟩:=hv4;kernel_rfl))) ?_
    refine zde 22 (xsw 3 st_175 hS (hd:=(Za rfl (Za rfl (Za hv3.one (Za hv4.one (Za rfl Zd))))))) ?_;clear hS;rintro w hS
    replace hS:=hS.n5
    refine⟨⟨fun h=>absurd h (by decide),hS.pk [0,1]⟩,?_⟩
    refine zdd<|zgj ⟨g3,v1,v3,v2,v4,hv3,hv4,rfl,hS.pk [0,1,2,4,3]⟩
   ·
    refine zka (xl0 (c:=ints (fun _=>0)) sl_22 hS) ?_;rintro v1 w ⟨hS,hv1⟩
    replace hS:=hS.n3
    refine⟨⟨fun _=>hS.pk [0,1],hS.pk [0,1]⟩,?_⟩
    refine Z9 (r:= [12,21]) ((Zt ?_ (Zt ?_ Z8)))
    ·
     refine zka (xl0 (c:=ints (fun _=>0)) sl_22 hS) ?_;rintro v2 w ⟨hS,hv2⟩
     replace hS:=hS.n4
     refine⟨⟨fun _=>hS.pk [0,1],hS.pk [0,1]⟩,?_⟩
     refine Z9 (r:= [15,21]) ((Zt ?_ (Zt ?_ Z8)))
     ·
      refine zka (xap 3 (r:=t.nb) (f:=ints (cat 0 (fun _=>0) t.B)) sl_22 el_3 hS (hT.B.below hS.below) (by exact Zg _ _ _)) ?_;rintro v3 w ⟨hS,hv3⟩
      replace hS:=hS.n4
      refine⟨⟨fun _=>hS.pk [0,1],hS.pk [0,1]⟩,?_⟩
      refine Z9 (r:= [19,21]) ((Zt ?_ (Zt ?_ Z8)))
      ·
       refine zka (xap 2 (r:=t.nf) (f:=ints (cat 0 (fun _=>0) t.F)) sl_22 el_3 hS (hT.F.below hS.below) (by exact Zg _ _ _)) ?_;rintro v4 w ⟨hS,hv4⟩
       replace hS:=hS.n4
       refine⟨⟨fun _=>hS.pk [0,1],hS.pk [0,1]⟩,?_⟩
       refine zdv 20 (fun _=>(xany (v:= .agg #[.int .i64 t.vars,.int .i64 ((t.C (row+1)) (col+1)),v3,v4,.slice none 0 0]) (hr:=by obtain⟨_,_,_,_,rfl,_⟩:=hv3;obtain⟨_,_,_,_,rfl,_⟩:=hv4;kernel_rfl))) ?_
       refine zda 21 (xal (cs:= [_,_,_,_,_]) ZG hS) ?_;rintro _ w ⟨g3,rfl,hS⟩
       replace hS:=hS.n5
       refine⟨⟨fun _=>hS.pk [0,1],hS.pk [0,1]⟩,?_⟩
       refine zde 22 (xsw 4 st_175 hS (hd:=(Za rfl (Za rfl (Za hv3.one (Za hv4.one (Za rfl Zd))))))) ?_;clear hS;rintro w hS
       replace hS:=hS.n5
       refine⟨⟨fun h=>absurd h (by decide),hS.pk [0,1]⟩,?_⟩
       refine zdd<|zgj ⟨g3,v2,v3,v1,v4,hv3,hv4,rfl,hS.pk [0,1,3,2,4]⟩
      refine zka (xal (cs:= [_,_,_,_,_]) ZG hS) ?_;rintro _ w ⟨g3,rfl,hS⟩
      replace hS:=hS.n5
      refine⟨⟨fun _=>hS.pk [0,1],hS.pk [0,1]⟩,?_⟩
      refine zda 19 (xap 2 (r:=t.nf) (f:=ints (cat 0 (fun _=>0) t.F)) sl_22 el_3 hS (hT.F.below hS.below) (by exact Zg _ _ _)) ?_;rintro v4 w ⟨hS,hv4⟩
      replace hS:=hS.n5
      refine⟨⟨fun _=>hS.pk [0,1],hS.pk [0,1]⟩,?_⟩
      refine zdv 20 (fun _=>(xany (v:= .agg #[.int .i64 t.vars,.int .i64 ((t.C (row+1)) (col+1)),v3,v4,.slice none 0 0]) (hr:=by obtain⟨_,_,_,_,rfl,_⟩:=hv3;obtain⟨_,_,_,_,rfl,_⟩:=hv4;kernel_rfl))) ?_
      refine zde 22 (xsw 4 st_175 hS (hd:=(Za rfl (Za rfl (Za hv3.one (Za hv4.one (Za rfl Zd))))))) ?_;clear hS;rintro w hS
      replace hS:=hS.n5
      refine⟨⟨fun h=>absurd h (by decide),hS.pk [0,1]⟩,?_⟩
      refine zdd<|zgj ⟨g3,v2,v3,v1,v4,hv3,hv4,rfl,hS.pk [0,1,3,2,4]⟩
     refine zka (xal (cs:= [_,_,_,_,_]) ZG hS) ?_;rintro _ w ⟨g3,rfl,hS⟩
     replace hS:=hS.n5
     refine⟨⟨fun _=>hS.pk [0,1],hS.pk [0,1]⟩,?_⟩
     refine zda 15 (xap 3 (r:=t.nb) (f:=ints (cat 0 (fun _=>0) t.B)) sl_22 el_3 hS (hT.B.below hS.below) (by exact Zg _ _ _)) ?_;rintro v3 w ⟨hS,hv3⟩
     replace hS:=hS.n5
     refine⟨⟨fun _=>hS.pk [0,1],hS.pk [0,1]⟩,?_⟩
     refine zda 19 (xap 2 (r:=t.nf) (f:=ints (cat 0 (fun _=>0) t.F)) sl_22 el_3 hS (hT.F.below hS.below) (by exact Zg _ _ _)) ?_;rintro v4 w ⟨hS,hv4⟩
     replace hS:=hS.n5
     refine⟨⟨fun _=>hS.pk [0,1],hS.pk [0,1]⟩,?_⟩
     refine zdv 20 (fun _=>(xany (v:= .agg #[.int .i64 t.vars,.int .i64 ((t.C (row+1)) (col+1)),v3,v4,.slice none 0 0]) (hr:=by obtain⟨_,_,_,_,rfl,_⟩:=hv3;obtain⟨_,_,_,_,rfl,_⟩:=hv4;kernel_rfl))) ?_
     refine zde 22 (xsw 4 st_175 hS (hd:=(Za rfl (Za rfl (Za hv3.one (Za hv4.one (Za rfl Zd))))))) ?_;clear hS;rintro w hS
     replace hS:=hS.n5
     refine⟨⟨fun h=>absurd h (by decide),hS.pk [0,1]⟩,?_⟩
     refine zdd<|zgj ⟨g3,v2,v3,v1,v4,hv3,hv4,rfl,hS.pk [0,1,3,2,4]⟩
    refine zka (xal (cs:= [_,_,_,_,_]) ZG hS) ?_;rintro _ w ⟨g3,rfl,hS⟩
    replace hS:=hS.n4
    refine⟨⟨fun _=>hS.pk [0,1],hS.pk [0,1]⟩,?_⟩
    refine zda 12 (xl0 (c:=ints (fun _=>0)) sl_22 hS) ?_;rintro v2 w ⟨hS,hv2⟩
    replace hS:=hS.n5
    refine⟨⟨fun _=>hS.pk [0,1],hS.pk [0,1]⟩,?_⟩
    refine zda 15 (xap 4 (r:=t.nb) (f:=ints (cat 0 (fun _=>0) t.B)) sl_22 el_3 hS (hT.B.below hS.below) (by exact Zg _ _ _)) ?_;rintro v3 w ⟨hS,hv3⟩
    replace hS:=hS.n5
    refine⟨⟨fun _=>hS.pk [0,1],hS.pk [0,1]⟩,?_⟩
    refine zda 19 (xap 2 (r:=t.nf) (f:=ints (cat 0 (fun _=>0) t.F)) sl_22 el_3 hS (hT.F.below hS.below) (by exact Zg _ _ _)) ?_;rintro v4 w ⟨hS,hv4⟩
    replace hS:=hS.n5
    refine⟨⟨fun _=>hS.pk [0,1],hS.pk [0,1]⟩,?_⟩
    refine zdv 20 (fun _=>(xany (v:= .agg #[.int .i64 t.vars,.int .i64 ((t.C (row+1)) (col+1)),v3,v4,.slice none 0 0]) (hr:=by obtain⟨_,_,_,_,rfl,_⟩:=hv3;obtain⟨_,_,_,_,rfl,_⟩:=hv4;kernel_rfl))) ?_
    refine zde 22 (xsw 3 st_175 hS (hd:=(Za rfl (Za rfl (Za hv3.one (Za hv4.one (Za rfl Zd))))))) ?_;clear hS;rintro w hS
    replace hS:=hS.n5
    refine⟨⟨fun h=>absurd h (by decide),hS.pk [0,1]⟩,?_⟩
    refine zdd<|zgj ⟨g3,v2,v3,v1,v4,hv3,hv4,rfl,hS.pk [0,1,4,2,3]⟩
   refine zka (xal (cs:= [_,_,_,_,_]) ZG hS) ?_;rintro _ w ⟨g3,rfl,hS⟩
   replace hS:=hS.n3
   refine⟨⟨fun _=>hS.pk [0,1],hS.pk [0,1]⟩,?_⟩
   refine Z9 (r:= [12,16]) ((Zt ?_ (Zt ?_ Z8)))
   ·
    refine zka (xl0 (c:=ints (fun _=>0)) sl_22 hS) ?_;rintro v1 w ⟨hS,hv1⟩
    replace hS:=hS.n4
    refine⟨⟨fun _=>hS.pk [0,1],hS.pk [0,1]⟩,?_⟩
    refine Z9 (r:= [15,16]) ((Zt ?_ (Zt ?_ Z8)))
    ·
     refine zka (xap 3 (r:=t.nb) (f:=ints (cat 0 (fun _=>0) t.B)) sl_22 el_3 hS (hT.B.below hS.below) (by exact Zg _ _ _)) ?_;rintro v2 w ⟨hS,hv2⟩
     replace hS:=hS.n4
     refine⟨⟨fun _=>hS.pk [0,1],hS.pk [0,1]⟩,?_⟩
     refine zda 16 (xl0 (c:=ints (fun _=>0)) sl_22 hS) ?_;rintro v3 w ⟨hS,hv3⟩
     replace hS:=hS.n5
     refine⟨⟨fun _=>hS.pk [0,1],hS.pk [0,1]⟩,?_⟩
     refine zda 19 (xap 4 (r:=t.nf) (f:=ints (cat 0 (fun _=>0) t.F)) sl_22 el_3 hS (hT.F.below hS.below) (by exact Zg _ _ _)) ?_;rintro v4 w ⟨hS,hv4⟩
     replace hS:=hS.n5
     refine⟨⟨fun _=>hS.pk [0,1],hS.pk [0,1]⟩,?_⟩
     refine zdv 20 (fun _=>(xany (v:= .agg #[.int .i64 t.vars,.int .i64 ((t.C (row+1)) (col+1)),v2,v4,.slice none 0 0]) (hr:=by obtain⟨_,_,_,_,rfl,_⟩:=hv2;obtain⟨_,_,_,_,rfl,_⟩:=hv4;kernel_rfl))) ?_
     refine zde 22 (xsw 2 st_175 hS (hd:=(Za rfl (Za rfl (Za hv2.one (Za hv4.one (Za rfl Zd))))))) ?_;clear hS;rintro w hS
     replace hS:=hS.n5
     refine⟨⟨fun h=>absurd h (by decide),hS.pk [0,1]⟩,?_⟩
     refine zdd<|zgj ⟨g3,v1,v2,v3,v4,hv2,hv4,rfl,hS.pk [0,1,3,4,2]⟩
    refine zka (xl0 (c:=ints (fun _=>0)) sl_22 hS) ?_;rintro v2 w ⟨hS,hv2⟩
    replace hS:=hS.n5
    refine⟨⟨fun _=>hS.pk [0,1],hS.pk [0,1]⟩,?_⟩
    refine zda 15 (xap 3 (r:=t.nb) (f:=ints (cat 0 (fun _=>0) t.B)) sl_22 el_3 hS (hT.B.below hS.below) (by exact Zg _ _ _)) ?_;rintro v3 w ⟨hS,hv3⟩
    replace hS:=hS.n5
    refine⟨⟨fun _=>hS.pk [0,1],hS.pk [0,1]⟩,?_⟩
    refine zda 19 (xap 4 (r:=t.nf) (f:=ints (cat 0 (fun _=>0) t.F)) sl_22 el_3 hS (hT.F.below hS.below) (by exact Zg _ _ _)) ?_;rintro v4 w ⟨hS,hv4⟩
    replace hS:=hS.n5
    refine⟨⟨fun _=>hS.pk [0,1],hS.pk [0,1]⟩,?_⟩
    refine zdv 20 (fun _=>(xany (v:= .agg #[.int .i64 t.vars,.int .i64 ((t.C (row+1)) (col+1)),v3,v4,.slice none 0 0]) (hr:=by obtain⟨_,_,_,_,rfl,_⟩:=hv3;obtain⟨_,_,_,_,rfl,_⟩:=hv4;kernel_rfl))) ?_
    refine zde 22 (xsw 2 st_175 hS (hd:=(Za rfl (Za rfl (Za hv3.one (Za hv4.one (Za rfl Zd))))))) ?_;clear hS;rintro w hS
    replace hS:=hS.n5
    refine⟨⟨fun h=>absurd h (by decide),hS.pk [0,1]⟩,?_⟩
    refine zdd<|zgj ⟨g3,v1,v3,v2,v4,hv3,hv4,rfl,hS.pk [0,1,3,4,2]⟩
   refine zka (xl0 (c:=ints (fun _=>0)) sl_22 hS) ?_;rintro v1 w ⟨hS,hv1⟩
   replace hS:=hS.n4
   refine⟨⟨fun _=>hS.pk [0,1],hS.pk [0,1]⟩,?_⟩
   refine zda 12 (xl0 (c:=ints (fun _=>0)) sl_22 hS) ?_;rintro v2 w ⟨hS,hv2⟩
   replace hS:=hS.n5
   refine⟨⟨fun _=>hS.pk [0,1],hS.pk [0,1]⟩,?_⟩
   refine zda 15 (xap 4 (r:=t.nb) (f:=ints (cat 0 (fun _=>0) t.B)) sl_22 el_3 hS (hT.B.below hS.below) (by exact Zg _ _ _)) ?_;rintro v3 w ⟨hS,hv3⟩
   replace hS:=hS.n5
   refine⟨⟨fun _=>hS.pk [0,1],hS.pk [0,1]⟩,?_⟩
   refine zda 19 (xap 3 (r:=t.nf) (f:=ints (cat 0 (fun _=>0) t.F)) sl_22 el_3 hS (hT.F.below hS.below) (by exact Zg _ _ _)) ?_;rintro v4 w ⟨hS,hv4⟩
   replace hS:=hS.n5
   refine⟨⟨fun _=>hS.pk [0,1],hS.pk [0,1]⟩,?_⟩
   refine zdv 20 (fun _=>(xany (v:= .agg #[.int .i64 t.vars,.int .i64 ((t.C (row+1)) (col+1)),v3,v4,.slice none 0 0]) (hr:=by obtain⟨_,_,_,_,rfl,_⟩:=hv3;obtain⟨_,_,_,_,rfl,_⟩:=hv4;kernel_rfl))) ?_
   refine zde 22 (xsw 2 st_175 hS (hd:=(Za rfl (Za rfl (Za hv3.one (Za hv4.one (Za rfl Zd))))))) ?_;clear hS;rintro w hS
   replace hS:=hS.n5
   refine⟨⟨fun h=>absurd h (by decide),hS.pk [0,1]⟩,?_⟩
   refine zdd<|zgj ⟨g3,v2,v3,v1,v4,hv3,hv4,rfl,hS.pk [0,1,4,3,2]⟩
  clear hS w;rintro M w ⟨g3,v1,v2,v3,v4,hv2,hv4,rfl,hS⟩
  refine ztn<|zsq ?_
  refine zdst [0,1,2,3,4] [0,1,4] 17 mx_ hS ?_;clear hS;intro w hS
  refine zDrv 0 (xfb 2 fd_175_2) ?_
  have hsg:sg (t.C (row+1) (col+1))=1:=by unfold sg;rw [if_neg (by omega)]
  refine zdla 1 (fun w hS=>(xlb 2 pl_22 hS)) ?_
  refine zDrv 2 xmv ?_
  refine zDrv 3 (xfb 3 fd_175_3) ?_
  refine zdla 4 (fun w hS=>(xlb 2 pl_22 hS)) ?_
  refine zDrv 5 xmv ?_
  refine zDrv 6 (xfb 3 fd_175_3) ?_
  refine zdla 7 (fun w hS=>(xlb 0 pl_22 hS)) ?_
  refine zDrv 8 xmv ?_
  refine zDrv 9 (xix (kk:=col) sl_22 hT.F.slh) ?_
  refine zdla 10 (fun w hS=>(xlr (u:= .int .i64 (t.F col)) pl_3 (hT.F.below hS.below))) ?_
  refine zDrv 11 (xfb 2 fd_175_2) ?_
  refine zdla 12 (fun w hS=>(xlb 0 pl_22 hS)) ?_
  refine zDrv 13 xmv ?_
  refine zDrv 14 (xix (kk:=row) sl_22 hT.B.slh) ?_
  refine zdla 15 (fun w hS=>(xlr (u:= .int .i64 (t.B row)) pl_3 (hT.B.below hS.below))) ?_
  refine zDrv 16 (xix (kk:=row) sl_22 hv2) ?_
  refine zde 17 (xso 2 pl_3 hS (Zs _ _ _)) ?_;clear hS;rintro w hS
  replace hS:=hS.n5
  refine⟨⟨fun h=>absurd h (by decide),hS.pk [0,1,4]⟩,?_⟩
  refine zDrv 18 (xix (kk:=col) sl_22 hv4) ?_
  refine zde 19 (xso 3 pl_3 hS (Zs _ _ _)) ?_;clear hS;rintro w hS
  replace hS:=hS.n5
  refine⟨⟨fun h=>absurd h (by decide),hS.pk [0,1,4]⟩,?_⟩
  refine zdd<|ztn<|zsr ?_
  refine zlv xas ?_
  refine TX 12 (u:=B (True)) (Yq trivial).symm ?_
  refine zx5 ?_
  refine zlv xas ?_
  refine zx6 ?_
  replace hS:=hS.addnil 1 22 (fun _=>Value.slice none 0 0)
  replace hS:=hS.n6
  replace hS:=hS.addrows 3 (fun _=>Value.slice none 0 0) t.ln ((piv t row col).C)
  replace hS:=hS.n7
  replace hS:=hS.n7
  have hrs0:=fun k (k0:0<=k) (k1:k<0)=>hS.slhIn 6 rfl k0 k1
  refine zlp (fun mm M w=>∃(sm:Prop) (nC:Int) (wv:Int->Value) (i:Int) (wC:Value),mm=((t.nc-i).toNat)/\(0<=i)/\(i<=t.nc)/\(nC=i)/\(sm↔(∀a b,0<=a->a<i->0<=b->b<=t.nf-> -1073741824<=Zz t (row+1) (col+1) a b/\Zz t (row+1) (col+1) a b<=1073741824))/\(∀a b,0<=a->a<i->0<=b->b<=t.nf->WM t (row+1) (col+1) a b)/\(Slh wC nC)/\M= [(3,.pointer (some ⟨g1,0,none⟩)),(6,.pointer (some ⟨g2,0,none⟩)),(8,.int .i64 (row+1)),(9,.int .i64 (col+1)),(10,.int .i64 1),(11,.pointer (some ⟨g3,0,none⟩)),(12,B (sm)),(13,.int .i64 i)]/\Sat w0 w [.blk g1 [.int .i64 t.vars,.int .i64 t.den,vB,vF,vC],.blk g2 [.int .i64 0,.int .i64 0,.slice none 0 0,.slice none 0 0,.slice none 0 0],.own v2 1 3 t.nb (ints (upd (cat 0 (fun _=>0) t.B) row (t.F col))),.own v4 1 3 t.nf (ints (upd (cat 0 (fun _=>0) t.F) col (t.B row))),.blk g3 [.int .i64 t.vars,.int .i64 ((t.C (row+1)) (col+1)),v2,v4,wC],.own wC 1 22 nC wv,.sem (Frame.rows 3 nC wv t.ln ((piv t row col).C))]) ⟨True,0,(fun _=>Value.slice none 0 0),0,(.slice none 0 0),rfl,(by omega),(by omega),(by omega),?_,?_,?_,rfl,hS⟩ ?_
  ·
   exact⟨fun _ a b a0 a1=>by omega,fun _=>trivial⟩
  ·
   intro a b a0 a1;omega
  ·
   exact slh_nil
  clear hS w
  rintro mm M w ⟨sm,nC,wv,i,wC,rfl,h0,h1,hnC,hsm,hdv,hwC,rfl,hS⟩
  have hrs3:=fun k (k0:0<=k) (k1:k<nC)=>hS.slhIn 6 rfl k0 k1
  refine zx11 ?_
  refine zlv xmv ?_
  refine zlv (xfb 4 fd_175_4) ?_
  refine zlv (xlb 0 pl_27 hS) ?_
  refine zlv (xln sl_27 hT.C.row.slh) ?_
  refine zlv xlss ?_
  refine zlt ?_
  refine zcif ?_ ?_<;>intro hc
  ·
   refine zx3 ?_
   refine zlv xas ?_
   refine zx5 ?_
   refine zlv xas ?_
   refine zx6 ?_
   replace hS:=hS.addnil 1 3 (ints (fun _=>0))
   replace hS:=hS.n8
   refine zlp (fun mm M w=>∃(sn:Prop) (nl:Int) (j:Int) (wl:Value) (fl:Int->Int),mm=((t.nf+1-j).toNat)/\(0<=j)/\(j<=t.nf+1)/\(nl=j)/\(sn↔((∀a b,0<=a->a<i->0<=b->b<=t.nf-> -1073741824<=Zz t (row+1) (col+1) a b/\Zz t (row+1) (col+1) a b<=1073741824)/\∀b,0<=b->b<j-> -1073741824<=Zz t (row+1) (col+1) i b/\Zz t (row+1) (col+1) i b<=1073741824))/\(∀b,0<=b->b<j->WM t (row+1) (col+1) i b)/\(∀b,0<=b->b<j->fl b=(piv t row col).C i b)/\(Slh wl nl)/\M= [(3,.pointer (some ⟨g1,0,none⟩)),(6,.pointer (some ⟨g2,0,none⟩)),(8,.int .i64 (row+1)),(9,.int .i64 (col+1)),(10,.int .i64 1),(11,.pointer (some ⟨g3,0,none⟩)),(12,B (sn)),(13,.int .i64 i),(14,wl),(15,.int .i64 j)]/\Sat w0 w [.blk g1 [.int .i64 t.vars,.int .i64 t.den,vB,vF,vC],.blk g2 [.int .i64 0,.int .i64 0,.slice none 0 0,.slice none 0 0,.slice none 0 0],.own v2 1 3 t.nb (ints (upd (cat 0 (fun _=>0) t.B) row (t.F col))),.own v4 1 3 t.nf (ints (upd (cat 0 (fun _=>0) t.F) col (t.B row))),.blk g3 [.int .i64 t.vars,.int .i64 ((t.C (row+1)) (col+1)),v2,v4,wC],.own wC 1 22 nC wv,.sem (Frame.rows 3 nC wv t.ln ((piv t row col).C)),.own wl 1 3 nl (ints fl)]) ⟨sm,0,0,(.slice none 0 0),(fun _=>0),rfl,(by omega),(by omega),(by omega),?_,?_,?_,?_,rfl,hS⟩ ?_
   ·
    exact⟨fun h=>⟨hsm.1 h,fun b b0 b1=>by omega⟩,fun h=>hsm.2 h.1⟩
   ·
    intro b b0 b1;omega
   ·
    intro b b0 b1;omega
   ·
    exact slh_nil
   clear hS w
   rintro mm M w ⟨sn,nl,j,wl,fl,rfl,j0,j1,hnl,hsn,hdr,hfl,hwl,rfl,hS⟩
   refine zx11 ?_
   refine zlv xmv ?_
   refine zlv (xfb 4 fd_175_4) ?_
   refine zlv (xlb 0 pl_27 hS) ?_
   have hli:=hp.len (i:=i) (by omega) (by omega)
   refine zlv xmv ?_
   refine zlv (xix (kk:=i) sl_27 hT.C.row.slh) ?_
   refine zlv (xlr (u:=(vv i)) pl_22 (hT.C.row.below hS.below)) ?_
   refine zlv (xln sl_22 (hT.C.p i (by omega) (by omega)).slh) ?_
   refine zlv xlss ?_
   refine zlt ?_
   refine zcif ?_ ?_<;>intro hc
   ·
    refine zx3 ?_
    refine zlv (xls 0 st_175 hS) ?_
    refine zs4 ?_
    refine zlc (xc0 cl_178) (c_cell (t:=t) (i:=i) (j:=j) (r:=(row+1)) (s:=(col+1)) w (hT.below hS.below) hp (by omega) (by omega) (by omega) (by omega) (by omega) (by omega) (by omega) (by omega)) ?_;rintro _ w ⟨nn1,_,rfl,hnn1,rfl,hS'⟩
    replace hS:=hS.cmp hS';clear hS'
    refine zs2 ?_
    have hpcb:=VU hp (r:=row+1) (s:=col+1) (i:=i) (j:=j) (by omega) (by omega) (by omega) (by omega) (by omega) (by omega) (by omega) (by omega);rw [<-hnn1] at hpcb
    refine zs3 ?_
    refine zx5 ?_
    refine zs2 ?_
    refine zlt ?_
    refine zcif ?_ ?_<;>intro hc
    ·
     refine zsr ?_
     refine zlv (xany (v:= .agg #[.int .i64 0,.int .i64 0,.slice none 0 0,.slice none 0 0,.slice none 0 0])) ?_
     refine zle (xsw 1 st_175 hS) ?_;clear hS;rintro w hS
     replace hS:=hS.n8
     refine zlv xas ?_
     refine zlt<|zrt<|ztr<|zbr<|ztr<|ztr<|zbr<|ztr<|zbr<|ztr<|ztr<|zbr<|ztr<|ZI 1 st_175 hS ⟨_,rfl,?_⟩
     exact⟨_,_,_,fun _=>undef,Tb.zero,4,rfl,.inr (.inl ⟨⟨hp,by omega,by omega,by omega,by omega,hnz⟩,fun hd=>absurd (hd i j (by omega) (by omega) (by omega) (by omega)) ‹_›,rfl,rfl⟩),slh_nil,slh_nil,slh_nil,((((hS.sub (.cons _ (.cons _ (.cons _ (.cons _ (.cons _ (.cons _ (.cons _ (.cons _ .slnil))))))))).addnil 1 3 (ints Tb.zero.B)).addnil 1 3 (ints Tb.zero.F)).addnil 1 22 (fun _=>undef)).addrows 3 (fun _=>undef) Tb.zero.ln Tb.zero.C⟩
    refine ZR ?_
    refine zs2 ?_
    refine zlb 139 ?_ ?_<;>intro hc
    ·
     refine zs4 ?_
     refine zlb 143 ?_ ?_<;>intro hc
     ·
      refine zs4 ?_
      refine zlt<|zrg ?_
      refine zs3 ?_
      refine zlv (xmul (r:=nn1)) ?_
      refine zla (xli (n:=1) (len:=1) (pv:= [(0,.int .i64 nn1)]) (cs:= [.int .i64 nn1]) (c:=ints (fun _=>nn1)) sl_22 el_3 hS) ?_;rintro v5 w ⟨hS,hv5⟩
      replace hS:=hS.n9
      refine zla (xap 7 (r:=nl+1) sl_22 el_3 hS (hS.rowN 8 rfl) (ZJ _ _ _)) ?_;rintro v6 w ⟨hS,hv6⟩
      replace hS:=hS.n9
      refine zlv xas ?_
      refine zx10 ?_
      refine zlv xmv ?_
      refine zlv (xadd (r:=j+1)) ?_
      refine zlv xas ?_
      refine zln<|zlq ⟨nn1<=1073741824,nl+1,j+1,v6,(snoc fl nl nn1),rfl,(by omega),(by omega),(by omega),?_,?_,?_,?_,rfl,hS.pk [0,1,2,3,4,5,6,7]⟩
      ·
       constructor
       · intro hx
         first
         |exact hx.elim
         | exact⟨(hsn.1 (by assumption)).1,fun b b0 b1=>by
           by_cases e:b=j
           · rw [e];omega
           · exact(hsn.1 (by assumption)).2 b b0 (by omega)⟩
       · rintro⟨h1,h2⟩
         have h3:=h2 j j0 (by omega)
         first
         |omega
         |exact absurd (hsn.2 ⟨h1,fun b b0 b1=>h2 b b0 (by omega)⟩) (by assumption)
      ·
       have hdq:WM t (row+1) (col+1) i j:=by first|assumption|exact Classical.not_not.1 ‹_›
       intro b b0 b1
       by_cases e:b=j
       · rw [e];exact hdq
       · exact hdr b b0 (by omega)
      ·
       intro b b0 b1;by_cases e:b<nl
       · rw [Zk e];exact hfl b b0 (by omega)
       · obtain rfl:b=j:=by omega
         rw [Zl e,YN,hsg,<-hnn1];omega
      ·
       exact hv6
     iterate 2 refine zlo ?_
     refine zs2 ?_
     refine TX 12 (u:=B (False)) (B_false not_false).symm ?_
     refine zlt<|zrg ?_
     refine zs3 ?_
     refine zlv (xmul (r:=nn1)) ?_
     refine zla (xli (n:=1) (len:=1) (pv:= [(0,.int .i64 nn1)]) (cs:= [.int .i64 nn1]) (c:=ints (fun _=>nn1)) sl_22 el_3 hS) ?_;rintro v7 w ⟨hS,hv7⟩
     replace hS:=hS.n9
     refine zla (xap 7 (r:=nl+1) sl_22 el_3 hS (hS.rowN 8 rfl) (ZJ _ _ _)) ?_;rintro v8 w ⟨hS,hv8⟩
     replace hS:=hS.n9
     refine zlv xas ?_
     refine zx10 ?_
     refine zlv xmv ?_
     refine zlv (xadd (r:=j+1)) ?_
     refine zlv xas ?_
     refine zln<|zlq ⟨False,nl+1,j+1,v8,(snoc fl nl nn1),rfl,(by omega),(by omega),(by omega),?_,?_,?_,?_,rfl,hS.pk [0,1,2,3,4,5,6,7]⟩
     ·
      constructor
      · intro hx
        first
        |exact hx.elim
        | exact⟨(hsn.1 (by assumption)).1,fun b b0 b1=>by
          by_cases e:b=j
          · rw [e];omega
          · exact(hsn.1 (by assumption)).2 b b0 (by omega)⟩
      · rintro⟨h1,h2⟩
        have h3:=h2 j j0 (by omega)
        first
        |omega
        |exact absurd (hsn.2 ⟨h1,fun b b0 b1=>h2 b b0 (by omega)⟩) (by assumption)
     ·
      have hdq:WM t (row+1) (col+1) i j:=by first|assumption|exact Classical.not_not.1 ‹_›
      intro b b0 b1
      by_cases e:b=j
      · rw [e];exact hdq
      · exact hdr b b0 (by omega)
     ·
      intro b b0 b1;by_cases e:b<nl
      · rw [Zk e];exact hfl b b0 (by omega)
      · obtain rfl:b=j:=by omega
        rw [Zl e,YN,hsg,<-hnn1];omega
     ·
      exact hv8
    iterate 2 refine zlo ?_
    refine zs2 ?_
    iterate 2 refine zlo ?_
    refine zs2 ?_
    refine TX 12 (u:=B (False)) (B_false not_false).symm ?_
    refine zlt<|zrg ?_
    refine zs3 ?_
    refine zlv (xmul (r:=nn1)) ?_
    refine zla (xli (n:=1) (len:=1) (pv:= [(0,.int .i64 nn1)]) (cs:= [.int .i64 nn1]) (c:=ints (fun _=>nn1)) sl_22 el_3 hS) ?_;rintro v9 w ⟨hS,hv9⟩
    replace hS:=hS.n9
    refine zla (xap 7 (r:=nl+1) sl_22 el_3 hS (hS.rowN 8 rfl) (ZJ _ _ _)) ?_;rintro v10 w ⟨hS,hv10⟩
    replace hS:=hS.n9
    refine zlv xas ?_
    refine zx10 ?_
    refine zlv xmv ?_
    refine zlv (xadd (r:=j+1)) ?_
    refine zlv xas ?_
    refine zln<|zlq ⟨False,nl+1,j+1,v10,(snoc fl nl nn1),rfl,(by omega),(by omega),(by omega),?_,?_,?_,?_,rfl,hS.pk [0,1,2,3,4,5,6,7]⟩
    ·
     constructor
     · intro hx
       first
       |exact hx.elim
       | exact⟨(hsn.1 (by assumption)).1,fun b b0 b1=>by
         by_cases e:b=j
         · rw [e];omega
         · exact(hsn.1 (by assumption)).2 b b0 (by omega)⟩
     · rintro⟨h1,h2⟩
       have h3:=h2 j j0 (by omega)
       first
       |omega
       |exact absurd (hsn.2 ⟨h1,fun b b0 b1=>h2 b b0 (by omega)⟩) (by assumption)
    ·
     have hdq:WM t (row+1) (col+1) i j:=by first|assumption|exact Classical.not_not.1 ‹_›
     intro b b0 b1
     by_cases e:b=j
     · rw [e];exact hdq
     · exact hdr b b0 (by omega)
    ·
     intro b b0 b1;by_cases e:b<nl
     · rw [Zk e];exact hfl b b0 (by omega)
     · obtain rfl:b=j:=by omega
       rw [Zl e,YN,hsg,<-hnn1];omega
    ·
     exact hv10
   refine zxt<|ztx<|ztx<|zbh<|ztn<|zrg ?_
   refine zlv (xfb 4 fd_175_4) ?_
   refine zlv (xlb 4 pl_27 hS) ?_
   refine zlv xmv ?_
   refine zla (xli (n:=1) (len:=1) (pv:= [(0,wl)]) (cs:= [wl]) (c:=(fun _=>wl)) sl_27 ZL hS (hf:=by obtain⟨_,_,_,_,rfl,_⟩:=hwl;kernel_rfl)) ?_;rintro v11 w ⟨hS,hv11⟩
   replace hS:=hS.n9
   refine zla (xap 5 (r:=nC+1) sl_27 ZL hS (hS.rowN 8 rfl) (Ys _ _ _) (h1:=fun _ _ _=>hwl.one)) ?_;rintro v12 w ⟨hS,hv12⟩
   replace hS:=hS.n9
   replace hS:=Sat.merge (l1:= [_,_,_,_,_,_]) (l2:= []) (l3:= [_]) hS (by omega)
   have hrs4:=fun k (k0:0<=k) (k1:k<nC+1)=>hS.slhIn 6 rfl k0 k1
   replace hS:=hS.n8
   replace hS:=hS.rerows (vv':=gsn wv nC wl) (ln':=t.ln) (f':=(piv t row col).C) 6 rfl (fun k k0 k1=>by
     by_cases e:k<i
     · exact⟨rfl,Zo (by omega),fun j _ _=>by rw [Zo (by omega)]⟩
     · have hki:k=i:=by omega
       refine⟨rfl,?_,fun b b0 b1=> ?_⟩
       · rw [Zn (by omega),hki];omega
       · rw [Zn (by omega),hki];exact hfl b b0 (by rw [Zn (by omega)] at b1;omega))
   replace hS:=hS.n8
   have hrs4x:=fun k (k0:0<=k) (k1:k<nC+1)=>hS.slhIn 6 rfl k0 k1
   refine zlv (xfb 4 fd_175_4) ?_
   refine zle (xsb 4 pl_27 hS (hv:=hv12.one)) ?_;clear hS;rintro w hS
   replace hS:=hS.n8
   refine zx10 ?_
   refine zlv xmv ?_
   refine zlv (xadd (r:=i+1)) ?_
   refine zlv xas ?_
   refine zln<|zlq ⟨sn,nC+1,gsn wv nC wl,i+1,v12,rfl,(by omega),(by omega),(by omega),?_,?_,?_,rfl,hS.pk [0,1,2,3,4,5,6]⟩
   ·
    exact hsn.trans ⟨fun⟨h1,h2⟩ a b a0 a1 b0 b1=>by
     by_cases e:a=i
     · rw [e];exact h2 b b0 (by omega)
     · exact h1 a b a0 (by omega) b0 b1,fun h=>⟨fun a b a0 a1 b0 b1=>h a b a0 (by omega) b0 b1,fun b b0 b1=>h i b h0 (by omega) b0 (by omega)⟩⟩
   ·
    intro a b a0 a1 b0 b1
    by_cases e:a=i
    · subst e;exact hdr b b0 (by omega)
    · exact hdv a b a0 (by omega) b0 b1
   ·
    exact hv12
  refine zx18 ?_
  refine zs2 ?_
  refine zlt ?_
  refine zcif ?_ ?_<;>intro hc
  ·
   refine zsr ?_
   refine zlv (xany (v:= .agg #[.int .i64 0,.int .i64 0,.slice none 0 0,.slice none 0 0,.slice none 0 0])) ?_
   refine zle (xsw 1 st_175 hS) ?_;clear hS;rintro w hS
   replace hS:=hS.n7
   refine zlv xas ?_
   refine zx14<|ZI 1 st_175 hS ⟨_,rfl,?_⟩
   exact⟨_,_,_,fun _=>undef,Tb.zero,2,rfl,.inr (.inr (.inl ⟨⟨hp,by omega,by omega,by omega,by omega,hnz⟩,fun a b a0 a1 b0 b1=>hdv a b a0 (by omega) b0 b1,fun hq=>absurd (hsm.2 fun a b a0 a1 b0 b1=>by have hq1:=hq.cell (i:=a) (j:=b) a0 (by show a<=t.nb;omega) b0 b1;rw [YN,hsg] at hq1;omega) ‹_›,rfl,rfl⟩)),slh_nil,slh_nil,slh_nil,((((hS.sub (.cons _ (.cons _ (.cons _ (.cons _ (.cons _ (.cons _ (.cons _ .slnil)))))))).addnil 1 3 (ints Tb.zero.B)).addnil 1 3 (ints Tb.zero.F)).addnil 1 22 (fun _=>undef)).addrows 3 (fun _=>undef) Tb.zero.ln Tb.zero.C⟩
  refine ZR ?_
  refine zlv (xls 4 st_175 hS) ?_
  refine zle (xsw 1 st_175 hS (hd:=(Za rfl (Za rfl (Za hv2.one (Za hv4.one (Za hwC.one Zd))))))) ?_;clear hS;rintro w hS
  replace hS:=hS.n7
  refine zlv xas ?_
  refine zx1<|ZI 1 st_175 hS ⟨_,rfl,?_⟩
  obtain rfl:i=t.nc:=by omega
  have hden:((t.C (row+1)) (col+1))=(piv t row col).den:=by rw [WD,hsg];omega
  replace hS:=hS.recont 2 rfl (d:=ints (piv t row col).B) (fun k k0 k1=>by unfold ints;show Value.int .i64 (upd (cat 0 (fun _=>0) t.B) row (t.F col) k)=Value.int .i64 (upd t.B row (t.F col) k);congr 1;by_cases e:k=row;rw [e,ZA,ZA];rw [upd_ne _ _ e,upd_ne _ _ e];unfold cat;rw [if_neg (by omega),Int.sub_zero])
  replace hS:=hS.recont 3 rfl (d:=ints (piv t row col).F) (fun k k0 k1=>by unfold ints;show Value.int .i64 (upd (cat 0 (fun _=>0) t.F) col (t.B row) k)=Value.int .i64 (upd t.F col (t.B row) k);congr 1;by_cases e:k=col;rw [e,ZA,ZA];rw [upd_ne _ _ e,upd_ne _ _ e];unfold cat;rw [if_neg (by omega),Int.sub_zero])
  have hsm1:=hsm.1 (by first|assumption|exact Classical.not_not.1 ‹_›)
  subst hnC
  exact⟨_,_,_,_,piv t row col,0,by rw [<-hden];rfl,.inr (.inr (.inr ⟨⟨hp,by omega,by omega,by omega,by omega,hnz⟩,fun a b a0 a1 b0 b1=>hdv a b a0 (by omega) b0 b1,KR ⟨hp,by omega,by omega,by omega,by omega,hnz⟩ (fun a b a0 a1 b0 b1=>hsm1 a b a0 (by omega) b0 b1),rfl,rfl⟩)),hv2,hv4,hwC,hS.pk [2,3,5,6]⟩
  all_goals
   refine YC ?_
   refine zlt<|zct<|zsr ?_
   refine zlv (xany (v:= .agg #[.int .i64 0,.int .i64 0,.slice none 0 0,.slice none 0 0,.slice none 0 0])) ?_
   refine zle (xsw 1 st_175 hS) ?_;clear hS;rintro w hS
   replace hS:=hS.n2
   refine YC ?_
   refine zx14<|ZI 1 st_175 hS ⟨_,rfl,?_⟩
   exact⟨_,_,_,fun _=>undef,Tb.zero,1,rfl,.inl ⟨by first|exact fun hh=>absurd hh.1 ‹_›|(rintro⟨_,p1,p2,p3,p4,p5⟩;omega),rfl,rfl⟩,slh_nil,slh_nil,slh_nil,((((hS.sub (.cons _ (.cons _ .slnil))).addnil 1 3 (ints Tb.zero.B)).addnil 1 3 (ints Tb.zero.F)).addnil 1 22 (fun _=>undef)).addrows 3 (fun _=>undef) Tb.zero.ln Tb.zero.C⟩
theorem ZcF{vB vF vC:Value}{vv:Int->Value}{t:Tb}(w0:World)(hT:TAt w0 vB vF vC vv t):Calls Tryz.prog 159 [.agg #[.int .i64 t.vars,.int .i64 t.den,vB,vF,vC]].toArray w0 fun e w=>∃v,e= .returned v/\∃r c d e,v= .tuple #[.int .i64 r,.int .i64 c,B (d=true),.int .i64 e]/\NextR t r c d e/\Sat w0 w []:=
  (Zd1 w0 hT).mono fun e w h=>by
    obtain⟨v,he,r,c,d,e',hv,hn,hS⟩:=h
    exact⟨v,he,r,c,d,e',by rw [hv,Zc1],hn,hS⟩
set_option maxRecDepth 20000 in
theorem Zgp{vB vF vC:Value}{vv:Int->Value}{t:Tb}(w0:World)(hT:TAt w0 vB vF vC vv t):
    Calls Tryz.prog 125 [.agg #[.int .i64 t.vars,.int .i64 t.den,vB,vF,vC]].toArray w0 fun e w=>∃v,e= .returned v/\∃xB xF xC xv u z e,v= .tuple #[.agg #[.int .i64 u.vars,.int .i64 u.den,xB,xF,xC],.int .i64 e]/\Run 1000 t z e/\(e=0\/e=19->z=u)/\Slh xB u.nb/\Slh xF u.nf/\Slh xC u.nc/\Sat w0 w [.sem (Frame.alt (u=t/\xB=vB/\xF=vF/\xC=vC/\xv=vv) (Frame.bun [.own xB 1 3 u.nb (ints u.B),.own xF 1 3 u.nf (ints u.F),.own xC 1 22 u.nc xv,.sem (Frame.rows 3 u.nc xv u.ln u.C)]))]:=by
  refine Zj Tryz.func125 Tryz.ntmps125 fun w hS=> ?_
  refine zsr ?_
  refine zla (xbx (cs:= [_,_,_,_,_]) hS) ?_;rintro _ w ⟨g1,rfl,hS⟩
  replace hS:=hS.n1
  refine zla (xal (cs:= [_,_,_,_,_]) ZG hS) ?_;rintro _ w ⟨g2,rfl,hS⟩
  replace hS:=hS.n2
  refine zlv xas ?_
  refine zlz ?_
  refine zlv xas ?_
  refine zx6 ?_
  replace hS:=hS.altL (Frame.bun [.own vB 1 3 t.nb (ints t.B),.own vF 1 3 t.nf (ints t.F),.own vC 1 22 t.nc vv,.sem (Frame.rows 3 t.nc vv t.ln t.C)]) (p:=t=t/\vB=vB/\vF=vF/\vC=vC/\vv=vv) ⟨rfl,rfl,rfl,rfl,rfl⟩
  replace hS:=hS.n3
  refine zlp (fun mm M w=>∃(u:Tb) (xB:Value) (xF:Value) (xC:Value) (xv:Int->Value) (n:Int),mm=(((1001:Int)-n).toNat)/\(0<=n)/\(n<=1000)/\(Slh xB u.nb)/\(Slh xF u.nf)/\(Slh xC u.nc)/\(∀z e,Run (1000-n).toNat u z e->Run 1000 t z e)/\M= [(1,.pointer (some ⟨g1,0,none⟩)),(2,.pointer (some ⟨g2,0,none⟩)),(4,.int .i64 n)]/\Sat w0 w [.blk g1 [.int .i64 u.vars,.int .i64 u.den,xB,xF,xC],.blk g2 [.int .i64 0,.int .i64 0,.slice none 0 0,.slice none 0 0,.slice none 0 0],.sem (Frame.alt (u=t/\xB=vB/\xF=vF/\xC=vC/\xv=vv) (Frame.bun [.own xB 1 3 u.nb (ints u.B),.own xF 1 3 u.nf (ints u.F),.own xC 1 22 u.nc xv,.sem (Frame.rows 3 u.nc xv u.ln u.C)]))]) ⟨t,vB,vF,vC,vv,0,rfl,(by omega),(by omega),?_,?_,?_,?_,rfl,hS.sub (List.Sublist.refl _)⟩ ?_
  ·
   exact hT.B.slh
  ·
   exact hT.F.slh
  ·
   exact hT.C.row.slh
  ·
   exact fun z e h=>h
  clear hS w
  rintro mm M w ⟨u,xB,xF,xC,xv,n,rfl,n0,n1,hxB,hxF,hxC,hrun,rfl,hS⟩
  have htu:=Z1 (hT.below hS.below) hS 2 rfl
  have hub:=htu.B.slh.n0;have hub1:=htu.B.slh.n1;have huf:=htu.F.slh.n0;have huf1:=htu.F.slh.n1
  refine zsq<|zbk<|zsr ?_
  refine zlv (xls 0 st_175 hS) ?_
  refine zlc (xc0 ZfI) (ZcF (t:=u) w (Z1 (hT.below hS.below) hS 2 rfl)) ?_;rintro _ w ⟨rn1,cn1,dn1,en1,rfl,hnn1,hS'⟩
  replace hS:=hS.cmp hS';clear hS'
  have hrc:=hnn1.rng
  refine zs6 ?_
  refine zs3 ?_
  refine zlt<|zsq<|zbk<|zsr ?_
  refine zs3 ?_
  refine zlb 22 ?_ ?_<;>intro hc
  ·
   refine zlo ?_
   refine zs2 ?_
   refine zlt<|zct<|zsr ?_
   refine zlv (xls 0 st_175 hS) ?_
   refine zlv xmv ?_
   refine zle (xsw 1 st_175 hS (hd:=(Za rfl (Za rfl (Za hxB.one (Za hxF.one (Za hxC.one Zd))))))) ?_;clear hS;rintro w hS
   replace hS:=hS.n3
   refine zlv xas ?_
   refine zlt<|zrt<|zbr<|ztr<|zbr<|ztr<|ztr<|zbr<|ZI 1 st_175 hS ⟨_,rfl,?_⟩
   exact⟨xB,xF,xC,xv,u,u,_,rfl,hrun _ _ (.stop hnn1 (by first|exact .inl hc|exact .inr (by omega)|exact .inl ‹_›)),fun _=>rfl,hxB,hxF,hxC,hS.pk [2]⟩
  refine zs3 ?_
  refine zlt ?_
  refine zcif ?_ ?_<;>intro hc
  ·
   refine zsr ?_
   refine zlv (xls 0 st_175 hS) ?_
   refine zlv xmv ?_
   refine zle (xsw 1 st_175 hS (hd:=(Za rfl (Za rfl (Za hxB.one (Za hxF.one (Za hxC.one Zd))))))) ?_;clear hS;rintro w hS
   replace hS:=hS.n3
   refine zlv xas ?_
   refine zlt<|zrt<|zbr<|ztr<|zbr<|ztr<|ztr<|zbr<|ZI 1 st_175 hS ⟨_,rfl,?_⟩
   exact⟨xB,xF,xC,xv,u,u,_,rfl,hrun _ _ (.stop hnn1 (by first|exact .inl hc|exact .inr (by omega)|exact .inl ‹_›)),fun _=>rfl,hxB,hxF,hxC,hS.pk [2]⟩
  refine zsr ?_
  refine zlv xmv ?_
  have hn0:NextR u rn1 cn1 false 0:=by have h1:dn1=false:=(by simpa using‹¬(dn1=true)›);have h2:en1=0:=(by omega);have h3:=hnn1;rw [h1,h2] at h3;exact h3
  have hpu:=(hn0.prp (by omega)).1;have hq1:=hpu.n2;have hq2:=hpu.m2
  refine zs2 ?_
  refine zlt ?_
  refine zcif ?_ ?_<;>intro hc
  ·
   refine zsr ?_
   refine zlv (xany (v:= .agg #[.int .i64 0,.int .i64 0,.slice none 0 0,.slice none 0 0,.slice none 0 0])) ?_
   refine zle (xsw 1 st_175 hS) ?_;clear hS;rintro w hS
   replace hS:=hS.n3
   refine zlv xas ?_
   refine zlt<|zrt<|zbr<|ztr<|zbr<|ztr<|ztr<|zbr<|ZI 1 st_175 hS ⟨_,rfl,?_⟩
   replace hS:=((((hS.sub (.cons _ (.cons _ (.cons _ .slnil)))).addnil 1 3 (ints Tb.zero.B)).addnil 1 3 (ints Tb.zero.F)).addnil 1 22 (fun _=>undef)).addrows 3 (fun _=>undef) Tb.zero.ln Tb.zero.C
   exact⟨_,_,_,fun _=>undef,Tb.zero,_,_,rfl,hrun _ _ (by rw [show(1000-n).toNat=0 by omega];exact .lim hn0),fun h=>by omega,slh_nil,slh_nil,slh_nil,Sat.altR (Tb.zero=t/\(Value.slice none 0 0)=vB/\(Value.slice none 0 0)=vF/\(Value.slice none 0 0)=vC/\(fun _=>undef)=vv) (l1:= []) (l2:= []) (Sat.bundle (l1:= []) hS)⟩
  refine zsk<|zbn<|ztn<|zsr ?_
  refine zlv (xls 0 st_175 hS) ?_
  refine zs2 ?_
  refine zlc (xc0 ZfH) (ZcE (t:=u) (row:=rn1) (col:=cn1) w (Z1 (hT.below hS.below) hS 2 rfl) (by omega) (by omega)) ?_;rintro _ w ⟨vBk1,vFk1,vCk1,vvk1,tk1,ek1,rfl,hpvk1,hsBk1,hsFk1,hsCk1,hS'⟩
  replace hS:Sat w0 w [.blk g1 [.int .i64 u.vars,.int .i64 u.den,xB,xF,xC],.blk g2 [.int .i64 0,.int .i64 0,.slice none 0 0,.slice none 0 0,.slice none 0 0],.sem (Frame.alt (u=t/\xB=vB/\xF=vF/\xC=vC/\xv=vv) (Frame.bun [.own xB 1 3 u.nb (ints u.B),.own xF 1 3 u.nf (ints u.F),.own xC 1 22 u.nc xv,.sem (Frame.rows 3 u.nc xv u.ln u.C)])),.own vBk1 1 3 tk1.nb (ints tk1.B),.own vFk1 1 3 tk1.nf (ints tk1.F),.own vCk1 1 22 tk1.nc vvk1,.sem (Frame.rows 3 tk1.nc vvk1 tk1.ln tk1.C)]:=hS.comp hS';clear hS'
  have hrsk1:=fun k (k0:0<=k) (k1:k<tk1.nc)=>hS.slhIn 6 rfl k0 k1
  refine zs3 ?_
  refine zla (xal (cs:= [_,_,_,_,_]) ZG hS) ?_;rintro _ w ⟨g3,rfl,hS⟩
  replace hS:=hS.n8
  refine zle (xsw 7 st_175 hS (hd:=(Za rfl (Za rfl (Za hsBk1.one (Za hsFk1.one (Za hsCk1.one Zd))))))) ?_;clear hS;rintro w hS
  replace hS:=hS.n8
  refine zlv xas ?_
  refine zx5 ?_
  refine zs2 ?_
  refine zlt ?_
  refine zcif ?_ ?_<;>intro hc
  ·
   refine zsr ?_
   refine zlv (xany (v:= .agg #[.int .i64 0,.int .i64 0,.slice none 0 0,.slice none 0 0,.slice none 0 0])) ?_
   refine zlv xmv ?_
   refine zle (xsw 1 st_175 hS) ?_;clear hS;rintro w hS
   replace hS:=hS.n8
   refine zlv xas ?_
   refine zlt<|zrt<|ztr<|zbr<|ztr<|ztr<|zbr<|ZI 1 st_175 hS ⟨_,rfl,?_⟩
   replace hS:=((((hS.sub (.cons _ (.cons _ (.cons _ (.cons _ (.cons _ (.cons _ (.cons _ (.cons _ .slnil))))))))).addnil 1 3 (ints Tb.zero.B)).addnil 1 3 (ints Tb.zero.F)).addnil 1 22 (fun _=>undef)).addrows 3 (fun _=>undef) Tb.zero.ln Tb.zero.C
   exact⟨_,_,_,fun _=>undef,Tb.zero,_,_,rfl,hrun _ _ (by rw [show(1000-n).toNat=(1000-(n+1)).toNat+1 by omega];exact .bad hn0 hpvk1 (by omega)),fun h=>by rcases hpvk1 with⟨_,_,h1⟩|⟨_,_,_,h1⟩|⟨_,_,_,_,h1⟩|⟨_,_,_,_,h1⟩<;>omega,slh_nil,slh_nil,slh_nil,Sat.altR (Tb.zero=t/\(Value.slice none 0 0)=vB/\(Value.slice none 0 0)=vF/\(Value.slice none 0 0)=vC/\(fun _=>undef)=vv) (l1:= []) (l2:= []) (Sat.bundle (l1:= []) hS)⟩
  refine zsk<|ztn<|zrg ?_
  refine zlv (xls 7 st_175 hS) ?_
  refine zle (xsw 0 st_175 hS (hd:=(Za rfl (Za rfl (Za hsBk1.one (Za hsFk1.one (Za hsCk1.one Zd))))))) ?_;clear hS;rintro w hS
  replace hS:=hS.n8
  refine zx10 ?_
  refine zlv xmv ?_
  replace hS:=hS.sub (.cons_cons _ (.cons_cons _ (.cons _ (.cons_cons _ (.cons_cons _ (.cons_cons _ (.cons_cons _ (.cons _ .slnil))))))))
  replace hS:=hS.n6
  replace hS:=Sat.altR (tk1=t/\vBk1=vB/\vFk1=vF/\vCk1=vC/\vvk1=vv) (l1:= [.blk g1 [.int .i64 tk1.vars,.int .i64 tk1.den,vBk1,vFk1,vCk1],.blk g2 [.int .i64 0,.int .i64 0,.slice none 0 0,.slice none 0 0,.slice none 0 0]]) (l2:= []) (Sat.bundle (l1:= [.blk g1 [.int .i64 tk1.vars,.int .i64 tk1.den,vBk1,vFk1,vCk1],.blk g2 [.int .i64 0,.int .i64 0,.slice none 0 0,.slice none 0 0,.slice none 0 0]]) (l2:= [.own vBk1 1 3 tk1.nb (ints tk1.B),.own vFk1 1 3 tk1.nf (ints tk1.F),.own vCk1 1 22 tk1.nc vvk1,.sem (Frame.rows 3 tk1.nc vvk1 tk1.ln tk1.C)]) hS)
  replace hS:=hS.n3
  refine zlv (xadd (r:=n+1)) ?_
  refine zlv xas ?_
  refine zln<|zlq ⟨tk1,vBk1,vFk1,vCk1,vvk1,n+1,rfl,(by omega),(by omega),?_,?_,?_,?_,rfl,hS.sub (List.Sublist.refl _)⟩
  ·
   exact hsBk1
  ·
   exact hsFk1
  ·
   exact hsCk1
  ·
   intro z e hz;have he0:ek1=0:=(by omega);rw [he0] at hpvk1;exact hrun z e (by rw [show(1000-n).toNat=(1000-(n+1)).toNat+1 by omega];exact .go hn0 hpvk1 hz)
def OptR(t t':Tb)(e:Int):Prop:=∃u f,Run 1000 t u f/\((f=0/\e=0/\t'=u)\/(f≠0/\e=f/\t'=Tb.zero))
theorem OptR.same{t t1 t2:Tb}{e1 e2:Int}(h1:OptR t t1 e1)(h2:OptR t t2 e2):t1=t2/\e1=e2:=by
  obtain⟨u,f,hr,h⟩:=h1
  obtain⟨u',f',hr',h'⟩:=h2
  obtain⟨rfl,rfl⟩:=hr.same hr'
  rcases h with⟨a1,a2,a3⟩|⟨a1,a2,a3⟩<;>rcases h' with⟨b1,b2,b3⟩|⟨b1,b2,b3⟩
  · exact⟨by rw [a3,b3],by omega⟩
  · exact absurd a1 b1
  · exact absurd b1 a1
  · exact⟨by rw [a3,b3],by omega⟩
set_option maxRecDepth 20000 in
theorem ZcB{vc vA vb:Value}{vq:Int->Value}{p:Lp}(w0:World)(hL:LAt w0 vc vA vb vq p):
    Calls Tryz.prog 124 [.agg #[vc,vA,vb]].toArray w0 fun e w=>∃v,e= .returned v/\∃vB vF vC vv t' e,v= .tuple #[.agg #[.int .i64 t'.vars,.int .i64 t'.den,vB,vF,vC],.int .i64 e]/\StartR p t' e/\Slh vB t'.nb/\Slh vF t'.nf/\Slh vC t'.nc/\Sat w0 w [.own vB 1 3 t'.nb (ints t'.B),.own vF 1 3 t'.nf (ints t'.F),.own vC 1 22 t'.nc vv,.sem (Frame.rows 3 t'.nc vv t'.ln t'.C)]:=by
  have hn:=hL.c.slh.n0;have hn1:=hL.c.slh.n1;have hm:=hL.A.row.slh.n0;have hm1:=hL.A.row.slh.n1;have hk:=hL.b.slh.n0;have hk1:=hL.b.slh.n1
  refine Zj Tryz.func124 Tryz.ntmps124 fun w hS=> ?_
  refine zsr ?_
  refine zla (xbx (cs:= [_,_,_]) hS) ?_;rintro _ w ⟨g1,rfl,hS⟩
  replace hS:=hS.n1
  refine zla (xal (cs:= [_,_,_,_,_]) ZG hS) ?_;rintro _ w ⟨g2,rfl,hS⟩
  replace hS:=hS.n2
  refine zlv xas ?_
  refine zx5 ?_
  refine zlv (xls 0 VK hS) ?_
  refine zlc (xc0 ZfJ) (ZcA (p:=p) w (hL.below hS.below)) ?_;rintro _ w ⟨rfl,hS'⟩
  replace hS:=hS.cmp hS';clear hS'
  refine zlv ZX ?_
  refine zlt ?_
  refine zcif ?_ ?_<;>intro hc
  ·
   refine zsr ?_
   refine zlv (xany (v:= .agg #[.int .i64 0,.int .i64 0,.slice none 0 0,.slice none 0 0,.slice none 0 0])) ?_
   refine zle (xsw 1 st_175 hS) ?_;clear hS;rintro w hS
   replace hS:=hS.n2
   refine zlv xas ?_
   refine zx14<|ZI 1 st_175 hS ⟨_,rfl,?_⟩
   exact⟨_,_,_,fun _=>undef,Tb.zero,1,rfl,.inl ⟨‹_›,rfl,rfl⟩,slh_nil,slh_nil,slh_nil,((((hS.sub (.cons _ (.cons _ .slnil))).addnil 1 3 (ints Tb.zero.B)).addnil 1 3 (ints Tb.zero.F)).addnil 1 22 (fun _=>undef)).addrows 3 (fun _=>undef) Tb.zero.ln Tb.zero.C⟩
  refine ZR ?_
  refine zlv (xfb 0 fd_134_0) ?_
  have hl:LOk p:=by first|assumption|exact Classical.not_not.1 ‹¬¬(LOk p)›
  have b1:=hl.n1
  have b2:=hl.n2
  have b3:=hl.m2
  have b4:=hl.k
  refine zlv (xlb 0 pl_22 hS) ?_
  refine zlv (xln sl_22 hL.c.slh) ?_
  refine zlv xas ?_
  refine zlz ?_
  refine zlv xmv ?_
  refine zla (xli (n:=1) (len:=1) (pv:= [(0,.int .i64 0)]) (cs:= [.int .i64 0]) (c:=ints (fun _=>0)) sl_22 el_3 hS) ?_;rintro v1 w ⟨hS,hv1⟩
  replace hS:=hS.n3
  refine zlv (xfb 0 fd_134_0) ?_
  refine zlv (xlb 0 pl_22 hS) ?_
  refine zla (xap 2 (r:=p.n+1) (f:=ints (cat 1 (fun _=>0) p.c)) sl_22 el_3 hS (hL.c.below hS.below) (by exact Zg _ _ _)) ?_;rintro v2 w ⟨hS,hv2⟩
  replace hS:=hS.n3
  refine zla (xli (n:=1) (len:=1) (pv:= [(0,v2)]) (cs:= [v2]) (c:=(fun _=>v2)) sl_27 ZL hS (hf:=by obtain⟨_,_,_,_,rfl,_⟩:=hv2;kernel_rfl)) ?_;rintro v3 w ⟨hS,hv3⟩
  replace hS:=hS.n4
  refine zlv (xany (v:= .agg #[.int .i64 p.n,.int .i64 1,.slice none 0 0,.slice none 0 0,v3]) (hr:=by obtain⟨_,_,_,_,rfl,_⟩:=hv3;kernel_rfl)) ?_
  refine zla (xal (cs:= [_,_,_,_,_]) ZG hS) ?_;rintro _ w ⟨g3,rfl,hS⟩
  replace hS:=hS.n5
  refine zle (xsw 4 st_175 hS (hd:=(Za rfl (Za rfl (Za rfl (Za rfl (Za hv3.one Zd))))))) ?_;clear hS;rintro w hS
  replace hS:=hS.n5
  refine zx5 ?_
  refine zlv xas ?_
  refine zx6 ?_
  replace hS:=hS.addrows 3 (fun _=>Value.slice none 0 0) (fun _=>0) (fun _ _=>0)
  replace hS:=hS.n6
  replace hS:=Sat.merge2 (l1:= [.blk g1 [vc,vA,vb],.blk g2 [.int .i64 0,.int .i64 0,.slice none 0 0,.slice none 0 0,.slice none 0 0]]) (l2:= [.own v3 1 22 1 (fun _=>v2),.blk g3 [.int .i64 p.n,.int .i64 1,.slice none 0 0,.slice none 0 0,v3]]) (l3:= []) hS (by omega)
  replace hS:=hS.rerows (vv':=(fun _=>v2)) (ln':=(Zm p).ln) (f':=(Zm p).C) 4 rfl (fun k k0 k1=>by
    obtain rfl:k=0:=by omega
    refine⟨YA _ _ _,?_,fun j j0 j1=> ?_⟩
    · rw [YA];show _=p.n+1;omega
    · rw [YA];unfold Zm cat;dsimp only;(repeat' split)<;>first|rfl|omega)
  replace hS:=hS.n5
  have hrs0:=fun k (k0:0<=k) (k1:k<1)=>hS.slhIn 4 rfl k0 k1
  replace hS:=hS.addnil 1 3 (ints (fun _=>0))
  replace hS:=hS.n6
  replace hS:=hS.addnil 1 3 (ints (fun _=>0))
  replace hS:=hS.n7
  refine zlp (fun mm M w=>∃(nF:Int) (j:Int) (wF:Value) (fF:Int->Int),mm=((p.n-j).toNat)/\(0<=j)/\(j<=p.n)/\(nF=j)/\(∀k,0<=k->k<j->fF k=k)/\(Slh wF nF)/\M= [(1,.pointer (some ⟨g1,0,none⟩)),(2,.pointer (some ⟨g2,0,none⟩)),(3,.int .i64 0),(4,.int .i64 p.n),(5,.pointer (some ⟨g3,0,none⟩)),(6,.int .i64 j)]/\Sat w0 w [.blk g1 [vc,vA,vb],.blk g2 [.int .i64 0,.int .i64 0,.slice none 0 0,.slice none 0 0,.slice none 0 0],.own v3 1 22 1 (fun _=>v2),.blk g3 [.int .i64 p.n,.int .i64 1,(.slice none 0 0),wF,v3],.sem (Frame.rows 3 1 (fun _=>v2) ((Zm p).ln) ((Zm p).C)),.own wF 1 3 nF (ints fF),.own (.slice none 0 0) 1 3 0 (ints (fun _=>0))]) ⟨0,0,(.slice none 0 0),(fun _=>0),rfl,(by omega),(by omega),(by omega),?_,?_,rfl,hS⟩ ?_
  ·
   intro k k0 k1;omega
  ·
   exact slh_nil
  clear hS w
  rintro mm M w ⟨nF,j,wF,fF,rfl,j0,j1,hnF,hfF,hwF,rfl,hS⟩
  refine zx11 ?_
  refine zs3 ?_
  refine zlt ?_
  refine zcif ?_ ?_<;>intro hc
  ·
   refine zsk<|ztn<|zsq<|zbk<|zrg ?_
   refine zlv (xfb 3 fd_175_3) ?_
   refine zlv (xlb 3 pl_22 hS) ?_
   refine zlv xmv ?_
   refine zla (xli (n:=1) (len:=1) (pv:= [(0,.int .i64 j)]) (cs:= [.int .i64 j]) (c:=ints (fun _=>j)) sl_22 el_3 hS) ?_;rintro v4 w ⟨hS,hv4⟩
   replace hS:=hS.n8
   refine zla (xap 5 (r:=nF+1) sl_22 el_3 hS (hS.rowN 7 rfl) (ZJ _ _ _)) ?_;rintro v5 w ⟨hS,hv5⟩
   replace hS:=hS.n8
   refine zlv (xfb 3 fd_175_3) ?_
   refine zle (xsb 3 pl_22 hS (hv:=hv5.one)) ?_;clear hS;rintro w hS
   replace hS:=hS.n8
   refine zx10 ?_
   refine zlv xmv ?_
   refine zlv (xadd (r:=j+1)) ?_
   refine zlv xas ?_
   refine zln<|zlq ⟨nF+1,j+1,v5,(snoc fF nF j),rfl,(by omega),(by omega),(by omega),?_,?_,rfl,hS.pk [0,1,2,3,4,5,6]⟩
   ·
    intro k k0 k1;by_cases e:k<nF
    · rw [Zk e];exact hfF k k0 (by omega)
    · rw [Zl e];omega
   ·
    exact hv5
  refine zx18 ?_
  refine zlv xas ?_
  refine zx6<|zlp (fun mm M w=>∃(mB:Int) (nC:Int) (wv:Int->Value) (i:Int) (wB:Value) (fB:Int->Int) (wC:Value),mm=((p.m-i).toNat)/\(0<=i)/\(i<=p.m)/\(mB=i)/\(nC=i+1)/\(∀k,0<=k->k<i->fB k=p.n+k)/\(Slh wB mB)/\(Slh wC nC)/\M= [(1,.pointer (some ⟨g1,0,none⟩)),(2,.pointer (some ⟨g2,0,none⟩)),(3,.int .i64 0),(4,.int .i64 p.n),(5,.pointer (some ⟨g3,0,none⟩)),(7,.int .i64 i)]/\Sat w0 w [.blk g1 [vc,vA,vb],.blk g2 [.int .i64 0,.int .i64 0,.slice none 0 0,.slice none 0 0,.slice none 0 0],.own wC 1 22 nC wv,.blk g3 [.int .i64 p.n,.int .i64 1,wB,wF,wC],.sem (Frame.rows 3 nC wv ((Zm p).ln) ((Zm p).C)),.own wF 1 3 nF (ints fF),.own wB 1 3 mB (ints fB)]) ⟨0,1,(fun _=>v2),0,(.slice none 0 0),(fun _=>0),v3,rfl,(by omega),(by omega),(by omega),(by omega),?_,?_,?_,rfl,hS⟩ ?_
  ·
   intro k k0 k1;omega
  ·
   exact slh_nil
  ·
   exact hv3
  clear hS w
  rintro mm M w ⟨mB,nC,wv,i,wB,fB,wC,rfl,i0,i1,hmB,hnC,hfB,hwB,hwC,rfl,hS⟩
  have hrs1:=fun k (k0:0<=k) (k1:k<nC)=>hS.slhIn 4 rfl k0 k1
  refine zx11 ?_
  refine zlv xmv ?_
  refine zlv (xfb 1 fd_134_1) ?_
  refine zlv (xlb 0 pl_27 hS) ?_
  refine zlv (xln sl_27 hL.A.row.slh) ?_
  refine zlv xlss ?_
  refine zlt ?_
  refine zcif ?_ ?_<;>intro hc
  ·
   refine zx3 ?_
   refine zlv (xfb 2 fd_175_2) ?_
   refine zlv (xlb 3 pl_22 hS) ?_
   refine zs2 ?_
   refine zlv (xadd (r:=p.n+i)) ?_
   refine zla (xli (n:=1) (len:=1) (pv:= [(0,.int .i64 (p.n+i))]) (cs:= [.int .i64 (p.n+i)]) (c:=ints (fun _=>p.n+i)) sl_22 el_3 hS) ?_;rintro v6 w ⟨hS,hv6⟩
   replace hS:=hS.n8
   refine zla (xap 6 (r:=mB+1) sl_22 el_3 hS (hS.rowN 7 rfl) (ZJ _ _ _)) ?_;rintro v7 w ⟨hS,hv7⟩
   replace hS:=hS.n8
   refine zlv (xfb 2 fd_175_2) ?_
   refine zle (xsb 3 pl_22 hS (hv:=hv7.one)) ?_;clear hS;rintro w hS
   replace hS:=hS.n8
   refine zlt ?_
   refine zdst [0,1,3] [0,1] 18 mx_ hS ?_;clear hS;intro w hS
   refine zDrv 0 (xfb 4 fd_175_4) ?_
   have hri:=hl.rows i i0 (by omega)
   refine zdl 1 (fun w hS=>(xlb 2 pl_27 hS)) ?_
   refine zDrv 2 (xfb 2 fd_134_2) ?_
   refine zdla 3 (fun w hS=>(xlb 0 pl_22 hS)) ?_
   refine zDrv 4 xmv ?_
   refine zDrv 5 (xix (kk:=i) sl_22 hL.b.slh) ?_
   refine zdla 6 (fun w hS=>(xlr (u:= .int .i64 (p.b i)) pl_3 (hL.b.below hS.below))) ?_
   have hbi:=hl.b i i0 (by omega)
   refine zDrv 7 (xneg (r:= -((p.b i)))) ?_
   refine zDrv 9 (xfb 1 fd_134_1) ?_
   refine zdla 10 (fun w hS=>(xlb 0 pl_27 hS)) ?_
   refine zDrv 11 xmv ?_
   refine zDrv 12 (xix (kk:=i) sl_27 hL.A.row.slh) ?_
   refine zdla 13 (fun w hS=>(xlr (u:=(vq i)) pl_22 (hL.A.row.below hS.below))) ?_
   refine zda 8 (xli (n:=1) (len:=1) (pv:= [(0,.int .i64 (-((p.b i))))]) (cs:= [.int .i64 (-((p.b i)))]) (c:=ints (fun _=> -((p.b i)))) sl_22 el_3 hS) ?_;rintro v8 w ⟨hS,hv8⟩
   replace hS:=hS.n9
   refine⟨⟨fun _=>hS.pk [0,1,3],hS.pk [0,1]⟩,?_⟩
   refine zda 14 (xap 8 (r:=(p.ln i)+1) (f:=ints (cat 1 (fun _=> -(p.b i)) (p.A i))) sl_22 el_3 hS ((hL.A.p i (by omega) (by omega)).below hS.below) (by exact Zg _ _ _)) ?_;rintro v9 w ⟨hS,hv9⟩
   replace hS:=hS.n9
   refine⟨⟨fun _=>hS.pk [0,1,3],hS.pk [0,1]⟩,?_⟩
   refine zda 15 (xli (n:=1) (len:=1) (pv:= [(0,v9)]) (cs:= [v9]) (c:=(fun _=>v9)) sl_27 ZL hS (hf:=by obtain⟨_,_,_,_,rfl,_⟩:=hv9;kernel_rfl)) ?_;rintro v10 w ⟨hS,hv10⟩
   replace hS:=hS.n10
   refine⟨⟨fun _=>hS.pk [0,1,3],hS.pk [0,1]⟩,?_⟩
   refine zda 16 (xap 2 (r:=nC+1) sl_27 ZL hS (hS.rowN 9 rfl) (Ys _ _ _) (h1:=fun _ _ _=>hv9.one)) ?_;rintro v11 w ⟨hS,hv11⟩
   replace hS:=hS.n10
   replace hS:=Sat.merge (l1:= [_,_,_,_]) (l2:= [_,_,_]) (l3:= [_]) hS (by omega)
   have hrs2:=fun k (k0:0<=k) (k1:k<nC+1)=>hS.slhIn 4 rfl k0 k1
   replace hS:=hS.n9
   refine⟨⟨fun _=>hS.pk [0,1,3],hS.pk [0,1]⟩,?_⟩
   refine zDrv 17 (xfb 4 fd_175_4) ?_
   refine zde 18 (xsb 3 pl_27 hS (hv:=hv11.one)) ?_;clear hS;rintro w hS
   replace hS:=hS.n9
   refine⟨⟨fun h=>absurd h (by decide),hS.pk [0,1]⟩,?_⟩
   refine zdd<|zbn<|ztn<|zrg ?_
   refine zlv xmv ?_
   replace hS:=hS.rerows (vv':=gsn wv nC v9) (ln':=(Zm p).ln) (f':=(Zm p).C) 4 rfl (fun k k0 k1=>by
     by_cases e:k<i+1
     · exact⟨rfl,Zo (by omega),fun j _ _=>by rw [Zo (by omega)]⟩
     · have hki:k=i+1:=by omega
       refine⟨rfl,?_,fun j j0 j1=> ?_⟩
       · rw [Zn (by omega)];show _=p.n+1;omega
       · rw [Zn (by omega)];unfold Zm cat;dsimp only;(repeat' split)<;>first|rfl|omega|(congr 2;omega)|(congr 1;omega))
   replace hS:=hS.n9
   have hrs2x:=fun k (k0:0<=k) (k1:k<nC+1)=>hS.slhIn 4 rfl k0 k1
   refine zlv (xadd (r:=i+1)) ?_
   refine zlv xas ?_
   refine zln<|zlq ⟨mB+1,nC+1,gsn wv nC v9,i+1,v7,(snoc fB mB (p.n+i)),v11,rfl,(by omega),(by omega),(by omega),(by omega),?_,?_,?_,rfl,hS.pk [0,1,2,3,4,5,6]⟩
   ·
    intro k k0 k1;by_cases e:k<mB
    · rw [Zk e];exact hfB k k0 (by omega)
    · rw [Zl e];omega
   ·
    exact hv7
   ·
    exact hv11
  refine zx8 ?_
  refine zlv (xls 3 st_175 hS) ?_
  refine zle (xsw 1 st_175 hS (hd:=(Za rfl (Za rfl (Za hwB.one (Za hwF.one (Za hwC.one Zd))))))) ?_;clear hS;rintro w hS
  replace hS:=hS.n7
  refine zlv xas ?_
  refine zx1<|ZI 1 st_175 hS ⟨_,rfl,?_⟩
  obtain rfl:i=p.m:=by omega
  obtain rfl:mB=p.m:=by omega
  obtain rfl:nC=p.m+1:=by omega
  obtain rfl:nF=p.n:=by omega
  replace hS:=hS.recont 6 rfl (d:=ints (Zm p).B) (fun k k0 k1=>by unfold ints;rw [hfB k k0 (by simp at k1;omega)];rfl)
  replace hS:=hS.recont 5 rfl (d:=ints (Zm p).F) (fun k k0 k1=>by unfold ints;rw [hfF k k0 (by simp at k1;omega)];rfl)
  exact⟨_,_,_,_,Zm p,0,rfl,.inr ⟨hl,rfl,rfl⟩,hwB,hwF,hwC,(hS.pk [2,4,5,6]).perm (XZ (l1:= [_,_,_]) (l2:= []) (XZ (l1:= [_,_]) (l2:= []) (List.Perm.refl _)))⟩
set_option maxRecDepth 20000 in
theorem Zgq{vB vF vC:Value}{vv:Int->Value}{t:Tb}(w0:World)(hT:TAt w0 vB vF vC vv t)(hp:TPrp t):
    Calls Tryz.prog 126 [.agg #[.int .i64 t.vars,.int .i64 t.den,vB,vF,vC]].toArray w0 fun e w=>∃v,e= .returned v/\∃vX vY,v= .agg #[vX,vY,.int .i64 (t.C 0 0),.int .i64 t.den]/\Slh vX t.nf/\Slh vY t.nb/\Sat w0 w [.own vX 1 3 t.nf (ints (rdX t t.nb.toNat)),.own vY 1 3 t.nb (ints (rdY t t.nf.toNat))]:=by
  have hn:=hT.F.slh.n0;have hn1:=hT.F.slh.n1;have hb:=hT.B.slh.n0;have hb1:=hT.B.slh.n1;have hc0:=hT.C.row.slh.n0;have hc1:=hT.C.row.slh.n1
  have b1:=hp.n1;have b2:=hp.n2;have b3:=hp.m2;have b4:=hp.v;have b5:=hp.d1;have b6:=hp.d2;have b7:=hp.c
  have hl0:=hp.len (i:=0) (by omega) (by omega)
  refine Zj Tryz.func126 Tryz.ntmps126 fun w hS=> ?_
  refine zsr ?_
  refine zla (xbx (cs:= [_,_,_,_,_]) hS) ?_;rintro _ w ⟨g1,rfl,hS⟩
  replace hS:=hS.n1
  refine zla (xal (cs:= [_,_,_,_]) Wb hS) ?_;rintro _ w ⟨g2,rfl,hS⟩
  replace hS:=hS.n2
  refine zx7 ?_
  refine zgcut (fun M w=>∃(v1:Value) (v2:Value) (g3:Nat),(Slh v1 t.vars)/\(Slh v2 t.nb)/\M= [(0,.agg #[.int .i64 t.vars,.int .i64 t.den,vB,vF,vC]),(1,.pointer (some ⟨g1,0,none⟩)),(2,.pointer (some ⟨g2,0,none⟩)),(6,.pointer (some ⟨g1,0,none⟩)),(7,.int .i64 t.vars),(9,.pointer (some ⟨g1,2,none⟩)),(10,vB),(11,.int .i64 t.nb),(13,.pointer (some ⟨g1,4,none⟩)),(14,vC),(15,.pointer (some (cad vC 0))),(16,(vv 0)),(17,.pointer (some (cad (vv 0) 0))),(18,.int .i64 ((t.C 0) 0)),(19,.pointer (some ⟨g1,1,none⟩)),(20,.int .i64 t.den),(8,v1),(12,v2),(21,.agg #[v1,v2,.int .i64 ((t.C 0) 0),.int .i64 t.den]),(3,.pointer (some ⟨g3,0,none⟩))]/\Sat w0 w [.blk g1 [.int .i64 t.vars,.int .i64 t.den,vB,vF,vC],.blk g2 [.slice none 0 0,.slice none 0 0,.int .i64 0,.int .i64 0],.own v1 1 3 t.vars (ints (fun _=>0)),.own v2 1 3 t.nb (ints (fun _=>0)),.blk g3 [v1,v2,.int .i64 ((t.C 0) 0),.int .i64 t.den]]) ?_ ?_
  ·
   refine zdst [0,1] [0,1] 17 mx_ hS ?_;clear hS;intro w hS
   refine zDrv 0 (xfb 0 fd_175_0) ?_
   refine zdla 1 (fun w hS=>(xlb 0 pl_3 hS)) ?_
   refine zDrv 3 (xfb 2 fd_175_2) ?_
   refine zdla 4 (fun w hS=>(xlb 0 pl_22 hS)) ?_
   refine zDrv 5 (xln sl_22 hT.B.slh) ?_
   refine zDrv 7 (xfb 4 fd_175_4) ?_
   refine zdla 8 (fun w hS=>(xlb 0 pl_27 hS)) ?_
   refine zDrv 9 (xix (kk:=0) sl_27 hT.C.row.slh) ?_
   refine zdla 10 (fun w hS=>(xlr (u:=(vv 0)) pl_22 (hT.C.row.below hS.below))) ?_
   refine zDrv 11 (xix (kk:=0) sl_22 (hT.C.p 0 (by omega) (by omega)).slh) ?_
   refine zdla 12 (fun w hS=>(xlr (u:= .int .i64 ((t.C 0) 0)) pl_3 ((hT.C.p 0 (by omega) (by omega)).below hS.below))) ?_
   refine zDrv 13 (xfb 1 fd_175_1) ?_
   refine zdla 14 (fun w hS=>(xlb 0 pl_3 hS)) ?_
   refine Z9 (r:= [2,6,16]) ((Zt ?_ (Zt ?_ (Zt ?_ Z8))))
   ·
    refine zka (xmk sl_22 el_3 hS) ?_;rintro v1 w ⟨hS,hv1⟩
    replace hS:=hS.n3
    refine⟨⟨fun _=>hS.pk [0,1],hS.pk [0,1]⟩,?_⟩
    refine Z9 (r:= [6,16]) ((Zt ?_ (Zt ?_ Z8)))
    ·
     refine zka (xmk sl_22 el_3 hS) ?_;rintro v2 w ⟨hS,hv2⟩
     replace hS:=hS.n4
     refine⟨⟨fun _=>hS.pk [0,1],hS.pk [0,1]⟩,?_⟩
     refine zDrv 15 (xany (v:= .agg #[v1,v2,.int .i64 ((t.C 0) 0),.int .i64 t.den]) (hr:=by obtain⟨_,_,_,_,rfl,_⟩:=hv1;obtain⟨_,_,_,_,rfl,_⟩:=hv2;kernel_rfl)) ?_
     refine zda 16 (xal (cs:= [_,_,_,_]) Wb hS) ?_;rintro _ w ⟨g3,rfl,hS⟩
     replace hS:=hS.n5
     refine⟨⟨fun _=>hS.pk [0,1],hS.pk [0,1]⟩,?_⟩
     refine zde 17 (xsw 4 st_36 hS (hd:=(Za hv1.one (Za hv2.one (Za rfl (Za rfl Zd)))))) ?_;clear hS;rintro w hS
     replace hS:=hS.n5
     refine⟨⟨fun h=>absurd h (by decide),hS.pk [0,1]⟩,?_⟩
     refine zdd<|zgj ⟨v1,v2,g3,hv1,hv2,rfl,hS⟩
    refine zka (xal (cs:= [_,_,_,_]) Wb hS) ?_;rintro _ w ⟨g3,rfl,hS⟩
    replace hS:=hS.n4
    refine⟨⟨fun _=>hS.pk [0,1],hS.pk [0,1]⟩,?_⟩
    refine zda 6 (xmk sl_22 el_3 hS) ?_;rintro v2 w ⟨hS,hv2⟩
    replace hS:=hS.n5
    refine⟨⟨fun _=>hS.pk [0,1],hS.pk [0,1]⟩,?_⟩
    refine zDrv 15 (xany (v:= .agg #[v1,v2,.int .i64 ((t.C 0) 0),.int .i64 t.den]) (hr:=by obtain⟨_,_,_,_,rfl,_⟩:=hv1;obtain⟨_,_,_,_,rfl,_⟩:=hv2;kernel_rfl)) ?_
    refine zde 17 (xsw 3 st_36 hS (hd:=(Za hv1.one (Za hv2.one (Za rfl (Za rfl Zd)))))) ?_;clear hS;rintro w hS
    replace hS:=hS.n5
    refine⟨⟨fun h=>absurd h (by decide),hS.pk [0,1]⟩,?_⟩
    refine zdd<|zgj ⟨v1,v2,g3,hv1,hv2,rfl,hS.pk [0,1,2,4,3]⟩
   ·
    refine zka (xmk sl_22 el_3 hS) ?_;rintro v1 w ⟨hS,hv1⟩
    replace hS:=hS.n3
    refine⟨⟨fun _=>hS.pk [0,1],hS.pk [0,1]⟩,?_⟩
    refine Z9 (r:= [2,16]) ((Zt ?_ (Zt ?_ Z8)))
    ·
     refine zka (xmk sl_22 el_3 hS) ?_;rintro v2 w ⟨hS,hv2⟩
     replace hS:=hS.n4
     refine⟨⟨fun _=>hS.pk [0,1],hS.pk [0,1]⟩,?_⟩
     refine zDrv 15 (xany (v:= .agg #[v2,v1,.int .i64 ((t.C 0) 0),.int .i64 t.den]) (hr:=by obtain⟨_,_,_,_,rfl,_⟩:=hv2;obtain⟨_,_,_,_,rfl,_⟩:=hv1;kernel_rfl)) ?_
     refine zda 16 (xal (cs:= [_,_,_,_]) Wb hS) ?_;rintro _ w ⟨g3,rfl,hS⟩
     replace hS:=hS.n5
     refine⟨⟨fun _=>hS.pk [0,1],hS.pk [0,1]⟩,?_⟩
     refine zde 17 (xsw 4 st_36 hS (hd:=(Za hv2.one (Za hv1.one (Za rfl (Za rfl Zd)))))) ?_;clear hS;rintro w hS
     replace hS:=hS.n5
     refine⟨⟨fun h=>absurd h (by decide),hS.pk [0,1]⟩,?_⟩
     refine zdd<|zgj ⟨v2,v1,g3,hv2,hv1,rfl,hS.pk [0,1,3,2,4]⟩
    refine zka (xal (cs:= [_,_,_,_]) Wb hS) ?_;rintro _ w ⟨g3,rfl,hS⟩
    replace hS:=hS.n4
    refine⟨⟨fun _=>hS.pk [0,1],hS.pk [0,1]⟩,?_⟩
    refine zda 2 (xmk sl_22 el_3 hS) ?_;rintro v2 w ⟨hS,hv2⟩
    replace hS:=hS.n5
    refine⟨⟨fun _=>hS.pk [0,1],hS.pk [0,1]⟩,?_⟩
    refine zDrv 15 (xany (v:= .agg #[v2,v1,.int .i64 ((t.C 0) 0),.int .i64 t.den]) (hr:=by obtain⟨_,_,_,_,rfl,_⟩:=hv2;obtain⟨_,_,_,_,rfl,_⟩:=hv1;kernel_rfl)) ?_
    refine zde 17 (xsw 3 st_36 hS (hd:=(Za hv2.one (Za hv1.one (Za rfl (Za rfl Zd)))))) ?_;clear hS;rintro w hS
    replace hS:=hS.n5
    refine⟨⟨fun h=>absurd h (by decide),hS.pk [0,1]⟩,?_⟩
    refine zdd<|zgj ⟨v2,v1,g3,hv2,hv1,rfl,hS.pk [0,1,4,2,3]⟩
   refine zka (xal (cs:= [_,_,_,_]) Wb hS) ?_;rintro _ w ⟨g3,rfl,hS⟩
   replace hS:=hS.n3
   refine⟨⟨fun _=>hS.pk [0,1],hS.pk [0,1]⟩,?_⟩
   refine Z9 (r:= [2,6]) ((Zt ?_ (Zt ?_ Z8)))
   ·
    refine zka (xmk sl_22 el_3 hS) ?_;rintro v1 w ⟨hS,hv1⟩
    replace hS:=hS.n4
    refine⟨⟨fun _=>hS.pk [0,1],hS.pk [0,1]⟩,?_⟩
    refine zda 6 (xmk sl_22 el_3 hS) ?_;rintro v2 w ⟨hS,hv2⟩
    replace hS:=hS.n5
    refine⟨⟨fun _=>hS.pk [0,1],hS.pk [0,1]⟩,?_⟩
    refine zDrv 15 (xany (v:= .agg #[v1,v2,.int .i64 ((t.C 0) 0),.int .i64 t.den]) (hr:=by obtain⟨_,_,_,_,rfl,_⟩:=hv1;obtain⟨_,_,_,_,rfl,_⟩:=hv2;kernel_rfl)) ?_
    refine zde 17 (xsw 2 st_36 hS (hd:=(Za hv1.one (Za hv2.one (Za rfl (Za rfl Zd)))))) ?_;clear hS;rintro w hS
    replace hS:=hS.n5
    refine⟨⟨fun h=>absurd h (by decide),hS.pk [0,1]⟩,?_⟩
    refine zdd<|zgj ⟨v1,v2,g3,hv1,hv2,rfl,hS.pk [0,1,3,4,2]⟩
   refine zka (xmk sl_22 el_3 hS) ?_;rintro v1 w ⟨hS,hv1⟩
   replace hS:=hS.n4
   refine⟨⟨fun _=>hS.pk [0,1],hS.pk [0,1]⟩,?_⟩
   refine zda 2 (xmk sl_22 el_3 hS) ?_;rintro v2 w ⟨hS,hv2⟩
   replace hS:=hS.n5
   refine⟨⟨fun _=>hS.pk [0,1],hS.pk [0,1]⟩,?_⟩
   refine zDrv 15 (xany (v:= .agg #[v2,v1,.int .i64 ((t.C 0) 0),.int .i64 t.den]) (hr:=by obtain⟨_,_,_,_,rfl,_⟩:=hv2;obtain⟨_,_,_,_,rfl,_⟩:=hv1;kernel_rfl)) ?_
   refine zde 17 (xsw 2 st_36 hS (hd:=(Za hv2.one (Za hv1.one (Za rfl (Za rfl Zd)))))) ?_;clear hS;rintro w hS
   replace hS:=hS.n5
   refine⟨⟨fun h=>absurd h (by decide),hS.pk [0,1]⟩,?_⟩
   refine zdd<|zgj ⟨v2,v1,g3,hv2,hv1,rfl,hS.pk [0,1,4,3,2]⟩
  clear hS w;rintro M w ⟨v1,v2,g3,hv1,hv2,rfl,hS⟩
  refine ztn<|zsq<|zsr ?_
  refine zlv xas ?_
  refine zx6<|zlp (fun mm M w=>∃(i:Int) (fX:Int->Int),mm=((t.nb-i).toNat)/\(0<=i)/\(i<=t.nb)/\(fX=rdX t i.toNat)/\M= [(1,.pointer (some ⟨g1,0,none⟩)),(2,.pointer (some ⟨g2,0,none⟩)),(3,.pointer (some ⟨g3,0,none⟩)),(4,.int .i64 i)]/\Sat w0 w [.blk g1 [.int .i64 t.vars,.int .i64 t.den,vB,vF,vC],.blk g2 [.slice none 0 0,.slice none 0 0,.int .i64 0,.int .i64 0],.own v1 1 3 t.vars (ints fX),.own v2 1 3 t.nb (ints (fun _=>0)),.blk g3 [v1,v2,.int .i64 ((t.C 0) 0),.int .i64 t.den]]) ⟨0,(fun _=>0),rfl,(by omega),(by omega),?_,rfl,hS⟩ ?_
  ·
   rfl
  clear hS w
  rintro mm M w ⟨i,fX,rfl,h0,h1,hfX,rfl,hS⟩
  refine zx11 ?_
  refine zlv xmv ?_
  refine zlv (xfb 2 fd_175_2) ?_
  refine zlv (xlb 0 pl_22 hS) ?_
  refine zlv (xln sl_22 hT.B.slh) ?_
  refine zlv xlss ?_
  refine zlt ?_
  refine zcif ?_ ?_<;>intro hc
  ·
   refine zsk<|ztn<|zsq<|zbk<|zsq ?_
   refine zdst [0,1,2,3,4] [0,1,2,3,4] 1000 mx_ hS ?_;clear hS;intro w hS
   refine zDrv 0 (xfb 2 fd_175_2) ?_
   refine zdla 1 (fun w hS=>(xlb 0 pl_22 hS)) ?_
   have hrg:=hp.rngB (i:=i) h0 (by omega);have hli:=hp.len (i:=i+1) (by omega) (by omega)
   refine zDrv 2 xmv ?_
   refine zDrv 3 (xix (kk:=i) sl_22 hT.B.slh) ?_
   refine zdla 4 (fun w hS=>(xlr (u:= .int .i64 (t.B i)) pl_3 (hT.B.below hS.below))) ?_
   refine zDrv 5 (xfb 0 fd_175_0) ?_
   refine zdla 6 (fun w hS=>(xlb 0 pl_3 hS)) ?_
   refine zDrv 7 xlss ?_
   refine zdd<|ztn ?_
   refine zcif ?_ ?_<;>intro hc
   ·
    refine zdst [0,1,2,3,4] [0,1,3,4] 16 mx_ hS ?_;clear hS;intro w hS
    refine zDrv 0 (xfb 0 fd_36_0) ?_
    refine zdla 1 (fun w hS=>(xlb 3 pl_22 hS)) ?_
    refine zDrv 2 (xfb 2 fd_175_2) ?_
    refine zdla 3 (fun w hS=>(xlb 0 pl_22 hS)) ?_
    refine zDrv 4 xmv ?_
    refine zDrv 5 (xix (kk:=i) sl_22 hT.B.slh) ?_
    refine zdla 6 (fun w hS=>(xlr (u:= .int .i64 (t.B i)) pl_3 (hT.B.below hS.below))) ?_
    refine zDrv 7 (xfb 4 fd_175_4) ?_
    refine zdla 8 (fun w hS=>(xlb 0 pl_27 hS)) ?_
    refine zDrv 9 xmv ?_
    refine zDrv 10 (xadd (r:=i+1)) ?_
    refine zDrv 11 (xix (kk:=i+1) sl_27 hT.C.row.slh) ?_
    refine zdla 12 (fun w hS=>(xlr (u:=(vv (i+1))) pl_22 (hT.C.row.below hS.below))) ?_
    refine zDrv 13 (xix (kk:=0) sl_22 (hT.C.p (i+1) (by omega) (by omega)).slh) ?_
    refine zdla 14 (fun w hS=>(xlr (u:= .int .i64 ((t.C (i+1)) 0)) pl_3 ((hT.C.p (i+1) (by omega) (by omega)).below hS.below))) ?_
    refine zDrv 15 (xix (kk:=(t.B i)) sl_22 hv1) ?_
    refine zde 16 (xso 2 pl_3 hS (Zs _ _ _)) ?_;clear hS;rintro w hS
    replace hS:=hS.n5
    refine⟨⟨fun h=>absurd h (by decide),hS.pk [0,1,3,4]⟩,?_⟩
    refine zdd<|zbn<|ztn<|zrg ?_
    refine zlv xmv ?_
    refine zlv (xadd (r:=i+1)) ?_
    refine zlv xas ?_
    refine zln<|zlq ⟨i+1,(upd fX (t.B i) ((t.C (i+1)) 0)),rfl,(by omega),(by omega),?_,rfl,hS⟩
    ·
     rw [WA t h0,<-hfX];first|rw [if_pos (by omega)]|rw [if_neg (by omega)]
   refine zx4 ?_
   refine zlv xmv ?_
   refine zlv (xadd (r:=i+1)) ?_
   refine zlv xas ?_
   refine zln<|zlq ⟨i+1,fX,rfl,(by omega),(by omega),?_,rfl,hS⟩
   ·
    rw [WA t h0,<-hfX];first|rw [if_pos (by omega)]|rw [if_neg (by omega)]
  refine zx18 ?_
  refine zlv xas ?_
  refine zx6<|zlp (fun mm M w=>∃(j:Int) (fY:Int->Int),mm=((t.nf-j).toNat)/\(0<=j)/\(j<=t.nf)/\(fY=rdY t j.toNat)/\M= [(1,.pointer (some ⟨g1,0,none⟩)),(2,.pointer (some ⟨g2,0,none⟩)),(3,.pointer (some ⟨g3,0,none⟩)),(5,.int .i64 j)]/\Sat w0 w [.blk g1 [.int .i64 t.vars,.int .i64 t.den,vB,vF,vC],.blk g2 [.slice none 0 0,.slice none 0 0,.int .i64 0,.int .i64 0],.own v1 1 3 t.vars (ints fX),.own v2 1 3 t.nb (ints fY),.blk g3 [v1,v2,.int .i64 ((t.C 0) 0),.int .i64 t.den]]) ⟨0,(fun _=>0),rfl,(by omega),(by omega),?_,rfl,hS⟩ ?_
  ·
   rfl
  clear hS w
  rintro mm M w ⟨j,fY,rfl,j0,j1,hfY,rfl,hS⟩
  refine zx11 ?_
  refine zlv xmv ?_
  refine zlv (xfb 3 fd_175_3) ?_
  refine zlv (xlb 0 pl_22 hS) ?_
  refine zlv (xln sl_22 hT.F.slh) ?_
  refine zlv xlss ?_
  refine zlt ?_
  refine zcif ?_ ?_<;>intro hc
  ·
   refine zsk<|ztn<|zsq<|zbk<|zsq ?_
   refine zdst [0,1,2,3,4] [0,1,2,3,4] 1000 mx_ hS ?_;clear hS;intro w hS
   refine zDrv 0 (xfb 3 fd_175_3) ?_
   have hrg:=hp.rngF (i:=j) j0 (by omega) (by omega)
   refine zdla 1 (fun w hS=>(xlb 0 pl_22 hS)) ?_
   refine zDrv 2 xmv ?_
   refine zDrv 3 (xix (kk:=j) sl_22 hT.F.slh) ?_
   refine zdla 4 (fun w hS=>(xlr (u:= .int .i64 (t.F j)) pl_3 (hT.F.below hS.below))) ?_
   refine zDrv 5 (xfb 0 fd_175_0) ?_
   refine zdla 6 (fun w hS=>(xlb 0 pl_3 hS)) ?_
   refine zDrv 7 YL ?_
   refine zdd<|ztn ?_
   refine zcif ?_ ?_<;>intro hc
   ·
    refine zdst [0,1,2,3,4] [0,1,2,4] 19 mx_ hS ?_;clear hS;intro w hS
    refine zDrv 0 (xfb 1 fd_36_1) ?_
    refine zdla 1 (fun w hS=>(xlb 3 pl_22 hS)) ?_
    refine zDrv 2 (xfb 3 fd_175_3) ?_
    refine zdla 3 (fun w hS=>(xlb 0 pl_22 hS)) ?_
    refine zDrv 4 xmv ?_
    refine zDrv 5 (xix (kk:=j) sl_22 hT.F.slh) ?_
    refine zdla 6 (fun w hS=>(xlr (u:= .int .i64 (t.F j)) pl_3 (hT.F.below hS.below))) ?_
    refine zDrv 7 (xfb 0 fd_175_0) ?_
    refine zdla 8 (fun w hS=>(xlb 0 pl_3 hS)) ?_
    refine zDrv 9 (xsub (r:=(t.F j)-t.vars)) ?_
    refine zDrv 10 (xfb 4 fd_175_4) ?_
    refine zdla 11 (fun w hS=>(xlb 0 pl_27 hS)) ?_
    refine zDrv 12 (xix (kk:=0) sl_27 hT.C.row.slh) ?_
    refine zdla 13 (fun w hS=>(xlr (u:=(vv 0)) pl_22 (hT.C.row.below hS.below))) ?_
    refine zDrv 14 xmv ?_
    refine zDrv 15 (xadd (r:=j+1)) ?_
    refine zDrv 16 (xix (kk:=j+1) sl_22 (hT.C.p 0 (by omega) (by omega)).slh) ?_
    refine zdla 17 (fun w hS=>(xlr (u:= .int .i64 ((t.C 0) (j+1))) pl_3 ((hT.C.p 0 (by omega) (by omega)).below hS.below))) ?_
    refine zDrv 18 (xix (kk:=(t.F j)-t.vars) sl_22 hv2) ?_
    refine zde 19 (xso 3 pl_3 hS (Zs _ _ _)) ?_;clear hS;rintro w hS
    replace hS:=hS.n5
    refine⟨⟨fun h=>absurd h (by decide),hS.pk [0,1,2,4]⟩,?_⟩
    refine zdd<|zbn<|ztn<|zrg ?_
    refine zlv xmv ?_
    refine zlv (xadd (r:=j+1)) ?_
    refine zlv xas ?_
    refine zln<|zlq ⟨j+1,(upd fY ((t.F j)-t.vars) ((t.C 0) (j+1))),rfl,(by omega),(by omega),?_,rfl,hS⟩
    ·
     rw [Wz t j0,<-hfY];first|rw [if_pos (by omega)]|rw [if_neg (by omega)]
   refine zx4 ?_
   refine zlv xmv ?_
   refine zlv (xadd (r:=j+1)) ?_
   refine zlv xas ?_
   refine zln<|zlq ⟨j+1,fY,rfl,(by omega),(by omega),?_,rfl,hS⟩
   ·
    rw [Wz t j0,<-hfY];first|rw [if_pos (by omega)]|rw [if_neg (by omega)]
  refine zx8 ?_
  refine zlv (xls 4 st_36 hS) ?_
  refine zle (xsw 1 st_36 hS (hd:=(Za hv1.one (Za hv2.one (Za rfl (Za rfl Zd)))))) ?_;clear hS;rintro w hS
  replace hS:=hS.n5
  refine zx1<|zfc 1 st_36 hS ⟨_,rfl,?_⟩
  obtain rfl:i=t.nb:=by omega
  obtain rfl:j=t.nf:=by omega
  have hv9:=hp.v
  rw [hv9] at hv1
  replace hS:=hS.pk [2,3];rw [hv9] at hS;subst hfX;subst hfY
  exact⟨_,_,rfl,hv1,hv2,hS⟩
set_option maxRecDepth 20000 in
theorem ZcC{vc vA vb:Value}{vq:Int->Value}{p:Lp}(w0:World)(hL:LAt w0 vc vA vb vq p):
    Calls Tryz.prog 86 [.agg #[vc,vA,vb]].toArray w0 fun e w=>∃v,e= .returned v/\∃vX vY s e,v= .tuple #[.agg #[vX,vY,.int .i64 s.val,.int .i64 s.den],.int .i64 e]/\SolveR p s e/\Slh vX s.n/\Slh vY s.m/\Sat w0 w [.own vX 1 3 s.n (ints s.X),.own vY 1 3 s.m (ints s.Y)]:=by
  have hn:=hL.c.slh.n0;have hn1:=hL.c.slh.n1;have hm:=hL.A.row.slh.n0;have hm1:=hL.A.row.slh.n1;have hk:=hL.b.slh.n0;have hk1:=hL.b.slh.n1
  refine Zj Tryz.func86 Tryz.ntmps86 fun w hS=> ?_
  refine zsr ?_
  refine zla (xbx (cs:= [_,_,_]) hS) ?_;rintro _ w ⟨g1,rfl,hS⟩
  replace hS:=hS.n1
  refine zla (xal (cs:= [_,_,_,_]) Wb hS) ?_;rintro _ w ⟨g2,rfl,hS⟩
  replace hS:=hS.n2
  refine zlv xas ?_
  refine zlz ?_
  refine zlv (xls 0 VK hS) ?_
  refine zlc (xc0 Zf4) (ZcB (p:=p) w (hL.below hS.below)) ?_;rintro _ w ⟨vBk1,vFk1,vCk1,vvk1,tk1,ek1,rfl,hstk1,hsBk1,hsFk1,hsCk1,hS'⟩
  replace hS:Sat w0 w [.blk g1 [vc,vA,vb],.blk g2 [.slice none 0 0,.slice none 0 0,.int .i64 0,.int .i64 0],.own vBk1 1 3 tk1.nb (ints tk1.B),.own vFk1 1 3 tk1.nf (ints tk1.F),.own vCk1 1 22 tk1.nc vvk1,.sem (Frame.rows 3 tk1.nc vvk1 tk1.ln tk1.C)]:=hS.comp hS';clear hS'
  have hrsk1:=fun k (k0:0<=k) (k1:k<tk1.nc)=>hS.slhIn 5 rfl k0 k1
  refine zs3 ?_
  refine zla (xal (cs:= [_,_,_,_,_]) ZG hS) ?_;rintro _ w ⟨g3,rfl,hS⟩
  replace hS:=hS.n7
  refine zle (xsw 6 st_175 hS (hd:=(Za rfl (Za rfl (Za hsBk1.one (Za hsFk1.one (Za hsCk1.one Zd))))))) ?_;clear hS;rintro w hS
  replace hS:=hS.n7
  refine zlv xas ?_
  refine zx5 ?_
  refine zs2 ?_
  refine zlt ?_
  refine zcif ?_ ?_<;>intro hc
  ·
   refine zsr ?_
   refine zlv (xany (v:= .agg #[.slice none 0 0,.slice none 0 0,.int .i64 0,.int .i64 0])) ?_
   refine zlv xmv ?_
   refine zle (xsw 1 st_36 hS) ?_;clear hS;rintro w hS
   replace hS:=hS.n7
   refine zlv xas ?_
   refine zx14<|ZI 1 st_36 hS ⟨_,rfl,?_⟩
   obtain⟨hl0,hl1⟩:=hstk1.err (by omega)
   exact⟨_,_,So.zero,_,rfl,.inl ⟨hl0,rfl,hl1⟩,slh_nil,slh_nil,((hS.sub (.cons _ (.cons _ (.cons _ (.cons _ (.cons _ (.cons _ (.cons _ .slnil)))))))).addnil 1 3 (ints So.zero.X)).addnil 1 3 (ints So.zero.Y)⟩
  refine ZR ?_
  refine zlv (xls 6 st_175 hS) ?_
  refine zlc (xc0 Zf3) (Zgp (t:=tk1) w (⟨(hS.rowN 2 rfl),(hS.rowN 3 rfl),(⟨(hS.rowN 4 rfl),fun k k0 k1=>hS.rowIn 5 rfl k0 k1,fun k k0 k1=>hS.roomIn 5 rfl k0 k1⟩:MAt _ vCk1 tk1.nc vvk1 tk1.ln tk1.C)⟩:TAt _ vBk1 vFk1 vCk1 vvk1 tk1)) ?_;rintro _ w ⟨xBu1,xFu1,xCu1,xvu1,uu1,zuu1,euu1,rfl,hrunu1,hzzu1,hxBu1,hxFu1,hxCu1,hS'⟩
  replace hS:Sat w0 w [.blk g1 [vc,vA,vb],.blk g2 [.slice none 0 0,.slice none 0 0,.int .i64 0,.int .i64 0],.own vBk1 1 3 tk1.nb (ints tk1.B),.own vFk1 1 3 tk1.nf (ints tk1.F),.own vCk1 1 22 tk1.nc vvk1,.sem (Frame.rows 3 tk1.nc vvk1 tk1.ln tk1.C),.blk g3 [.int .i64 tk1.vars,.int .i64 tk1.den,vBk1,vFk1,vCk1],.sem (Frame.alt (uu1=tk1/\xBu1=vBk1/\xFu1=vFk1/\xCu1=vCk1/\xvu1=vvk1) (Frame.bun [.own xBu1 1 3 uu1.nb (ints uu1.B),.own xFu1 1 3 uu1.nf (ints uu1.F),.own xCu1 1 22 uu1.nc xvu1,.sem (Frame.rows 3 uu1.nc xvu1 uu1.ln uu1.C)]))]:=hS.comp hS';clear hS'
  have hxru1:=fun k (k0:0<=k) (k1:k<uu1.nc)=>((Z1 (⟨(hS.rowN 2 rfl),(hS.rowN 3 rfl),(⟨(hS.rowN 4 rfl),fun k k0 k1=>hS.rowIn 5 rfl k0 k1,fun k k0 k1=>hS.roomIn 5 rfl k0 k1⟩:MAt _ vCk1 tk1.nc vvk1 tk1.ln tk1.C)⟩:TAt _ vBk1 vFk1 vCk1 vvk1 tk1) hS 7 rfl).C.p k k0 k1).slh
  refine zs3 ?_
  refine zle (xsw 6 st_175 hS (hd:=(Za rfl (Za rfl (Za hxBu1.one (Za hxFu1.one (Za hxCu1.one Zd))))))) ?_;clear hS;rintro w hS
  replace hS:=hS.n8
  refine zlv xas ?_
  refine zx5 ?_
  refine zs2 ?_
  refine zlt ?_
  refine zcif ?_ ?_<;>intro hc
  ·
   refine zsr ?_
   refine zlv (xany (v:= .agg #[.slice none 0 0,.slice none 0 0,.int .i64 0,.int .i64 0])) ?_
   refine zlv xmv ?_
   refine zle (xsw 1 st_36 hS) ?_;clear hS;rintro w hS
   replace hS:=hS.n8
   refine zlv xas ?_
   refine zx14<|ZI 1 st_36 hS ⟨_,rfl,?_⟩
   obtain⟨hl,hts⟩:=hstk1.ok (by omega);rw [hts] at hrunu1
   exact⟨_,_,So.zero,_,rfl,.inr ⟨hl,_,hrunu1,.inl ⟨by omega,rfl⟩⟩,slh_nil,slh_nil,((hS.sub (.cons _ (.cons _ (.cons _ (.cons _ (.cons _ (.cons _ (.cons _ (.cons _ .slnil))))))))).addnil 1 3 (ints So.zero.X)).addnil 1 3 (ints So.zero.Y)⟩
  refine ZR ?_
  refine zlv (xls 6 st_175 hS) ?_
  have hzq:=hzzu1 (.inl (by omega));rw [hzq] at hrunu1
  obtain⟨hp,_,_,_⟩:=hrunu1.fin (.inl (by omega))
  have b1:=hp.n1
  have b2:=hp.n2
  have b3:=hp.m2
  have b4:=hp.v
  have b5:=hp.d1
  have b6:=hp.d2
  have b7:=hp.c
  refine zlc (xc0 Zf2) (Zgq (t:=uu1) w (Z1 (⟨(hS.rowN 2 rfl),(hS.rowN 3 rfl),(⟨(hS.rowN 4 rfl),fun k k0 k1=>hS.rowIn 5 rfl k0 k1,fun k k0 k1=>hS.roomIn 5 rfl k0 k1⟩:MAt _ vCk1 tk1.nc vvk1 tk1.ln tk1.C)⟩:TAt _ vBk1 vFk1 vCk1 vvk1 tk1) hS 7 rfl) hp) ?_;rintro _ w ⟨rXr1,rYr1,rfl,hrXr1,hrYr1,hS'⟩
  replace hS:Sat w0 w [.blk g1 [vc,vA,vb],.blk g2 [.slice none 0 0,.slice none 0 0,.int .i64 0,.int .i64 0],.own vBk1 1 3 tk1.nb (ints tk1.B),.own vFk1 1 3 tk1.nf (ints tk1.F),.own vCk1 1 22 tk1.nc vvk1,.sem (Frame.rows 3 tk1.nc vvk1 tk1.ln tk1.C),.blk g3 [.int .i64 uu1.vars,.int .i64 uu1.den,xBu1,xFu1,xCu1],.sem (Frame.alt (uu1=tk1/\xBu1=vBk1/\xFu1=vFk1/\xCu1=vCk1/\xvu1=vvk1) (Frame.bun [.own xBu1 1 3 uu1.nb (ints uu1.B),.own xFu1 1 3 uu1.nf (ints uu1.F),.own xCu1 1 22 uu1.nc xvu1,.sem (Frame.rows 3 uu1.nc xvu1 uu1.ln uu1.C)])),.own rXr1 1 3 uu1.nf (ints (rdX uu1 uu1.nb.toNat)),.own rYr1 1 3 uu1.nb (ints (rdY uu1 uu1.nf.toNat))]:=hS.comp hS';clear hS'
  refine zle (xsw 1 st_36 hS (hd:=(Za hrXr1.one (Za hrYr1.one (Za rfl (Za rfl Zd)))))) ?_;clear hS;rintro w hS
  replace hS:=hS.n10
  refine zlv xas ?_
  refine zx1<|ZI 1 st_36 hS ⟨_,rfl,?_⟩
  have he0:euu1=0:=by omega
  obtain⟨hl,hts⟩:=hstk1.ok (by omega);rw [hts,he0] at hrunu1
  exact⟨_,_,Xa uu1,0,rfl,.inr ⟨hl,uu1,hrunu1,.inr ⟨rfl,rfl⟩⟩,hrXr1,hrYr1,hS.pk [8,9]⟩
def SameS(s u:So):Prop:=(s.n=u.n/\∀k,0<=k->k<s.n->s.X k=u.X k)/\(s.m=u.m/\∀k,0<=k->k<s.m->s.Y k=u.Y k)/\s.val=u.val/\s.den=u.den
theorem SameS.refl(s:So):SameS s s:=⟨⟨rfl,fun _ _ _=>rfl⟩,⟨rfl,fun _ _ _=>rfl⟩,rfl,rfl⟩
end Go.Proofs.YtopmifmfecfaaaaGreat
namespace Go.Proofs.YtopmifmfecfaaaaGreat
open Go Go.RowKit Go.Proofs.Gw
theorem cl_144:Zb Tryz.prog 144=true:=by kernel_rfl
theorem ZfC:Zb Tryz.prog 165=true:=by kernel_rfl
theorem Zcg:Zb Tryz.prog 182=true:=by kernel_rfl
theorem UY:Zb Tryz.prog 25=true:=by kernel_rfl
theorem Vp:Zb Tryz.prog 47=true:=by kernel_rfl
theorem Zhv:Zb Tryz.prog 57=true:=by kernel_rfl
theorem Zhq:Zb Tryz.prog 73=true:=by kernel_rfl
theorem RG:Zp Tryz.prog 100 0=some 0:=by kernel_rfl
theorem RF:Zp Tryz.prog 100 1=some 1:=by kernel_rfl
theorem fd_24_0:Zp Tryz.prog 24 0=some 0:=by kernel_rfl
theorem fd_24_1:Zp Tryz.prog 24 1=some 1:=by kernel_rfl
theorem fd_24_2:Zp Tryz.prog 24 2=some 2:=by kernel_rfl
theorem fd_24_3:Zp Tryz.prog 24 3=some 3:=by kernel_rfl
theorem fd_35_0:Zp Tryz.prog 35 0=some 0:=by kernel_rfl
theorem fd_35_1:Zp Tryz.prog 35 1=some 1:=by kernel_rfl
theorem fd_35_2:Zp Tryz.prog 35 2=some 2:=by kernel_rfl
theorem fd_35_3:Zp Tryz.prog 35 3=some 3:=by kernel_rfl
theorem X9:ZB Tryz.prog 69=some (100,2):=by kernel_rfl
theorem YD:Zu Tryz.prog 24=some 4:=by kernel_rfl
theorem st_35:Zu Tryz.prog 35=some 4:=by kernel_rfl
set_option maxRecDepth 20000 in
theorem YP{vL vD:Value}{p:Prob}(w0:World)(h:PAt w0 vL vD p):
    Calls Tryz.prog 47 [.agg #[vL,vD,.int .i64 p.stock,.int .i64 p.kerf]].toArray w0 fun e w=>∃v,e= .returned v/\v=B p.Ok/\Sat w0 w []:=by
  have hm:=h.L.slh.n0;have hm1:=h.L.slh.n1;have hd:=h.D.slh.n0;have hs:=h.is;have hk:=h.ik
  refine Zj Tryz.func47 Tryz.ntmps47 fun w hS=> ?_
  refine zsr ?_
  refine zla (xbx (cs:= [_,_,_,_]) hS) ?_;rintro _ w ⟨g1,rfl,hS⟩
  replace hS:=hS.n1
  refine zlv xas ?_
  refine zx5 ?_
  refine zlv (xfb 0 fd_35_0) ?_
  refine zlv (xlb 0 pl_22 hS) ?_
  refine zlv (xln sl_22 h.L.slh) ?_
  refine zs2 ?_
  refine zlb 9 ?_ ?_<;>intro hc;rotate_left
  refine zlv (xfb 0 fd_35_0) ?_
  refine zlv (xlb 0 pl_22 hS) ?_
  refine zlv (xln sl_22 h.L.slh) ?_
  refine zs3 ?_
  refine zlb 15 ?_ ?_<;>intro hc;rotate_left
  refine zlv (xfb 1 fd_35_1) ?_
  refine zlv (xlb 0 pl_22 hS) ?_
  refine zlv (xln sl_22 h.D.slh) ?_
  refine zlv (xfb 0 fd_35_0) ?_
  refine zlv (xlb 0 pl_22 hS) ?_
  refine zlv (xln sl_22 h.L.slh) ?_
  refine zs3 ?_
  refine zlb 24 ?_ ?_<;>intro hc;rotate_left
  refine zlv (xfb 2 fd_35_2) ?_
  refine zlv (xlb 0 pl_3 hS) ?_
  refine zs3 ?_
  refine zlb 29 ?_ ?_<;>intro hc;rotate_left
  refine zlv (xfb 2 fd_35_2) ?_
  refine zlv (xlb 0 pl_3 hS) ?_
  refine zs3 ?_
  refine zlb 34 ?_ ?_<;>intro hc;rotate_left
  refine zlv (xfb 3 fd_35_3) ?_
  refine zlv (xlb 0 pl_3 hS) ?_
  refine zs3 ?_
  refine zlb 39 ?_ ?_<;>intro hc;rotate_left
  refine zlv (xfb 3 fd_35_3) ?_
  refine zlv (xlb 0 pl_3 hS) ?_
  refine zs2 ?_
  refine zlt ?_
  refine zcif ?_ ?_<;>intro hc
  ·
   refine zsr ?_
   refine zlv xas ?_
   refine zx14<|zf1 ⟨_,rfl,?_⟩
   first
   |exact⟨Zf (by intro hk;have h1:=hk.m1;have h2:=hk.m2;have h3:=hk.d;have h4:=hk.s1;have h5:=hk.s2;have h6:=hk.k1;have h7:=hk.k2;omega),hS.nl⟩
   |exact⟨Zf (by intro hk;have:=hk.all i (by omega) (by omega);unfold Prob.each at this;omega),hS.nl⟩
  refine YR ?_
  refine zlv (xfb 0 fd_35_0) ?_
  refine zlv (xlb 0 pl_22 hS) ?_
  refine zlv (xln sl_22 h.L.slh) ?_
  refine zlv xmv ?_
  refine zx6<|zlp (fun mm M w=>∃(i:Int),mm=((p.m-i).toNat)/\(0<=i)/\(i<=p.m)/\(∀k,0<=k->k<i->p.each k)/\M= [(1,.pointer (some ⟨g1,0,none⟩)),(45,vL),(46,.int .i64 p.m),(47,.int .i64 i)]/\Sat w0 w [.blk g1 [vL,vD,.int .i64 p.stock,.int .i64 p.kerf]]) ⟨0,rfl,(by omega),(by omega),?_,rfl,hS⟩ ?_
  ·
   intro k h0 h1;omega
  clear hS w
  rintro mm M w ⟨i,rfl,h0,h1,hall,rfl,hS⟩
  refine zsr ?_
  refine zlv xlss ?_
  refine zx7 ?_
  refine zcif ?_ ?_<;>intro hc
  ·
   refine zx3 ?_
   refine zlv xmv ?_
   refine zlv (xix (kk:=i) sl_22 h.L.slh) ?_
   refine zlv (xlr (u:= .int .i64 (p.L i)) pl_3 (h.L.below hS.below)) ?_
   have hbv:=h.iL i
   refine zs2 ?_
   refine zlz ?_
   refine zs3 ?_
   refine zlb 54 ?_ ?_<;>intro hc;rotate_left
   refine zlv xmv ?_
   refine zlv (xfb 2 fd_35_2) ?_
   refine zlv (xlb 0 pl_3 hS) ?_
   refine zs3 ?_
   refine zlb 60 ?_ ?_<;>intro hc;rotate_left
   refine zs3 ?_
   refine zlb 63 ?_ ?_<;>intro hc
   ·
    refine zlv xmv ?_
    refine zlv (xfb 0 fd_35_0) ?_
    refine zlv (xlb 0 pl_22 hS) ?_
    refine zlv xmv ?_
    refine zlv (xsub (r:=i-1)) ?_
    refine zlv (xix (kk:=i-1) sl_22 h.L.slh) ?_
    refine zlv (xlr (u:= .int .i64 (p.L (i-1))) pl_3 (h.L.below hS.below)) ?_
    have hbv:=h.iL (i-1)
    refine zs4 ?_
    refine zlb 74 ?_ ?_<;>intro hc;rotate_left
    refine zlv (xfb 1 fd_35_1) ?_
    refine zlv (xlb 0 pl_22 hS) ?_
    refine zlv xmv ?_
    refine zlv (xix (kk:=i) sl_22 h.D.slh) ?_
    refine zlv (xlr (u:= .int .i64 (p.D i)) pl_3 (h.D.below hS.below)) ?_
    have hbv:=h.iD i
    refine zs3 ?_
    refine zlb 82 ?_ ?_<;>intro hc;rotate_left
    refine zlv (xfb 1 fd_35_1) ?_
    refine zlv (xlb 0 pl_22 hS) ?_
    refine zlv xmv ?_
    refine zlv (xix (kk:=i) sl_22 h.D.slh) ?_
    refine zlv (xlr (u:= .int .i64 (p.D i)) pl_3 (h.D.below hS.below)) ?_
    have hbv:=h.iD i
    refine zs2 ?_
    refine zlt ?_
    refine zcif ?_ ?_<;>intro hc
    ·
     refine zsr ?_
     refine zlv xas ?_
     refine zx2<|zf1 ⟨_,rfl,?_⟩
     first
     |exact⟨Zf (by intro hk;have h1:=hk.m1;have h2:=hk.m2;have h3:=hk.d;have h4:=hk.s1;have h5:=hk.s2;have h6:=hk.k1;have h7:=hk.k2;omega),hS.nl⟩
     |exact⟨Zf (by intro hk;have:=hk.all i (by omega) (by omega);unfold Prob.each at this;omega),hS.nl⟩
    refine zx4 ?_
    refine zlv (xadd (r:=i+1)) ?_
    refine zlv xmv ?_
    refine zln<|zlq ⟨i+1,rfl,(by omega),(by omega),?_,rfl,hS⟩
    ·
     intro k h0' h1';rcases Int.lt_or_eq_of_le (show k<=i by omega) with hk|hk;exact hall k h0' hk;rw [hk];unfold Prob.each;omega
    all_goals
     refine YC ?_
     refine zlt<|zct<|zsr ?_
     refine YC ?_
     refine zx2<|zf1 ⟨_,rfl,?_⟩
     first
     |exact⟨Zf (by intro hk;have h1:=hk.m1;have h2:=hk.m2;have h3:=hk.d;have h4:=hk.s1;have h5:=hk.s2;have h6:=hk.k1;have h7:=hk.k2;omega),hS.nl⟩
     |exact⟨Zf (by intro hk;have:=hk.all i (by omega) (by omega);unfold Prob.each at this;omega),hS.nl⟩
   iterate 8 refine zlo ?_
   refine zs3 ?_
   refine zlv (xfb 1 fd_35_1) ?_
   refine zlv (xlb 0 pl_22 hS) ?_
   refine zlv xmv ?_
   refine zlv (xix (kk:=i) sl_22 h.D.slh) ?_
   refine zlv (xlr (u:= .int .i64 (p.D i)) pl_3 (h.D.below hS.below)) ?_
   have hbv:=h.iD i
   refine zs3 ?_
   refine zlb 82 ?_ ?_<;>intro hc;rotate_left
   refine zlv (xfb 1 fd_35_1) ?_
   refine zlv (xlb 0 pl_22 hS) ?_
   refine zlv xmv ?_
   refine zlv (xix (kk:=i) sl_22 h.D.slh) ?_
   refine zlv (xlr (u:= .int .i64 (p.D i)) pl_3 (h.D.below hS.below)) ?_
   have hbv:=h.iD i
   refine zs2 ?_
   refine zlt ?_
   refine zcif ?_ ?_<;>intro hc
   ·
    refine zsr ?_
    refine zlv xas ?_
    refine zx2<|zf1 ⟨_,rfl,?_⟩
    first
    |exact⟨Zf (by intro hk;have h1:=hk.m1;have h2:=hk.m2;have h3:=hk.d;have h4:=hk.s1;have h5:=hk.s2;have h6:=hk.k1;have h7:=hk.k2;omega),hS.nl⟩
    |exact⟨Zf (by intro hk;have:=hk.all i (by omega) (by omega);unfold Prob.each at this;omega),hS.nl⟩
   refine zx4 ?_
   refine zlv (xadd (r:=i+1)) ?_
   refine zlv xmv ?_
   refine zln<|zlq ⟨i+1,rfl,(by omega),(by omega),?_,rfl,hS⟩
   ·
    intro k h0' h1';rcases Int.lt_or_eq_of_le (show k<=i by omega) with hk|hk;exact hall k h0' hk;rw [hk];unfold Prob.each;omega
   all_goals
    refine YC ?_
    refine zlt<|zct<|zsr ?_
    refine YC ?_
    refine zx2<|zf1 ⟨_,rfl,?_⟩
    first
    |exact⟨Zf (by intro hk;have h1:=hk.m1;have h2:=hk.m2;have h3:=hk.d;have h4:=hk.s1;have h5:=hk.s2;have h6:=hk.k1;have h7:=hk.k2;omega),hS.nl⟩
    |exact⟨Zf (by intro hk;have:=hk.all i (by omega) (by omega);unfold Prob.each at this;omega),hS.nl⟩
  refine zx8 ?_
  refine zlv xas ?_
  refine zx1<|zf1 ⟨_,rfl,?_⟩
  exact⟨ZU ⟨by omega,by omega,by omega,by omega,by omega,by omega,by omega,fun k h0 h1=>hall k h0 (by omega)⟩,hS.nl⟩
  all_goals
   refine YC ?_
   refine zlt<|zct<|zsr ?_
   refine YC ?_
   refine zx14<|zf1 ⟨_,rfl,?_⟩
   first
   |exact⟨Zf (by intro hk;have h1:=hk.m1;have h2:=hk.m2;have h3:=hk.d;have h4:=hk.s1;have h5:=hk.s2;have h6:=hk.k1;have h7:=hk.k2;omega),hS.nl⟩
   |exact⟨Zf (by intro hk;have:=hk.all i (by omega) (by omega);unfold Prob.each at this;omega),hS.nl⟩
set_option maxRecDepth 20000 in
theorem YK{vL vD:Value}{p:Prob}(w0:World)(h:PAt w0 vL vD p):
    Calls Tryz.prog 25 [.agg #[vL,vD,.int .i64 p.stock,.int .i64 p.kerf]].toArray w0 fun e w=>∃v,e= .returned v/\v=B p.Ok/\Sat w0 w []:=by
  have hm:=h.L.slh.n0;have hm1:=h.L.slh.n1;have hd:=h.D.slh.n0;have hs:=h.is;have hk:=h.ik
  refine Zj Tryz.func25 Tryz.ntmps25 fun w hS=> ?_
  refine zsr ?_
  refine zla (xbx (cs:= [_,_,_,_]) hS) ?_;rintro _ w ⟨g1,rfl,hS⟩
  replace hS:=hS.n1
  refine zlv xas ?_
  refine zlz ?_
  refine zlv (xfb 0 fd_24_0) ?_
  refine zlv (xlb 0 pl_22 hS) ?_
  refine zlv (xln sl_22 h.L.slh) ?_
  refine zlv xas ?_
  refine zx5 ?_
  refine zs3 ?_
  refine zlb 10 ?_ ?_<;>intro hc;rotate_left
  refine zs4 ?_
  refine zlb 14 ?_ ?_<;>intro hc;rotate_left
  refine zlv (xfb 1 fd_24_1) ?_
  refine zlv (xlb 0 pl_22 hS) ?_
  refine zlv (xln sl_22 h.D.slh) ?_
  refine zs4 ?_
  refine zlb 21 ?_ ?_<;>intro hc;rotate_left
  refine zlv (xfb 2 fd_24_2) ?_
  refine zlv (xlb 0 pl_3 hS) ?_
  refine zs3 ?_
  refine zlb 26 ?_ ?_<;>intro hc;rotate_left
  refine zlv (xfb 2 fd_24_2) ?_
  refine zlv (xlb 0 pl_3 hS) ?_
  refine zs3 ?_
  refine zlb 31 ?_ ?_<;>intro hc;rotate_left
  refine zlv (xfb 3 fd_24_3) ?_
  refine zlv (xlb 0 pl_3 hS) ?_
  refine zs3 ?_
  refine zlb 36 ?_ ?_<;>intro hc;rotate_left
  refine zlv (xfb 3 fd_24_3) ?_
  refine zlv (xlb 0 pl_3 hS) ?_
  refine zs2 ?_
  refine zlt ?_
  refine zcif ?_ ?_<;>intro hc
  ·
   refine zsr ?_
   refine zlv xas ?_
   refine zx14<|zf1 ⟨_,rfl,?_⟩
   first
   |exact⟨Zf (by intro hk;have h1:=hk.m1;have h2:=hk.m2;have h3:=hk.d;have h4:=hk.s1;have h5:=hk.s2;have h6:=hk.k1;have h7:=hk.k2;omega),hS.nl⟩
   |exact⟨Zf (by intro hk;have:=hk.all i (by omega) (by omega);unfold Prob.each at this;omega),hS.nl⟩
  refine YR ?_
  refine zlv xas ?_
  refine zx6<|zlp (fun mm M w=>∃(i:Int),mm=((p.m-i).toNat)/\(0<=i)/\(i<=p.m)/\(∀k,0<=k->k<i->p.each k)/\M= [(1,.pointer (some ⟨g1,0,none⟩)),(3,.int .i64 p.m),(4,.int .i64 i)]/\Sat w0 w [.blk g1 [vL,vD,.int .i64 p.stock,.int .i64 p.kerf]]) ⟨0,rfl,(by omega),(by omega),?_,rfl,hS⟩ ?_
  ·
   intro k h0 h1;omega
  clear hS w
  rintro mm M w ⟨i,rfl,h0,h1,hall,rfl,hS⟩
  refine zx11 ?_
  refine zs3 ?_
  refine zlt ?_
  refine zcif ?_ ?_<;>intro hc
  ·
   refine zsk<|ztn<|zsq<|zbk<|zsq ?_
   refine zdst [0] [0] 1000 mx_ hS ?_;clear hS;intro w hS
   refine zDrv 0 (xfb 0 fd_24_0) ?_
   refine zdla 1 (fun w hS=>(xlb 0 pl_22 hS)) ?_
   refine zDrv 2 xmv ?_
   refine zDrv 3 (xix (kk:=i) sl_22 h.L.slh) ?_
   refine zdla 4 (fun w hS=>(xlr (u:= .int .i64 (p.L i)) pl_3 (h.L.below hS.below))) ?_
   have hbv:=h.iL i
   refine zDrv 5 xlss ?_
   refine zDrv 6 xmv ?_
   refine zdb 52 ?_ ?_<;>intro hc
   ·
    refine zdof 7 ?_
    refine zdof 8 ?_
    refine zdof 9 ?_
    refine zdof 10 ?_
    refine zdof 11 ?_
    refine zdof 12 ?_
    refine zdof 13 ?_
    refine zdof 14 ?_
    refine zDrv 15 xpt ?_
    refine zDrv 16 xmv ?_
    refine zdof 17 ?_
    refine zdof 18 ?_
    refine zdof 19 ?_
    refine zdof 20 ?_
    refine zdof 21 ?_
    refine zdof 22 ?_
    refine zdof 23 ?_
    refine zdof 24 ?_
    refine zdof 25 ?_
    refine zdof 26 ?_
    refine zdof 27 ?_
    refine zdof 28 ?_
    refine zdof 29 ?_
    refine zdof 30 ?_
    refine zdof 31 ?_
    refine zdof 32 ?_
    refine zDrv 33 xpt ?_
    refine zDrv 34 xmv ?_
    refine zdof 35 ?_
    refine zdof 36 ?_
    refine zdof 37 ?_
    refine zdof 38 ?_
    refine zdof 39 ?_
    refine zdof 40 ?_
    refine zDrv 41 xpt ?_
    refine zDrv 42 xmv ?_
    refine zdof 43 ?_
    refine zdof 44 ?_
    refine zdof 45 ?_
    refine zdof 46 ?_
    refine zdof 47 ?_
    refine zdof 48 ?_
    refine zDrv 49 xpt ?_
    refine zdd<|ztn<|zct<|zsr ?_
    refine zlv xas ?_
    refine zx2<|zf1 ⟨_,rfl,?_⟩
    first
    |exact⟨Zf (by intro hk;have h1:=hk.m1;have h2:=hk.m2;have h3:=hk.d;have h4:=hk.s1;have h5:=hk.s2;have h6:=hk.k1;have h7:=hk.k2;omega),hS.nl⟩
    |exact⟨Zf (by intro hk;have:=hk.all i (by omega) (by omega);unfold Prob.each at this;omega),hS.nl⟩
   refine zDrv 7 (xfb 0 fd_24_0) ?_
   refine zdla 8 (fun w hS=>(xlb 0 pl_22 hS)) ?_
   refine zDrv 9 xmv ?_
   refine zDrv 10 (xix (kk:=i) sl_22 h.L.slh) ?_
   refine zdla 11 (fun w hS=>(xlr (u:= .int .i64 (p.L i)) pl_3 (h.L.below hS.below))) ?_
   have hbv:=h.iL i
   refine zDrv 12 (xfb 2 fd_24_2) ?_
   refine zdla 13 (fun w hS=>(xlb 0 pl_3 hS)) ?_
   refine zDrv 14 xgtr ?_
   refine zDrv 15 xpf ?_
   refine zDrv 16 xmv ?_
   refine zdb 62 ?_ ?_<;>intro hc
   ·
    refine zdof 17 ?_
    refine zdof 18 ?_
    refine zdof 19 ?_
    refine zdof 20 ?_
    refine zdof 21 ?_
    refine zdof 22 ?_
    refine zdof 23 ?_
    refine zdof 24 ?_
    refine zdof 25 ?_
    refine zdof 26 ?_
    refine zdof 27 ?_
    refine zdof 28 ?_
    refine zdof 29 ?_
    refine zdof 30 ?_
    refine zdof 31 ?_
    refine zdof 32 ?_
    refine zDrv 33 xpt ?_
    refine zDrv 34 xmv ?_
    refine zdof 35 ?_
    refine zdof 36 ?_
    refine zdof 37 ?_
    refine zdof 38 ?_
    refine zdof 39 ?_
    refine zdof 40 ?_
    refine zDrv 41 xpt ?_
    refine zDrv 42 xmv ?_
    refine zdof 43 ?_
    refine zdof 44 ?_
    refine zdof 45 ?_
    refine zdof 46 ?_
    refine zdof 47 ?_
    refine zdof 48 ?_
    refine zDrv 49 xpt ?_
    refine zdd<|ztn<|zct<|zsr ?_
    refine zlv xas ?_
    refine zx2<|zf1 ⟨_,rfl,?_⟩
    first
    |exact⟨Zf (by intro hk;have h1:=hk.m1;have h2:=hk.m2;have h3:=hk.d;have h4:=hk.s1;have h5:=hk.s2;have h6:=hk.k1;have h7:=hk.k2;omega),hS.nl⟩
    |exact⟨Zf (by intro hk;have:=hk.all i (by omega) (by omega);unfold Prob.each at this;omega),hS.nl⟩
   refine zDrv 17 xmv ?_
   refine zDrv 18 xgtr ?_
   refine zDrv 19 xmv ?_
   refine zdb 65 ?_ ?_<;>intro hc
   ·
    refine zDrv 20 (xfb 0 fd_24_0) ?_
    refine zdla 21 (fun w hS=>(xlb 0 pl_22 hS)) ?_
    refine zDrv 22 xmv ?_
    refine zDrv 23 (xix (kk:=i) sl_22 h.L.slh) ?_
    refine zdla 24 (fun w hS=>(xlr (u:= .int .i64 (p.L i)) pl_3 (h.L.below hS.below))) ?_
    have hbv:=h.iL i
    refine zDrv 25 (xfb 0 fd_24_0) ?_
    refine zdla 26 (fun w hS=>(xlb 0 pl_22 hS)) ?_
    refine zDrv 27 xmv ?_
    refine zDrv 28 (xsub (r:=i-1)) ?_
    refine zDrv 29 (xix (kk:=i-1) sl_22 h.L.slh) ?_
    refine zdla 30 (fun w hS=>(xlr (u:= .int .i64 (p.L (i-1))) pl_3 (h.L.below hS.below))) ?_
    have hbv:=h.iL (i-1)
    refine zDrv 31 YL ?_
    refine zDrv 32 xpt ?_
    refine zDrv 33 xpf ?_
    refine zDrv 34 xmv ?_
    refine zdb 80 ?_ ?_<;>intro hc
    ·
     refine zdof 35 ?_
     refine zdof 36 ?_
     refine zdof 37 ?_
     refine zdof 38 ?_
     refine zdof 39 ?_
     refine zdof 40 ?_
     refine zDrv 41 xpt ?_
     refine zDrv 42 xmv ?_
     refine zdof 43 ?_
     refine zdof 44 ?_
     refine zdof 45 ?_
     refine zdof 46 ?_
     refine zdof 47 ?_
     refine zdof 48 ?_
     refine zDrv 49 xpt ?_
     refine zdd<|ztn<|zct<|zsr ?_
     refine zlv xas ?_
     refine zx2<|zf1 ⟨_,rfl,?_⟩
     first
     |exact⟨Zf (by intro hk;have h1:=hk.m1;have h2:=hk.m2;have h3:=hk.d;have h4:=hk.s1;have h5:=hk.s2;have h6:=hk.k1;have h7:=hk.k2;omega),hS.nl⟩
     |exact⟨Zf (by intro hk;have:=hk.all i (by omega) (by omega);unfold Prob.each at this;omega),hS.nl⟩
    refine zDrv 35 (xfb 1 fd_24_1) ?_
    refine zdla 36 (fun w hS=>(xlb 0 pl_22 hS)) ?_
    refine zDrv 37 xmv ?_
    refine zDrv 38 (xix (kk:=i) sl_22 h.D.slh) ?_
    refine zdla 39 (fun w hS=>(xlr (u:= .int .i64 (p.D i)) pl_3 (h.D.below hS.below))) ?_
    have hbv:=h.iD i
    refine zDrv 40 xlss ?_
    refine zDrv 41 xpf ?_
    refine zDrv 42 xmv ?_
    refine zdb 88 ?_ ?_<;>intro hc
    ·
     refine zdof 43 ?_
     refine zdof 44 ?_
     refine zdof 45 ?_
     refine zdof 46 ?_
     refine zdof 47 ?_
     refine zdof 48 ?_
     refine zDrv 49 xpt ?_
     refine zdd<|ztn<|zct<|zsr ?_
     refine zlv xas ?_
     refine zx2<|zf1 ⟨_,rfl,?_⟩
     first
     |exact⟨Zf (by intro hk;have h1:=hk.m1;have h2:=hk.m2;have h3:=hk.d;have h4:=hk.s1;have h5:=hk.s2;have h6:=hk.k1;have h7:=hk.k2;omega),hS.nl⟩
     |exact⟨Zf (by intro hk;have:=hk.all i (by omega) (by omega);unfold Prob.each at this;omega),hS.nl⟩
    refine zDrv 43 (xfb 1 fd_24_1) ?_
    refine zdla 44 (fun w hS=>(xlb 0 pl_22 hS)) ?_
    refine zDrv 45 xmv ?_
    refine zDrv 46 (xix (kk:=i) sl_22 h.D.slh) ?_
    refine zdla 47 (fun w hS=>(xlr (u:= .int .i64 (p.D i)) pl_3 (h.D.below hS.below))) ?_
    have hbv:=h.iD i
    refine zDrv 48 xgtr ?_
    refine zDrv 49 xpf ?_
    refine zdd<|ztn ?_
    refine zcif ?_ ?_<;>intro hc
    ·
     refine zsr ?_
     refine zlv xas ?_
     refine zx2<|zf1 ⟨_,rfl,?_⟩
     first
     |exact⟨Zf (by intro hk;have h1:=hk.m1;have h2:=hk.m2;have h3:=hk.d;have h4:=hk.s1;have h5:=hk.s2;have h6:=hk.k1;have h7:=hk.k2;omega),hS.nl⟩
     |exact⟨Zf (by intro hk;have:=hk.all i (by omega) (by omega);unfold Prob.each at this;omega),hS.nl⟩
    refine zx4 ?_
    refine zlv xmv ?_
    refine zlv (xadd (r:=i+1)) ?_
    refine zlv xas ?_
    refine zln<|zlq ⟨i+1,rfl,(by omega),(by omega),?_,rfl,hS⟩
    ·
     intro k h0' h1';rcases Int.lt_or_eq_of_le (show k<=i by omega) with hk|hk;exact hall k h0' hk;rw [hk];unfold Prob.each;omega
   refine zdof 20 ?_
   refine zdof 21 ?_
   refine zdof 22 ?_
   refine zdof 23 ?_
   refine zdof 24 ?_
   refine zdof 25 ?_
   refine zdof 26 ?_
   refine zdof 27 ?_
   refine zdof 28 ?_
   refine zdof 29 ?_
   refine zdof 30 ?_
   refine zdof 31 ?_
   refine zDrv 32 xpf ?_
   refine zDrv 33 xpf ?_
   refine zDrv 34 xmv ?_
   refine zDrv 35 (xfb 1 fd_24_1) ?_
   refine zdla 36 (fun w hS=>(xlb 0 pl_22 hS)) ?_
   refine zDrv 37 xmv ?_
   refine zDrv 38 (xix (kk:=i) sl_22 h.D.slh) ?_
   refine zdla 39 (fun w hS=>(xlr (u:= .int .i64 (p.D i)) pl_3 (h.D.below hS.below))) ?_
   have hbv:=h.iD i
   refine zDrv 40 xlss ?_
   refine zDrv 41 xpf ?_
   refine zDrv 42 xmv ?_
   refine zdb 88 ?_ ?_<;>intro hc
   ·
    refine zdof 43 ?_
    refine zdof 44 ?_
    refine zdof 45 ?_
    refine zdof 46 ?_
    refine zdof 47 ?_
    refine zdof 48 ?_
    refine zDrv 49 xpt ?_
    refine zdd<|ztn<|zct<|zsr ?_
    refine zlv xas ?_
    refine zx2<|zf1 ⟨_,rfl,?_⟩
    first
    |exact⟨Zf (by intro hk;have h1:=hk.m1;have h2:=hk.m2;have h3:=hk.d;have h4:=hk.s1;have h5:=hk.s2;have h6:=hk.k1;have h7:=hk.k2;omega),hS.nl⟩
    |exact⟨Zf (by intro hk;have:=hk.all i (by omega) (by omega);unfold Prob.each at this;omega),hS.nl⟩
   refine zDrv 43 (xfb 1 fd_24_1) ?_
   refine zdla 44 (fun w hS=>(xlb 0 pl_22 hS)) ?_
   refine zDrv 45 xmv ?_
   refine zDrv 46 (xix (kk:=i) sl_22 h.D.slh) ?_
   refine zdla 47 (fun w hS=>(xlr (u:= .int .i64 (p.D i)) pl_3 (h.D.below hS.below))) ?_
   have hbv:=h.iD i
   refine zDrv 48 xgtr ?_
   refine zDrv 49 xpf ?_
   refine zdd<|ztn ?_
   refine zcif ?_ ?_<;>intro hc
   ·
    refine zsr ?_
    refine zlv xas ?_
    refine zx2<|zf1 ⟨_,rfl,?_⟩
    first
    |exact⟨Zf (by intro hk;have h1:=hk.m1;have h2:=hk.m2;have h3:=hk.d;have h4:=hk.s1;have h5:=hk.s2;have h6:=hk.k1;have h7:=hk.k2;omega),hS.nl⟩
    |exact⟨Zf (by intro hk;have:=hk.all i (by omega) (by omega);unfold Prob.each at this;omega),hS.nl⟩
   refine zx4 ?_
   refine zlv xmv ?_
   refine zlv (xadd (r:=i+1)) ?_
   refine zlv xas ?_
   refine zln<|zlq ⟨i+1,rfl,(by omega),(by omega),?_,rfl,hS⟩
   ·
    intro k h0' h1';rcases Int.lt_or_eq_of_le (show k<=i by omega) with hk|hk;exact hall k h0' hk;rw [hk];unfold Prob.each;omega
  refine zx8 ?_
  refine zlv xas ?_
  refine zx1<|zf1 ⟨_,rfl,?_⟩
  exact⟨ZU ⟨by omega,by omega,by omega,by omega,by omega,by omega,by omega,fun k h0 h1=>hall k h0 (by omega)⟩,hS.nl⟩
  all_goals
   refine YC ?_
   refine zlt<|zct<|zsr ?_
   refine YC ?_
   refine zx14<|zf1 ⟨_,rfl,?_⟩
   first
   |exact⟨Zf (by intro hk;have h1:=hk.m1;have h2:=hk.m2;have h3:=hk.d;have h4:=hk.s1;have h5:=hk.s2;have h6:=hk.k1;have h7:=hk.k2;omega),hS.nl⟩
   |exact⟨Zf (by intro hk;have:=hk.all i (by omega) (by omega);unfold Prob.each at this;omega),hS.nl⟩
set_option maxRecDepth 20000 in
theorem Zec{vL vD:Value}{p:Prob}(w0:World)(h:PAt w0 vL vD p):
    Calls Tryz.prog 10 [.agg #[vL,vD,.int .i64 p.stock,.int .i64 p.kerf]].toArray w0 fun e w=>∃v,e= .returned v/\v=B (WT p)/\Sat w0 w []:=by
  have hm:=h.L.slh.n0;have hm1:=h.L.slh.n1;have hd:=h.D.slh.n0;have hd1:=h.D.slh.n1;have hs:=h.is;have hk:=h.ik
  refine Zj Tryz.func10 Tryz.ntmps10 fun w hS=> ?_
  refine zsr ?_
  refine zla (xbx (cs:= [_,_,_,_]) hS) ?_;rintro _ w ⟨g1,rfl,hS⟩
  replace hS:=hS.n1
  refine zlv xas ?_
  refine zx5 ?_
  refine zlv (xfb 0 fd_24_0) ?_
  refine zlv (xlb 0 pl_22 hS) ?_
  refine zlv (xln sl_22 h.L.slh) ?_
  refine zs2 ?_
  refine zlb 8 ?_ ?_<;>intro hc
  ·
   iterate 4 refine zlo ?_
   refine zlv xpt ?_
   refine zlt<|zct<|zsr ?_
   refine zlv xas ?_
   refine zx14<|zf1 ⟨_,rfl,?_⟩
   exact⟨Zf (by rintro⟨h2,h3,h4⟩;first|omega|(have h5:=(h4 (Classical.not_not.1 ‹¬¬(p.Ok)›)).1 i (by omega) (by omega);omega)|(have h5:=(h4 (Classical.not_not.1 ‹¬¬(p.Ok)›)).2;omega)),hS.nl⟩
  refine zlv (xfb 1 fd_24_1) ?_
  refine zlv (xlb 0 pl_22 hS) ?_
  refine zlv (xln sl_22 h.D.slh) ?_
  refine zs2 ?_
  refine zlt ?_
  refine zcif ?_ ?_<;>intro hc
  ·
   refine zsr ?_
   refine zlv xas ?_
   refine zx14<|zf1 ⟨_,rfl,?_⟩
   exact⟨Zf (by rintro⟨h2,h3,h4⟩;first|omega|(have h5:=(h4 (Classical.not_not.1 ‹¬¬(p.Ok)›)).1 i (by omega) (by omega);omega)|(have h5:=(h4 (Classical.not_not.1 ‹¬¬(p.Ok)›)).2;omega)),hS.nl⟩
  refine YR ?_
  refine zlv (xls 0 YD hS) ?_
  refine zlc (xc0 UY) (YK (p:=p) w (h.below hS.below)) ?_;rintro _ w ⟨rfl,hS'⟩
  replace hS:=hS.cmp hS';clear hS'
  refine zlv ZX ?_
  refine zlt ?_
  refine zcif ?_ ?_<;>intro hc
  ·
   refine zsr ?_
   refine zlv xas ?_
   refine zx14<|zf1 ⟨_,rfl,?_⟩
   exact⟨ZU (by first|exact⟨by omega,by omega,fun hk=>absurd hk ‹¬p.Ok›⟩),hS.nl⟩
  refine YR ?_
  refine zlv xas ?_
  refine zx6<|zlp (fun mm M w=>∃(i:Int),mm=((p.d-i).toNat)/\(0<=i)/\(i<=p.d)/\(∀k,0<=k->k<i->p.D k<=30)/\M= [(1,.pointer (some ⟨g1,0,none⟩)),(3,.int .i64 i)]/\Sat w0 w [.blk g1 [vL,vD,.int .i64 p.stock,.int .i64 p.kerf]]) ⟨0,rfl,(by omega),(by omega),?_,rfl,hS⟩ ?_
  ·
   intro k h0 h1;omega
  clear hS w
  rintro mm M w ⟨i,rfl,h0,h1,hall,rfl,hS⟩
  refine zx11 ?_
  refine zlv xmv ?_
  refine zlv (xfb 1 fd_24_1) ?_
  refine zlv (xlb 0 pl_22 hS) ?_
  refine zlv (xln sl_22 h.D.slh) ?_
  refine zlv xlss ?_
  refine zlt ?_
  refine zcif ?_ ?_<;>intro hc
  ·
   refine zx3 ?_
   refine zlv (xfb 1 fd_24_1) ?_
   refine zlv (xlb 0 pl_22 hS) ?_
   refine zlv xmv ?_
   refine zlv (xix (kk:=i) sl_22 h.D.slh) ?_
   refine zlv (xlr (u:= .int .i64 (p.D i)) pl_3 (h.D.below hS.below)) ?_
   have hbv:=h.iD i
   refine zlv xgtr ?_
   refine zlt ?_
   refine zcif ?_ ?_<;>intro hc
   ·
    refine zsr ?_
    refine zlv xas ?_
    refine zx2<|zf1 ⟨_,rfl,?_⟩
    exact⟨Zf (by rintro⟨h2,h3,h4⟩;first|omega|(have h5:=(h4 (Classical.not_not.1 ‹¬¬(p.Ok)›)).1 i (by omega) (by omega);omega)|(have h5:=(h4 (Classical.not_not.1 ‹¬¬(p.Ok)›)).2;omega)),hS.nl⟩
   refine zx4 ?_
   refine zlv xmv ?_
   refine zlv (xadd (r:=i+1)) ?_
   refine zlv xas ?_
   refine zln<|zlq ⟨i+1,rfl,(by omega),(by omega),?_,rfl,hS⟩
   ·
    intro k h0' h1';rcases Int.lt_or_eq_of_le (show k<=i by omega) with hk|hk;exact hall k h0' hk;rw [hk];omega
  refine zxt<|ztx<|ztx<|zbh<|ztn<|zsq ?_
  refine zdst [0] [0] 1000 mx_ hS ?_;clear hS;intro w hS
  refine zDrv 0 (xfb 0 fd_24_0) ?_
  have hp:=(Classical.not_not.1 ‹¬¬(p.Ok)›);have hm2:=hp.m1;have hL:=(hp.all (p.m-1) (by omega) (by omega));unfold Prob.each at hL;have hs2:=hp.s2
  refine zdla 1 (fun w hS=>(xlb 0 pl_22 hS)) ?_
  refine zDrv 2 (xln sl_22 h.L.slh) ?_
  refine zDrv 3 YT ?_
  refine zDrv 4 xmv ?_
  refine zdb 34 ?_ ?_<;>intro hc
  ·
   refine zDrv 5 (xfb 2 fd_24_2) ?_
   refine zdla 6 (fun w hS=>(xlb 0 pl_3 hS)) ?_
   refine zDrv 7 (xfb 0 fd_24_0) ?_
   refine zdla 8 (fun w hS=>(xlb 0 pl_22 hS)) ?_
   refine zDrv 9 (xfb 0 fd_24_0) ?_
   refine zdla 10 (fun w hS=>(xlb 0 pl_22 hS)) ?_
   refine zDrv 11 (xln sl_22 h.L.slh) ?_
   refine zDrv 12 (xsub (r:=p.m-1)) ?_
   refine zDrv 13 (xix (kk:=p.m-1) sl_22 h.L.slh) ?_
   refine zdla 14 (fun w hS=>(xlr (u:= .int .i64 (p.L (p.m-1))) pl_3 (h.L.below hS.below))) ?_
   have hbv:=h.iL (p.m-1)
   refine zDrv 15 (xmul (r:=12*p.L (p.m-1))) ?_
   refine zDrv 16 YT ?_
   refine zDrv 17 xpt ?_
   refine zDrv 18 xas ?_
   refine zdd<|ztn<|zrt<|zf1 ⟨_,rfl,?_⟩
   exact⟨Zq (by constructor;exact fun h5=>⟨by omega,by omega,fun _=>⟨fun k h6 h7=>hall k h6 (by omega),by omega,by omega⟩⟩;rintro⟨h2,h3,h4⟩;have h5:=(h4 (Classical.not_not.1 ‹¬¬(p.Ok)›)).2.2;omega),hS.nl⟩
  refine zdof 5 ?_
  refine zdof 6 ?_
  refine zdof 7 ?_
  refine zdof 8 ?_
  refine zdof 9 ?_
  refine zdof 10 ?_
  refine zdof 11 ?_
  refine zdof 12 ?_
  refine zdof 13 ?_
  refine zdof 14 ?_
  refine zdof 15 ?_
  refine zdof 16 ?_
  refine zDrv 17 xpf ?_
  refine zDrv 18 xas ?_
  refine zdd<|ztn<|zrt<|zf1 ⟨_,rfl,?_⟩
  exact⟨Zf (by rintro⟨h2,h3,h4⟩;first|omega|(have h5:=(h4 (Classical.not_not.1 ‹¬¬(p.Ok)›)).1 i (by omega) (by omega);omega)|(have h5:=(h4 (Classical.not_not.1 ‹¬¬(p.Ok)›)).2;omega)),hS.nl⟩
set_option maxRecDepth 20000 in
theorem Zgm{vL vD:Value}{p:Prob}{vA:Value}{n:Int}{f:Int->Int}(w0:World)(h:PAt w0 vL vD p)(hp:p.Ok)(hA:Row w0 vA 1 n (ints f))(hn:n=p.m)(ha:∀i,0<=i->i<p.m->0<=f i/\f i<=2000):
    Calls Tryz.prog 57 [.agg #[vL,vD,.int .i64 p.stock,.int .i64 p.kerf],vA].toArray w0 fun e w=>∃v,e= .returned v/\v= .int .i64 (Yb p f p.m.toNat)/\Sat w0 w []:=by
  subst hn;have hm:=hp.m1;have hm2:=hp.m2
  refine Zj Tryz.func57 Tryz.ntmps57 fun w hS=> ?_
  refine zsr ?_
  refine zla (xbx (cs:= [_,_,_,_]) hS) ?_;rintro _ w ⟨g1,rfl,hS⟩
  replace hS:=hS.n1
  refine zlv xas ?_
  refine zlz ?_
  refine zlv xas ?_
  refine zx5 ?_
  refine zlv xas ?_
  refine zx6<|zlp (fun mm M w=>∃(s:Int) (i:Int),mm=((p.m-i).toNat)/\(0<=i)/\(i<=p.m)/\(s=Yb p f i.toNat)/\M= [(1,vA),(2,.pointer (some ⟨g1,0,none⟩)),(4,.int .i64 0),(5,.int .i64 s),(6,.int .i64 i)]/\Sat w0 w [.blk g1 [vL,vD,.int .i64 p.stock,.int .i64 p.kerf]]) ⟨0,0,rfl,(by omega),(by omega),?_,rfl,hS⟩ ?_
  ·
   rfl
  clear hS w
  rintro mm M w ⟨s,i,rfl,h0,h1,hs,rfl,hS⟩
  refine zx11 ?_
  refine zlv xmv ?_
  refine zlv (xfb 0 fd_24_0) ?_
  refine zlv (xlb 0 pl_22 hS) ?_
  refine zlv (xln sl_22 h.L.slh) ?_
  refine zlv xlss ?_
  refine zlt ?_
  refine zcif ?_ ?_<;>intro hc
  ·
   refine zsk<|ztn<|zsq<|zbk ?_
   refine zdst [0] [0] 1000 mx_ hS ?_;clear hS;intro w hS
   refine zDrv 0 xmv ?_
   have he:=hp.all i (by omega) (by omega);unfold Prob.each at he;have hai:=ha i (by omega) (by omega);have hk1:=hp.k1;have hk2:=hp.k2;have hs2:=hp.s2;have ht:=Uv hp h0 (by omega:i<p.m) hai;have hb:=VE hp ha h0 (by omega:i<=p.m);have hb2:=VE hp ha (by omega:0<=i+1) (by omega:i+1<=p.m)
   refine zDrv 1 xmv ?_
   refine zDrv 2 xmv ?_
   refine zDrv 3 (xix (kk:=i) sl_22 hA.slh) ?_
   refine zdla 4 (fun w hS=>(xlr (u:= .int .i64 (f i)) pl_3 (hA.below hS.below))) ?_
   refine zDrv 5 (xfb 0 fd_24_0) ?_
   refine zdla 6 (fun w hS=>(xlb 0 pl_22 hS)) ?_
   refine zDrv 7 xmv ?_
   refine zDrv 8 (xix (kk:=i) sl_22 h.L.slh) ?_
   refine zdla 9 (fun w hS=>(xlr (u:= .int .i64 (p.L i)) pl_3 (h.L.below hS.below))) ?_
   have hbv:=h.iL i
   refine zDrv 10 (xfb 3 fd_24_3) ?_
   refine zdla 11 (fun w hS=>(xlb 0 pl_3 hS)) ?_
   refine zDrv 12 (xadd (r:=p.L i+p.kerf)) ?_
   refine zDrv 13 (xmul (r:=((f i)*(p.L i+p.kerf))) (e:=rfl) (hr:=(by unfold I64;omega))) ?_
   refine zDrv 14 (xadd (r:=s+((f i)*(p.L i+p.kerf))) (hr:=(by unfold I64;omega))) ?_
   refine zDrv 15 xas ?_
   refine zdd<|zbn<|ztn<|zrg ?_
   refine zlv xmv ?_
   refine zlv (xadd (r:=i+1)) ?_
   refine zlv xas ?_
   refine zln<|zlq ⟨s+((f i)*(p.L i+p.kerf)),i+1,rfl,(by omega),(by omega),?_,rfl,hS⟩
   ·
    rw [hs];exact(ZY _ h0).symm
  refine zx8 ?_
  refine zs2 ?_
  refine zx1<|zf1 ⟨_,rfl,?_⟩
  obtain rfl:i=p.m:=by omega
  exact⟨congrArg (Value.int .i64) hs,hS.nl⟩
set_option maxRecDepth 20000 in
theorem ZgB{vL vD:Value}{p:Prob}{vA:Value}{n:Int}{f:Int->Int}(w0:World)(h:PAt w0 vL vD p)(hA:Row w0 vA 1 n (ints f)):
    Calls Tryz.prog 73 [.agg #[vL,vD,.int .i64 p.stock,.int .i64 p.kerf],vA].toArray w0 fun e w=>∃v,e= .returned v/\v=B (FitsP p n f)/\Sat w0 w []:=by
  have hm:=h.L.slh.n0;have hm1:=h.L.slh.n1;have hd:=h.D.slh.n0;have hs:=h.is;have hk:=h.ik;have hn:=hA.slh.n0;have hn1:=hA.slh.n1
  refine Zj Tryz.func73 Tryz.ntmps73 fun w hS=> ?_
  refine zsr ?_
  refine zla (xbx (cs:= [_,_,_,_]) hS) ?_;rintro _ w ⟨g1,rfl,hS⟩
  replace hS:=hS.n1
  refine zlv xas ?_
  refine zx5 ?_
  refine zlv (xls 0 YD hS) ?_
  refine zlc (xc0 UY) (YK (p:=p) w (h.below hS.below)) ?_;rintro _ w ⟨rfl,hS'⟩
  replace hS:=hS.cmp hS';clear hS'
  refine zs2 ?_
  refine zlb 9 ?_ ?_<;>intro hc
  ·
   iterate 6 refine zlo ?_
   refine zlv xpt ?_
   refine zlt<|zct<|zsr ?_
   refine zlv xas ?_
   refine zx14<|zf1 ⟨_,rfl,?_⟩
   first
   |exact⟨Zf (by intro hk;exact absurd hk.ok ‹¬p.Ok›),hS.nl⟩
   |exact⟨Zf (by intro hk;have:=hk.eq;omega),hS.nl⟩
   |exact⟨Zf (by intro hk;have:=hk.all i (by omega) (by have:=hk.eq;omega);omega),hS.nl⟩
  refine zlv xmv ?_
  refine zlv (xln sl_22 hA.slh) ?_
  refine zlv (xfb 0 fd_24_0) ?_
  refine zlv (xlb 0 pl_22 hS) ?_
  refine zlv (xln sl_22 h.L.slh) ?_
  refine zs2 ?_
  refine zlt ?_
  refine zcif ?_ ?_<;>intro hc
  ·
   refine zsr ?_
   refine zlv xas ?_
   refine zx14<|zf1 ⟨_,rfl,?_⟩
   first
   |exact⟨Zf (by intro hk;exact absurd hk.ok ‹¬p.Ok›),hS.nl⟩
   |exact⟨Zf (by intro hk;have:=hk.eq;omega),hS.nl⟩
   |exact⟨Zf (by intro hk;have:=hk.all i (by omega) (by have:=hk.eq;omega);omega),hS.nl⟩
  refine YR ?_
  refine zlv xas ?_
  refine zx6<|zlp (fun mm M w=>∃(i:Int),mm=((n-i).toNat)/\(0<=i)/\(i<=n)/\(∀k,0<=k->k<i->0<=f k/\f k<=2000)/\M= [(1,vA),(2,.pointer (some ⟨g1,0,none⟩)),(5,.int .i64 i)]/\Sat w0 w [.blk g1 [vL,vD,.int .i64 p.stock,.int .i64 p.kerf]]) ⟨0,rfl,(by omega),(by omega),?_,rfl,hS⟩ ?_
  ·
   intro k h0 h1;omega
  clear hS w
  rintro mm M w ⟨i,rfl,h0,h1,hall,rfl,hS⟩
  refine zx11 ?_
  refine zs2 ?_
  refine zlv (xln sl_22 hA.slh) ?_
  refine zlv xlss ?_
  refine zlt ?_
  refine zcif ?_ ?_<;>intro hc
  ·
   refine zx3 ?_
   refine zs2 ?_
   refine zlv (xix (kk:=i) sl_22 hA.slh) ?_
   refine zlv (xlr (u:= .int .i64 (f i)) pl_3 (hA.below hS.below)) ?_
   refine zs2 ?_
   refine zlb 28 ?_ ?_<;>intro hc
   ·
    iterate 5 refine zlo ?_
    refine zlv xpt ?_
    refine zlt<|zct<|zsr ?_
    refine zlv xas ?_
    refine zx2<|zf1 ⟨_,rfl,?_⟩
    first
    |exact⟨Zf (by intro hk;exact absurd hk.ok ‹¬p.Ok›),hS.nl⟩
    |exact⟨Zf (by intro hk;have:=hk.eq;omega),hS.nl⟩
    |exact⟨Zf (by intro hk;have:=hk.all i (by omega) (by have:=hk.eq;omega);omega),hS.nl⟩
   refine zs2 ?_
   refine zlv (xix (kk:=i) sl_22 hA.slh) ?_
   refine zlv (xlr (u:= .int .i64 (f i)) pl_3 (hA.below hS.below)) ?_
   refine zs2 ?_
   refine zlt ?_
   refine zcif ?_ ?_<;>intro hc
   ·
    refine zsr ?_
    refine zlv xas ?_
    refine zx2<|zf1 ⟨_,rfl,?_⟩
    first
    |exact⟨Zf (by intro hk;exact absurd hk.ok ‹¬p.Ok›),hS.nl⟩
    |exact⟨Zf (by intro hk;have:=hk.eq;omega),hS.nl⟩
    |exact⟨Zf (by intro hk;have:=hk.all i (by omega) (by have:=hk.eq;omega);omega),hS.nl⟩
   refine zx4 ?_
   refine zlv xmv ?_
   refine zlv (xadd (r:=i+1)) ?_
   refine zlv xas ?_
   refine zln<|zlq ⟨i+1,rfl,(by omega),(by omega),?_,rfl,hS⟩
   ·
    intro k h0' h1';rcases Int.lt_or_eq_of_le (show k<=i by omega) with hk|hk;exact hall k h0' hk;rw [hk];omega
  refine zxt<|ztx<|ztx<|zbh<|ztn<|zsq ?_
  refine zdst [0] [0] 1000 mx_ hS ?_;clear hS;intro w hS
  refine zdla 0 (fun w hS=>(xls 0 YD hS)) ?_
  have hp:=(Classical.not_not.1 ‹¬¬(p.Ok)›);have hs1:=hp.s1;have hs2:=hp.s2;have hk1:=hp.k1;have hk2:=hp.k2
  refine zDrv 1 xmv ?_
  refine zDrv 3 (xfb 2 fd_24_2) ?_
  refine zdla 4 (fun w hS=>(xlb 0 pl_3 hS)) ?_
  refine zDrv 5 (xfb 3 fd_24_3) ?_
  refine zdla 6 (fun w hS=>(xlb 0 pl_3 hS)) ?_
  refine zDrv 7 (xadd (r:=p.stock+p.kerf)) ?_
  refine zdc 2 (xc0 Zhv) (Zgm (p:=p) w (h.below hS.below) (Classical.not_not.1 ‹¬¬(p.Ok)›) (hA.below hS.below) (by omega) (fun k k0 k1=>hall k k0 (by omega))) ?_;rintro _ w ⟨rfl,hS'⟩
  replace hS:=hS.cmp hS';clear hS'
  refine⟨⟨fun _=>hS,hS⟩,?_⟩
  refine zDrv 8 YT ?_
  refine zDrv 9 xas ?_
  refine zdd<|ztn<|zrt<|zf1 ⟨_,rfl,?_⟩
  exact⟨Zq ⟨fun hu=>⟨(Classical.not_not.1 ‹¬¬(p.Ok)›),by omega,fun k k0 k1=>hall k k0 (by omega),hu⟩,fun hk=>hk.used⟩,hS.nl⟩
def ZD(p:Prob)(n:Int)(f:Int->Int):Prop:=FitsP p n f/\∀k,0<=k->k<n->f k<=p.D k
theorem Yw {p:Prob} {n:Int} {f:Int->Int} (hf:FitsP p n f) {i:Int} (i0:0<=i) (i1:i<n):0<=f i/\f i<=(p.stock+p.kerf-Yb p f i.toNat).tdiv (p.L i+p.kerf):=by
  have hp:=hf.ok
  have hn:=hf.eq
  have he:=hp.all i i0 (by omega)
  unfold Prob.each at he
  have hk:=hp.k1
  have hu:∀j:Nat,i.toNat+j<=n.toNat->Yb p f i.toNat<=Yb p f (i.toNat+j):=fun j=>by
    induction j with
    |zero=>intro _;exact Int.le_refl _
    | succ j ih=>
      intro hj
      have h1:=ih (by omega)
      have h2:=hf.all ((i.toNat+j:Nat):Int) (by omega) (by omega)
      have h3:=hp.all ((i.toNat+j:Nat):Int) (by omega) (by omega)
      unfold Prob.each at h3
      have h4:=Int.mul_nonneg h2.1 (show 0<=p.L ((i.toNat+j:Nat):Int)+p.kerf by omega)
      have h5:=ZY (fun i=>f i*(p.L i+p.kerf)) (i:=((i.toNat+j:Nat):Int)) (by omega)
      have e:Yb p f (i.toNat+(j+1))=Yb p f (i.toNat+j)+f ((i.toNat+j:Nat):Int)*(p.L ((i.toNat+j:Nat):Int)+p.kerf):=by
        unfold Yb
        rw [show i.toNat+(j+1)=(((i.toNat+j:Nat):Int)+1).toNat by omega,h5];rfl
      rw [e];omega
  have h1:Yb p f (i+1).toNat=Yb p f i.toNat+f i*(p.L i+p.kerf):=ZY _ i0
  have h2 :Yb p f (i+1).toNat<=Yb p f n.toNat:=by
    have h3:∀j:Nat,(i+1).toNat+j<=n.toNat->Yb p f (i+1).toNat<=Yb p f ((i+1).toNat+j):=fun j=>by
      induction j with
      |zero=>intro _;exact Int.le_refl _
      | succ j ih=>
        intro hj
        have h1:=ih (by omega)
        have h2:=hf.all (((i+1).toNat+j:Nat):Int) (by omega) (by omega)
        have h3:=hp.all (((i+1).toNat+j:Nat):Int) (by omega) (by omega)
        unfold Prob.each at h3
        have h4:=Int.mul_nonneg h2.1 (show 0<=p.L (((i+1).toNat+j:Nat):Int)+p.kerf by omega)
        have h5:=ZY (fun i=>f i*(p.L i+p.kerf)) (i:=(((i+1).toNat+j:Nat):Int)) (by omega)
        have e:Yb p f ((i+1).toNat+(j+1))=Yb p f ((i+1).toNat+j)+f (((i+1).toNat+j:Nat):Int)*(p.L (((i+1).toNat+j:Nat):Int)+p.kerf):=by
          unfold Yb
          rw [show(i+1).toNat+(j+1)=((((i+1).toNat+j:Nat):Int)+1).toNat by omega,h5];rfl
        rw [e];omega
    have h4:=h3 (n.toNat-(i+1).toNat) (by omega)
    rwa [show(i+1).toNat+(n.toNat-(i+1).toNat)=n.toNat by omega] at h4
  have h3:=hf.used
  rw [<-hn] at h3
  have h0:=(hf.all i i0 (by omega)).1
  have h4:=Int.mul_nonneg h0 (show 0<=p.L i+p.kerf by omega)
  refine⟨h0,?_⟩
  rw [Int.tdiv_eq_ediv_of_nonneg (by omega)]
  exact(Int.le_ediv_iff_mul_le (by omega)).2 (by omega)
theorem ZaO{p:Prob}(hp:p.Ok){i l x:Int}(i0:0<=i)(i1:i<p.m)(l0:0<=l)(l1:l<=p.stock+p.kerf)(x0:0<=x)(x1:x<=l.tdiv (p.L i+p.kerf)):0<=x*(p.L i+p.kerf)/\x*(p.L i+p.kerf)<=l/\x<=2000:=by
  have he:=hp.all i i0 i1
  unfold Prob.each at he
  have hk:=hp.k1;have hs:=hp.s2
  rw [Int.tdiv_eq_ediv_of_nonneg l0] at x1
  have h1:=(Int.le_ediv_iff_mul_le (show 0<p.L i+p.kerf by omega)).1 x1
  have h2:=Int.mul_nonneg x0 (show 0<=p.L i+p.kerf by omega)
  refine⟨h2,h1,?_⟩
  by_cases hx:x<=2000
  · exact hx
  · exfalso
    have h3:=Int.mul_le_mul_of_nonneg_left (show 1+p.kerf<=p.L i+p.kerf by omega) x0
    have h4:=Int.mul_le_mul_of_nonneg_right (show 1<=x by omega) hk
    have h5:x*(1+p.kerf)=x+x*p.kerf:=by rw [Int.mul_add,Int.mul_one]
    omega
theorem Zcx{vL vD:Value}{p:Prob}{i:Int}(w0:World)(h:PAt w0 vL vD p)(hok:p.Ok)(i0:0<=i)(i1:i<p.m):
    Calls Tryz.prog 182 [.agg #[vL,vD,.int .i64 p.stock,.int .i64 p.kerf],.int .i64 i].toArray w0 fun e w=>∃v,e= .returned v/\v= .int .i64 (p.L i+p.kerf)/\Sat w0 w []:=by
  have hp:=hok;have he:=hp.all i i0 i1;unfold Prob.each at he;have hs2:=hp.s2;have hk1:=hp.k1;have hk2:=hp.k2
  refine Zj Tryz.func182 Tryz.ntmps182 fun w hS=> ?_
  refine zsr ?_
  refine zla (xbx (cs:= [_,_,_,_]) hS) ?_;rintro _ w ⟨g1,rfl,hS⟩
  replace hS:=hS.n1
  refine zlv xas ?_
  refine zx7 ?_
  refine zdst [0] [0] 1000 mx_ hS ?_;clear hS;intro w hS
  refine zDrv 0 (xfb 0 fd_35_0) ?_
  refine zdla 1 (fun w hS=>(xlb 0 pl_22 hS)) ?_
  refine zDrv 2 xmv ?_
  refine zDrv 3 (xix (kk:=i) sl_22 h.L.slh) ?_
  refine zdla 4 (fun w hS=>(xlr (u:= .int .i64 (p.L i)) pl_3 (h.L.below hS.below))) ?_
  have hbv:=h.iL i
  refine zDrv 5 (xfb 3 fd_35_3) ?_
  refine zdla 6 (fun w hS=>(xlb 0 pl_3 hS)) ?_
  refine zDrv 7 (xadd (r:=p.L i+p.kerf)) ?_
  refine zDrv 8 xas ?_
  refine zdd<|ztn<|zrt<|zf1 ⟨_,rfl,?_⟩
  exact⟨rfl,hS.nl⟩
set_option maxRecDepth 20000 in
theorem ZgA{vL vD:Value}{p:Prob}{vA:Value}{n:Int}{f:Int->Int}(w0:World)(h:PAt w0 vL vD p)(hA:Row w0 vA 1 n (ints f)):
    Calls Tryz.prog 165 [.agg #[vL,vD,.int .i64 p.stock,.int .i64 p.kerf],vA].toArray w0 fun e w=>∃v,e= .returned v/\∃(r:Int) (ok:Prop),v= .tuple #[.int .i64 r,B ok]/\(ok↔FitsP p n f)/\Sat w0 w []:=by
  have hm:=h.L.slh.n0;have hm1:=h.L.slh.n1;have hd:=h.D.slh.n0;have hd1:=h.D.slh.n1;have hs:=h.is;have hk:=h.ik
  have hn:=hA.slh.n0;have hn1:=hA.slh.n1
  refine Zj Tryz.func165 Tryz.ntmps165 fun w hS=> ?_
  refine zsr ?_
  refine zla (xbx (cs:= [_,_,_,_]) hS) ?_;rintro _ w ⟨g1,rfl,hS⟩
  replace hS:=hS.n1
  refine zs2 ?_
  refine zx5 ?_
  refine zlv (xls 0 st_35 hS) ?_
  refine zlc (xc0 Vp) (YP (p:=p) w (h.below hS.below)) ?_;rintro _ w ⟨rfl,hS'⟩
  replace hS:=hS.cmp hS';clear hS'
  refine zs2 ?_
  refine zlb 12 ?_ ?_<;>intro hc
  ·
   iterate 6 refine zlo ?_
   refine zlv xpt ?_
   refine zlt<|zct<|zsr ?_
   refine zs2 ?_
   refine zx14<|zf2 ⟨_,rfl,?_⟩
   exact⟨_,False,by rw [B_false not_false],⟨fun hh=>hh.elim,fun hf=>by
     first
     |exact absurd hf.ok ‹¬p.Ok›
     |(have:=hf.eq;omega)
     |(have h8:=Yw hf h0 (by omega);rw [<-show p.stock+p.kerf-Yb p f i.toNat=l by omega] at*;omega)
     |(have h8:=Yw hf h0 (by omega);omega)⟩,hS.nl⟩
  refine zlv xmv ?_
  refine zlv (xln sl_22 hA.slh) ?_
  refine zlv (xfb 0 fd_35_0) ?_
  refine zlv (xlb 0 pl_22 hS) ?_
  refine zlv (xln sl_22 h.L.slh) ?_
  refine zs2 ?_
  refine zlt ?_
  refine zcif ?_ ?_<;>intro hc
  ·
   refine zsr ?_
   refine zs2 ?_
   refine zx14<|zf2 ⟨_,rfl,?_⟩
   exact⟨_,False,by rw [B_false not_false],⟨fun hh=>hh.elim,fun hf=>by
     first
     |exact absurd hf.ok ‹¬p.Ok›
     |(have:=hf.eq;omega)
     |(have h8:=Yw hf h0 (by omega);rw [<-show p.stock+p.kerf-Yb p f i.toNat=l by omega] at*;omega)
     |(have h8:=Yw hf h0 (by omega);omega)⟩,hS.nl⟩
  refine ZR ?_
  refine zlv (xfb 2 fd_35_2) ?_
  have hp:p.Ok:=by first|assumption|exact Classical.not_not.1 ‹_›
  have hnm:n=p.m:=by omega
  have hs1:=hp.s1;have hs2:=hp.s2;have hk1:=hp.k1;have hk2:=hp.k2
  refine zlv (xlb 0 pl_3 hS) ?_
  refine zlv (xfb 3 fd_35_3) ?_
  refine zlv (xlb 0 pl_3 hS) ?_
  refine zlv (xadd (r:=p.stock+p.kerf)) ?_
  refine zlv xas ?_
  refine zx5 ?_
  refine zlv xmv ?_
  refine zlv (xln sl_22 hA.slh) ?_
  refine zlv xmv ?_
  refine zx6<|zlp (fun mm M w=>∃(l:Int) (i:Int),mm=((n-i).toNat)/\(0<=i)/\(i<=n)/\(l=p.stock+p.kerf-Yb p f i.toNat)/\(0<=l)/\(l<=p.stock+p.kerf)/\(∀k,0<=k->k<i->0<=f k/\f k<=2000)/\M= [(2,.pointer (some ⟨g1,0,none⟩)),(6,.int .i64 l),(25,vA),(26,.int .i64 n),(27,.int .i64 i)]/\Sat w0 w [.blk g1 [vL,vD,.int .i64 p.stock,.int .i64 p.kerf]]) ⟨p.stock+p.kerf,0,rfl,(by omega),(by omega),?_,(by omega),(by omega),?_,rfl,hS⟩ ?_
  ·
   show _=_-0;omega
  ·
   intro k k0 k1;omega
  clear hS w
  rintro mm M w ⟨l,i,rfl,h0,h1,hl,hl0,hl1,hall,rfl,hS⟩
  refine zsr ?_
  refine zlv xlss ?_
  refine zx7 ?_
  refine zcif ?_ ?_<;>intro hc
  ·
   refine zx3 ?_
   refine zlv xmv ?_
   have he:=hp.all i h0 (by omega);unfold Prob.each at he
   have hqd:=Yr (a:=l) (d:=p.L i+p.kerf) (A:=2100) (by omega) (by omega)
   refine zlv (xix (kk:=i) sl_22 hA.slh) ?_
   refine zlv (xlr (u:= .int .i64 (f i)) pl_3 (hA.below hS.below)) ?_
   refine zs2 ?_
   refine zx5 ?_
   refine zs3 ?_
   refine zlb 34 ?_ ?_<;>intro hc
   ·
    iterate 7 refine zlo ?_
    refine zlv xpt ?_
    refine zlt<|zct<|zsr ?_
    refine zs2 ?_
    refine zlt<|zrt<|ztr<|zbr<|ztr<|ztr<|zbr<|ztr<|zf2 ⟨_,rfl,?_⟩
    exact⟨_,False,by rw [B_false not_false],⟨fun hh=>hh.elim,fun hf=>by
      first
      |exact absurd hf.ok ‹¬p.Ok›
      |(have:=hf.eq;omega)
      |(have h8:=Yw hf h0 (by omega);rw [<-show p.stock+p.kerf-Yb p f i.toNat=l by omega] at*;omega)
      |(have h8:=Yw hf h0 (by omega);omega)⟩,hS.nl⟩
   refine zs2 ?_
   refine zlv (xls 0 st_35 hS) ?_
   refine zlv xmv ?_
   refine zlc (xc0 Zcg) (Zcx (p:=p) (i:=i) w (h.below hS.below) hp (by omega) (by omega)) ?_;rintro _ w ⟨rfl,hS'⟩
   replace hS:=hS.cmp hS';clear hS'
   refine zlv (Um (r:=(Int.tdiv l (p.L i+p.kerf)))) ?_
   refine zs2 ?_
   refine zlt ?_
   refine zcif ?_ ?_<;>intro hc
   ·
    refine zsr ?_
    refine zs2 ?_
    refine zlt<|zrt<|ztr<|zbr<|ztr<|ztr<|zbr<|ztr<|zf2 ⟨_,rfl,?_⟩
    exact⟨_,False,by rw [B_false not_false],⟨fun hh=>hh.elim,fun hf=>by
      first
      |exact absurd hf.ok ‹¬p.Ok›
      |(have:=hf.eq;omega)
      |(have h8:=Yw hf h0 (by omega);rw [<-show p.stock+p.kerf-Yb p f i.toNat=l by omega] at*;omega)
      |(have h8:=Yw hf h0 (by omega);omega)⟩,hS.nl⟩
   refine zsk<|ztn<|zrg ?_
   refine zlv xmv ?_
   have hst:=ZaO hp h0 (by omega) hl0 hl1 (x:=f i) (by omega) (by omega)
   refine zlv xmv ?_
   refine zlv (xls 0 st_35 hS) ?_
   refine zlv xmv ?_
   refine zlc (xc0 Zcg) (Zcx (p:=p) (i:=i) w (h.below hS.below) hp (by omega) (by omega)) ?_;rintro _ w ⟨rfl,hS'⟩
   replace hS:=hS.cmp hS';clear hS'
   refine zlv (xmul (r:=((f i)*(p.L i+p.kerf))) (e:=rfl)) ?_
   refine zlv (xsub (r:=l-((f i)*(p.L i+p.kerf)))) ?_
   refine zlv xas ?_
   refine zx10 ?_
   refine zlv (xadd (r:=i+1)) ?_
   refine zlv xmv ?_
   refine zln<|zlq ⟨l-((f i)*(p.L i+p.kerf)),i+1,rfl,(by omega),(by omega),?_,(by omega),(by omega),?_,rfl,hS⟩
   ·
    have h9:Yb p f (i+1).toNat=Yb p f i.toNat+f i*(p.L i+p.kerf):=ZY _ h0
    rw [h9];omega
   ·
    intro k h0' h1';rcases Int.lt_or_eq_of_le (show k<=i by omega) with hk|hk;exact hall k h0' hk;rw [hk];omega
  refine zx8 ?_
  refine zs3 ?_
  refine zx1<|zf2 ⟨_,rfl,?_⟩
  exact⟨_,True,by rw [Yq trivial],⟨fun _=>⟨hp,by omega,fun k k0 k1=>(hall k k0 (by omega)),by rw [<-hnm,show n=i by omega];omega⟩,fun _=>trivial⟩,hS.nl⟩
set_option maxRecDepth 20000 in
theorem c_pfits{vL vD:Value}{p:Prob}{vA:Value}{n:Int}{f:Int->Int}(w0:World)(h:PAt w0 vL vD p)(hA:Row w0 vA 1 n (ints f)):
    Calls Tryz.prog 144 [.agg #[vL,vD,.int .i64 p.stock,.int .i64 p.kerf],vA].toArray w0 fun e w=>∃v,e= .returned v/\v=B (FitsP p n f)/\Sat w0 w []:=by
  refine Zj Tryz.func144 Tryz.ntmps144 fun w hS=> ?_
  refine zsr ?_
  refine zla (xbx (cs:= [_,_,_,_]) hS) ?_;rintro _ w ⟨g1,rfl,hS⟩
  replace hS:=hS.n1
  refine zlv xas ?_
  refine zlz ?_
  refine zlv (xls 0 st_35 hS) ?_
  refine zlv xmv ?_
  refine zlc (xc0 ZfC) (ZgA (p:=p) w (h.below hS.below) (hA.below hS.below)) ?_;rintro _ w ⟨rr1,okr1,rfl,hfrr1,hS'⟩
  replace hS:=hS.cmp hS';clear hS'
  refine zs5 ?_
  refine zlz ?_
  refine zs2 ?_
  refine zx1<|zf1 ⟨_,rfl,?_⟩
  exact⟨Zq hfrr1,hS.nl⟩
set_option maxRecDepth 20000 in
theorem U2{vL vD:Value}{p:Prob}{vA:Value}{n:Int}{f:Int->Int}(w0:World)(h:PAt w0 vL vD p)(hA:Row w0 vA 1 n (ints f)):
    Calls Tryz.prog 119 [.agg #[vL,vD,.int .i64 p.stock,.int .i64 p.kerf],vA].toArray w0 fun e w=>∃v,e= .returned v/\v=B (ZD p n f)/\Sat w0 w []:=by
  have hm:=h.L.slh.n0;have hm1:=h.L.slh.n1;have hd:=h.D.slh.n0;have hd1:=h.D.slh.n1;have hs:=h.is;have hk:=h.ik
  have hn:=hA.slh.n0;have hn1:=hA.slh.n1
  refine Zj Tryz.func119 Tryz.ntmps119 fun w hS=> ?_
  refine zsr ?_
  refine zla (xbx (cs:= [_,_,_,_]) hS) ?_;rintro _ w ⟨g1,rfl,hS⟩
  replace hS:=hS.n1
  refine zlv xas ?_
  refine zx5 ?_
  refine zlv (xls 0 st_35 hS) ?_
  refine zlv xmv ?_
  refine zlc (xc0 cl_144) (c_pfits (p:=p) w (h.below hS.below) (hA.below hS.below)) ?_;rintro _ w ⟨rfl,hS'⟩
  replace hS:=hS.cmp hS';clear hS'
  refine zlv ZX ?_
  refine zlt ?_
  refine zcif ?_ ?_<;>intro hc
  ·
   refine zsr ?_
   refine zlv xas ?_
   refine zx14<|zf1 ⟨_,rfl,?_⟩
   exact⟨Zf (by intro hh;first|exact absurd hh.1 ‹_›|(have:=hh.2 i h0 (by omega);omega)),hS.nl⟩
  refine YR ?_
  refine zlv xmv ?_
  refine zlv (xln sl_22 hA.slh) ?_
  refine zlv xmv ?_
  refine zx6 ?_
  have hfit:FitsP p n f:=by first|assumption|exact Classical.not_not.1 ‹_›
  have hfe:=hfit.eq;have hfd:=hfit.ok.d
  refine zlp (fun mm M w=>∃(i:Int),mm=((n-i).toNat)/\(0<=i)/\(i<=n)/\(∀k,0<=k->k<i->f k<=p.D k)/\M= [(2,.pointer (some ⟨g1,0,none⟩)),(11,vA),(12,.int .i64 n),(13,.int .i64 i)]/\Sat w0 w [.blk g1 [vL,vD,.int .i64 p.stock,.int .i64 p.kerf]]) ⟨0,rfl,(by omega),(by omega),?_,rfl,hS⟩ ?_
  ·
   intro k k0 k1;omega
  clear hS w
  rintro mm M w ⟨i,rfl,h0,h1,hall,rfl,hS⟩
  refine zsr ?_
  refine zlv xlss ?_
  refine zx7 ?_
  refine zcif ?_ ?_<;>intro hc
  ·
   refine zx3 ?_
   refine zlv xmv ?_
   refine zlv (xix (kk:=i) sl_22 hA.slh) ?_
   refine zlv (xlr (u:= .int .i64 (f i)) pl_3 (hA.below hS.below)) ?_
   refine zs2 ?_
   refine zlz ?_
   refine zlv xmv ?_
   refine zlv (xfb 1 fd_35_1) ?_
   refine zlv (xlb 0 pl_22 hS) ?_
   refine zlv xmv ?_
   refine zlv (xix (kk:=i) sl_22 h.D.slh) ?_
   refine zlv (xlr (u:= .int .i64 (p.D i)) pl_3 (h.D.below hS.below)) ?_
   have hbv:=h.iD i
   refine zlv xgtr ?_
   refine zlt ?_
   refine zcif ?_ ?_<;>intro hc
   ·
    refine zsr ?_
    refine zlv xas ?_
    refine zx2<|zf1 ⟨_,rfl,?_⟩
    exact⟨Zf (by intro hh;first|exact absurd hh.1 ‹_›|(have:=hh.2 i h0 (by omega);omega)),hS.nl⟩
   refine zx4 ?_
   refine zlv (xadd (r:=i+1)) ?_
   refine zlv xmv ?_
   refine zln<|zlq ⟨i+1,rfl,(by omega),(by omega),?_,rfl,hS⟩
   ·
    intro k h0' h1';rcases Int.lt_or_eq_of_le (show k<=i by omega) with hk|hk;exact hall k h0' hk;rw [hk];omega
  refine zx8 ?_
  refine zlv xas ?_
  refine zx1<|zf1 ⟨_,rfl,?_⟩
  exact⟨ZU (by exact⟨hfit,fun k k0 k1=>hall k k0 (by omega)⟩),hS.nl⟩
set_option maxRecDepth 20000 in
theorem RT{vL vD:Value}{p:Prob}{vA:Value}{n:Int}{f:Int->Int}(w0:World)(h:PAt w0 vL vD p)(hA:Row w0 vA 1 n (ints f)):
    Calls Tryz.prog 85 [.agg #[vL,vD,.int .i64 p.stock,.int .i64 p.kerf],vA].toArray w0 fun e w=>∃v,e= .returned v/\v=B (ZD p n f)/\Sat w0 w []:=by
  have hm:=h.L.slh.n0;have hm1:=h.L.slh.n1;have hd:=h.D.slh.n0;have hd1:=h.D.slh.n1;have hs:=h.is;have hk:=h.ik
  have hn:=hA.slh.n0;have hn1:=hA.slh.n1
  refine Zj Tryz.func85 Tryz.ntmps85 fun w hS=> ?_
  refine zsr ?_
  refine zla (xbx (cs:= [_,_,_,_]) hS) ?_;rintro _ w ⟨g1,rfl,hS⟩
  replace hS:=hS.n1
  refine zlv xas ?_
  refine zx5 ?_
  refine zlv (xls 0 YD hS) ?_
  refine zlv xmv ?_
  refine zlc (xc0 Zhq) (ZgB (p:=p) w (h.below hS.below) (hA.below hS.below)) ?_;rintro _ w ⟨rfl,hS'⟩
  replace hS:=hS.cmp hS';clear hS'
  refine zlv ZX ?_
  refine zlt ?_
  refine zcif ?_ ?_<;>intro hc
  ·
   refine zsr ?_
   refine zlv xas ?_
   refine zx14<|zf1 ⟨_,rfl,?_⟩
   exact⟨Zf (by intro hh;first|exact absurd hh.1 ‹_›|(have:=hh.2 i h0 (by omega);omega)),hS.nl⟩
  refine YR ?_
  refine zlv xas ?_
  refine zx6 ?_
  have hfit:FitsP p n f:=by first|assumption|exact Classical.not_not.1 ‹_›
  have hfe:=hfit.eq;have hfd:=hfit.ok.d
  refine zlp (fun mm M w=>∃(i:Int),mm=((n-i).toNat)/\(0<=i)/\(i<=n)/\(∀k,0<=k->k<i->f k<=p.D k)/\M= [(1,vA),(2,.pointer (some ⟨g1,0,none⟩)),(5,.int .i64 i)]/\Sat w0 w [.blk g1 [vL,vD,.int .i64 p.stock,.int .i64 p.kerf]]) ⟨0,rfl,(by omega),(by omega),?_,rfl,hS⟩ ?_
  ·
   intro k k0 k1;omega
  clear hS w
  rintro mm M w ⟨i,rfl,h0,h1,hall,rfl,hS⟩
  refine zx11 ?_
  refine zs2 ?_
  refine zlv (xln sl_22 hA.slh) ?_
  refine zlv xlss ?_
  refine zlt ?_
  refine zcif ?_ ?_<;>intro hc
  ·
   refine zsk<|ztn<|zsq<|zbk<|zsq ?_
   refine zdst [0] [0] 1000 mx_ hS ?_;clear hS;intro w hS
   refine zDrv 0 xmv ?_
   refine zDrv 1 xmv ?_
   refine zDrv 2 (xix (kk:=i) sl_22 hA.slh) ?_
   refine zdla 3 (fun w hS=>(xlr (u:= .int .i64 (f i)) pl_3 (hA.below hS.below))) ?_
   refine zDrv 4 (xfb 1 fd_24_1) ?_
   refine zdla 5 (fun w hS=>(xlb 0 pl_22 hS)) ?_
   refine zDrv 6 xmv ?_
   refine zDrv 7 (xix (kk:=i) sl_22 h.D.slh) ?_
   refine zdla 8 (fun w hS=>(xlr (u:= .int .i64 (p.D i)) pl_3 (h.D.below hS.below))) ?_
   have hbv:=h.iD i
   refine zDrv 9 xgtr ?_
   refine zdd<|ztn ?_
   refine zcif ?_ ?_<;>intro hc
   ·
    refine zsr ?_
    refine zlv xas ?_
    refine zx2<|zf1 ⟨_,rfl,?_⟩
    exact⟨Zf (by intro hh;first|exact absurd hh.1 ‹_›|(have:=hh.2 i h0 (by omega);omega)),hS.nl⟩
   refine zx4 ?_
   refine zlv xmv ?_
   refine zlv (xadd (r:=i+1)) ?_
   refine zlv xas ?_
   refine zln<|zlq ⟨i+1,rfl,(by omega),(by omega),?_,rfl,hS⟩
   ·
    intro k h0' h1';rcases Int.lt_or_eq_of_le (show k<=i by omega) with hk|hk;exact hall k h0' hk;rw [hk];omega
  refine zx8 ?_
  refine zlv xas ?_
  refine zx1<|zf1 ⟨_,rfl,?_⟩
  exact⟨ZU (by exact⟨hfit,fun k k0 k1=>hall k k0 (by omega)⟩),hS.nl⟩
end Go.Proofs.YtopmifmfecfaaaaGreat
namespace Go.Proofs.Gw
open Go Go.RowKit
def Tp(v:Value)(q:Nat):Value:=match v with
  | .slice a _ cap=> .slice a q cap
  |u=>u
section
variable {P:Program} {L:List (Nat×Value)} {w w0:World} {o:Oper} {x y z:Operand} {T T':TypeId} {l:List Ent} {E:TypeId}
theorem KQ{v:Value}{n:Int}{q:Nat}(h:Slh v n)(hq:(q:Int)<=n):Slh (Tp v q) q:=by
  obtain⟨h0,h1,a,cap,rfl,hz⟩:=h
  refine⟨by omega,by omega,a,cap,rfl,?_⟩
  rcases hz with hz|hz
  · left;omega
  · exact .inr hz
theorem Zdk{v:Value}{n:Int}{q:Nat}{c:Int->Value}(h:Row w v 1 n c)(hq:(q:Int)<=n):Row w (Tp v q) 1 q c:=by
  refine⟨KQ h.slh hq,fun k hk=> ?_⟩
  have h2:=h.2 k (by omega)
  obtain⟨_,_,a,cap,rfl,_⟩:=h.slh
  cases a<;>exact h2
theorem Zbk{v:Value}{n i:Int}(q:Nat)(ht:ZB P T=some (E,1))(hv:Slh v n)(hq:(q:Int)=i:=by omega)(hn:0<n:=by omega)(h1:i<=n:=by omega)(ho:o.op= .slice T x (some y) none none:=by exact rfl)(hx:evL L x=some v:=by exact rfl)(hy:evL L y=some (.int .i64 i):=by exact rfl):
    Runs P L w o (.value (Y0 v q)) w:=fun ρ h=>by
  obtain⟨hu,inf,hin,hsz⟩:=ZT ht
  obtain⟨_,_,a,cap,rfl,hz⟩:=hv
  subst hq
  have hb:(Instr.sliceBounds true n.toNat cap (some (.int .i64 (q:Int))) none none).run P w= .ok (q,n.toNat,cap) w:=by
    simp [Instr.sliceBounds,Instr.sliceBound,asIntOf]
    omega
  have e:(Instr.sliceAt T (.slice a n.toNat cap) (some (.int .i64 (q:Int))) none none).run P w= .ok (Y0 (.slice a n.toNat cap) q) w:=by
    unfold Instr.sliceAt
    simp only [Sem.run_bind,run_underlying hu,Result.andThen_ok,Instr.slice,hb]
    simp [sizeOf,typeInfo,hin,hsz,Y0]
    rcases hz with hz|⟨b,off,rfl⟩
    · omega
    · by_cases hc:cap=q
      · simp [hc]
      · simp [hc,Addr.add_eq]
  simp [execOp,ho,h _ _ hx,h _ _ hy,e]
theorem Zbl{v:Value}{n i:Int}(q:Nat)(ht:ZB P T=some (E,1))(hv:Slh v n)(hr:XR v)(hq:(q:Int)=i:=by omega)(hn:0<n:=by omega)(h1:i<=n:=by omega)(ho:o.op= .slice T x none (some y) none:=by exact rfl)(hx:evL L x=some v:=by exact rfl)(hy:evL L y=some (.int .i64 i):=by exact rfl):
    Runs P L w o (.value (Tp v q)) w:=fun ρ h=>by
  obtain⟨hu,inf,hin,hsz⟩:=ZT ht
  obtain⟨_,_,a,cap,rfl,hz⟩:=hv
  have hc:=hr _ _ _ rfl
  subst hq
  have hb:(Instr.sliceBounds true n.toNat cap none (some (.int .i64 (q:Int))) none).run P w= .ok (0,q,cap) w:=by
    simp [Instr.sliceBounds,Instr.sliceBound,asIntOf]
    omega
  have e:(Instr.sliceAt T (.slice a n.toNat cap) none (some (.int .i64 (q:Int))) none).run P w= .ok (Tp (.slice a n.toNat cap) q) w:=by
    unfold Instr.sliceAt
    simp only [Sem.run_bind,run_underlying hu,Result.andThen_ok,Instr.slice,hb]
    rcases hz with hz|⟨b,off,rfl⟩
    · omega
    · simp [sizeOf,typeInfo,hin,hsz,Tp,Addr.add]
  simp [execOp,ho,h _ _ hx,h _ _ hy,e]
def cpy(q:Nat)(r:Int)(d c:Int->Value):Int->Value:=fun k=>if(q:Int)<=k/\k<q+r then d (k-q) else c k
theorem V8{v D u:Value}{n m r:Int}{q:Nat}{c d:Int->Value}(i:Nat)(ho:o.op= .call {callee:= .builtin .copy,args:= #[x,y],argTypes:= #[T,T']})(ht:ZB P T=some (E,1))(hx:evL L x=some D)(hy:evL L y=some u)(hS:Sat w0 w l)(hi:l[i]? =some (.own v 1 E n c))(hD:D=Y0 v q\/(D=v/\q=0))
    (hR:Row w u 1 m d) (hq:(q:Int)<n) (hm:0<m) (hr:r=min (n-q) m) (h1:∀k,0<=k->k<m->(d k).oneCell'=true):
    ∃rv w',Runs P L w o (.value rv) w'/\rv= .int .i64 r/\Sat w0 w' (l.set i (.own v 1 E n (cpy q r d c))):=by
  obtain⟨hu,inf,hin,hsz⟩:=ZT ht
  have hS':=hS
  rw [ZS hi] at hS'
  rw [Yp hi]
  have hsize:(P.info? E).map (·.size)=some 1:=by rw [hin];simp [hsz]
  have hg:=hS'.get
  obtain⟨_,_,a,cap,rfl,hz⟩:=hR.slh
  rcases hz with hz|⟨b,off,rfl⟩
  · omega
  obtain⟨_,_,⟨rfl,hz⟩|⟨g,cap',cur,rfl,hh,h2,h3,h4,h5⟩⟩:=hg
  · omega
  obtain⟨dCap,rfl⟩:∃dCap,D= .slice (some ⟨g,q,none⟩) (n.toNat-q) dCap:=by
    rcases hD with rfl|⟨rfl,rfl⟩
    · exact⟨cap'-q,by unfold Y0;dsimp only;rw [if_neg (by omega)];simp⟩
    · exact⟨cap',by simp⟩
  have done:∀{w':World} (r:Value),(Builtin.copy_ #[T,T'] 0 #[.slice (some ⟨g,q,none⟩) (n.toNat-q) dCap,.slice (some ⟨b,off,none⟩) m.toNat cap]).run P w= .ok r w'->Runs P L w o (.value r) w':=fun r hr ρ h=>by
    have hr':∀ty,(Builtin.copy_ #[T,T'] ty #[.slice (some ⟨g,q,none⟩) (n.toNat-q) dCap,.slice (some ⟨b,off,none⟩) m.toNat cap])=Builtin.copy_ #[T,T'] 0 #[.slice (some ⟨g,q,none⟩) (n.toNat-q) dCap,.slice (some ⟨b,off,none⟩) m.toNat cap]:=fun _=>rfl
    simp [execOp,ho,resolve,invoke,builtin,h _ _ hx,h _ _ hy,hr',hr]
  have hl:=Ym d r.toNat
  have hr:=run_copy_row (P:=P) w T T' 0 E g q (n.toNat-q) dCap ⟨b,off,none⟩ m.toNat cap cur E (cellsOf d r.toNat) hu hsize hh (by rw [hl];show r.toNat=min m.toNat (n.toNat-q);omega) (fun j t hj=>by
    rw [cellsOf_get] at hj
    split at hj
    · rename_i hlt
      cases hj
      have:=hR.2 j (by omega)
      rw [Addr.add_eq _ rfl]
      simpa [cad] using this
    · cases hj) (by rw [hl,h4];omega) (fun t ht=>by
    obtain⟨j,hj⟩:=List.getElem?_of_mem ht
    rw [cellsOf_get] at hj
    split at hj
    · cases hj;exact h1 _ (by omega) (by omega)
    · cases hj)
  rw [hl] at hr
  refine⟨_,_,done _ hr,by simp [goInt];omega,?_⟩
  refine hS'.turn (fun k _ hk=> ?_) rfl rfl rfl (by simp [World.setRow]) ⟨by omega,by omega,.inr ⟨g,cap',_,rfl,setRow_heap w g cur _ E _ hh,h2,h3,?_,fun k hk=> ?_⟩⟩ (fun _ h=> .inl h)
  · have:k≠g:=fun e=>hk (by rw [e];rfl)
    simp [World.setRow,Array.getElem?_modify,Ne.symm this]
  · simp [hl,h4];omega
  · have hk':k<n.toNat:=by omega
    have h6:=h5 k hk
    have ht:(cur.toList.take q).length=q:=by simp [h4];omega
    show(cur.toList.take q++cellsOf d r.toNat++cur.toList.drop (q+r.toNat)).toArray[k]? =_
    rw [List.getElem?_toArray]
    unfold cpy
    by_cases k1:k<q
    · rw [if_neg (by omega),List.getElem?_append_left (by rw [List.length_append,ht];omega),List.getElem?_append_left (by omega),List.getElem?_take,if_pos k1,Array.getElem?_toList];exact h6
    · by_cases k2:k<q+r.toNat
      · rw [if_pos (by omega),List.getElem?_append_left (by rw [List.length_append,ht,hl];omega),List.getElem?_append_right (by omega),ht,cellsOf_get,if_pos (by omega),show(((k-q:Nat)):Int)=(k:Int)-q by omega]
      · rw [if_neg (by omega),List.getElem?_append_right (by rw [List.length_append,ht,hl];omega),List.length_append,ht,hl,List.getElem?_drop,Array.getElem?_toList,show q+r.toNat+(k-(q+r.toNat))=k by omega];exact h6
end
end Go.Proofs.Gw
