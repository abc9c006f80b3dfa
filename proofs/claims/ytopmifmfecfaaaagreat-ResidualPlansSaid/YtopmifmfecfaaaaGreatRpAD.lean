import Derived.Test.YtopmifmfecfaaaaGreatRpAC
import Derived.Laws.StructEq
import Derived.ArgAppend
import Derived.RangeFuncBox
import Derived.RangeFuncLeaves
set_option linter.unusedVariables false
set_option linter.unusedSimpArgs false
set_option maxRecDepth 20000
set_option maxHeartbeats 4000000
namespace Go.Proofs.YtopmifmfecfaaaaGreat
open Go Go.RowKit Go.Proofs.Gw
variable {i n x y:Int} {s:So} {vD vL vX vY:Value}
theorem Ziw:Zc Tryz.prog 116=true:=by kernel_rfl
theorem Zef:Zc Tryz.prog 142=true:=by kernel_rfl
theorem ZhY:Zc Tryz.prog 163=true:=by kernel_rfl
theorem ZhX:Zc Tryz.prog 164=true:=by kernel_rfl
theorem Zb1:Zc Tryz.prog 45=true:=by kernel_rfl
theorem ZgI:Zc Tryz.prog 85=true:=by kernel_rfl
theorem ZjL:Zc Tryz.prog 86=true:=by kernel_rfl
theorem ZjK:Zc Tryz.prog 87=true:=by kernel_rfl
theorem ZdP:Z0 Tryz.prog 134=some (.agg #[.slice none 0 0,.slice none 0 0,.slice none 0 0],3,72):=by kernel_rfl
theorem ZdO:Z0 Tryz.prog 190=some (.agg #[.int .i64 0,.int .i64 0],2,16):=by kernel_rfl
theorem fd_29_2:Zz Tryz.prog 29 2=some 2:=by kernel_rfl
theorem fd_29_3:Zz Tryz.prog 29 3=some 3:=by kernel_rfl
theorem UP:ZF Tryz.prog 190=some 2:=by kernel_rfl
theorem ZcN{p:Prob}{vM:Value}{u:Int}{mv:Int->Value}{ml:Int->Int}{mf:Int->Int->Int}(w0:World)(h:PAt w0 vL vD p)(hM:MAt w0 vM u mv ml mf)(hok:p.Ok)(hu2:u<=60)(hml:∀k,0<=k->k<u->ml k=p.m):
    Calls Tryz.prog 87 [.agg #[vL,vD,.int .i64 p.stock,.int .i64 p.kerf],vM].toArray w0 fun e w=>∃v,e= .returned v/\∃vc vA vb vq,v= .agg #[vc,vA,vb]/\Slh vc u/\Slh vA p.m/\Slh vb p.m/\Sat w0 w [.own vc 1 3 u (ints fun _=>1),.own vA 1 22 p.m vq,.own vb 1 3 p.m (ints p.D),.sem (Frame.rows 3 p.m vq (fun _=>u) (fun i j=>mf j i))]:=by
  have hm:=h.L.slh.n0;have hm1:=h.L.slh.n1;have hd:=h.D.slh.n0;have hd1:=h.D.slh.n1;have hs:=h.is;have hk:=h.ik
  have hu:=hM.row.slh.n0;have hu1:=hM.row.slh.n1
  have hpd:=hok.d;have hpm:=hok.m1;have xc:=hok.m2
  refine Zm Tryz.func87 Tryz.ntmps87 fun w hS=> ?_
  refine zsr<|zla (xbx (cs:= [_,_,_,_]) hS) ?_;rintro _ w ⟨g1,rfl,hS⟩
  refine zla (xal (cs:= [_,_,_]) ZdP hS) ?_;rintro _ w ⟨g2,rfl,hS⟩
  refine zlz<|zla (xal (cs:= [_,_,_]) ZdP hS) ?_;rintro _ w ⟨g3,rfl,hS⟩
  refine zx5<|(zP)<|zx6 ?_
  replace hS:=hS.addnil 1 3 (ints (fun _=>0))
  replace hS:=hS.addnil 1 22 (fun _=>Value.slice none 0 0)
  replace hS:=hS.addrows 3 (fun _=>Value.slice none 0 0) (fun _=>u) (fun i j=>mf j i)
  have yw:=fun k (k0:0<=k) (k1:k<0)=>hS.slhIn 5 rfl k0 k1
  replace hS:=hS.addnil 1 3 (ints (fun _=>0))
  refine zlp (fun mm M w=>∃(nc:Int) (i0:Int) (wc:Value) (fc:Int->Int),mm=((u-i0).toNat)/\(0<=i0)/\(i0<=u)/\(nc=i0)/\(∀k,0<=k->k<i0->fc k=1)/\(Slh wc nc)/\M= [(1,vM),(2,.pointer (some ⟨g1,0,none⟩)),(4,.pointer (some ⟨g2,0,none⟩)),(5,.pointer (some ⟨g3,0,none⟩)),(6,.int .i64 i0)]/\Sat w0 w [.blk g1 [vL,vD,.int .i64 p.stock,.int .i64 p.kerf],.blk g2 [.slice none 0 0,.slice none 0 0,.slice none 0 0],.blk g3 [wc,(.slice none 0 0),(.slice none 0 0)],.own wc 1 3 nc (ints fc),.own (.slice none 0 0) 1 22 0 (fun _=>Value.slice none 0 0),.sem (Frame.rows 3 0 (fun _=>Value.slice none 0 0) (fun _=>u) (fun i j=>mf j i)),.own (.slice none 0 0) 1 3 0 (ints (fun _=>0))]) ⟨0,0,(.slice none 0 0),(fun _=>0),rfl,(by omega),(by omega),(by omega),?_,?_,rfl,hS⟩ ?_
  ·
   intro k k0 k1;omega
  ·
   exact slh_nil
  clear hS w
  rintro mm M w ⟨nc,i0,wc,fc,rfl,h00,h01,hnc,hfc,hwc,rfl,hS⟩
  refine zx11<|(zP)<|(zP)<|(zV (xln Zi hM.row.slh))<|(zP)<|zlt<|Ze ?_ ?_<;>intro hc
  ·
   refine zsk<|ztn<|zsq<|zbk<|zrg<|(zV (xfb 0 fd_134_0))<|(zV (xlb 2 pl_22 hS))<|zla (xli (n:=1) (len:=1) (pv:= [(0,.int .i64 1)]) (cs:= [.int .i64 1]) (c:=ints (fun _=>1)) Zb Zn hS) ?_;rintro v1 w ⟨hS,hv1⟩
   refine zla (xap 3 (r:=nc+1) Zb Zn hS (hS.rowN 7 rfl) (Z1 _ _ _)) ?_;rintro v2 w ⟨hS,hv2⟩
   refine(zV (xfb 0 fd_134_0))<|zle (xsb 2 pl_22 hS (hv:=hv2.one)) ?_;clear hS;rintro w hS
   refine zx10<|(zP)<|(zV (Zf (r:=i0+1)))<|(zP)<|zln<|zlq ⟨nc+1,i0+1,v2,(snoc fc nc 1),rfl,(by omega),(by omega),(by omega),?_,?_,rfl,hS.pk [0,1,2,3,4,5,6]⟩
   ·
    intro k k0 k1;by_cases e:k<nc
    · rw [Zl e];exact hfc k k0 (by omega)
    · rw [Zk e]
   ·
    exact hv2
  refine zx18<|(zP)<|zx6<|zlp (fun mm M w=>∃(nb:Int) (nC:Int) (wv:Int->Value) (i:Int) (wb:Value) (fb:Int->Int) (wC:Value),mm=((p.m-i).toNat)/\(0<=i)/\(i<=p.m)/\(nb=i)/\(nC=i)/\(∀k,0<=k->k<i->fb k=p.D k)/\(Slh wb nb)/\(Slh wC nC)/\M= [(1,vM),(2,.pointer (some ⟨g1,0,none⟩)),(4,.pointer (some ⟨g2,0,none⟩)),(5,.pointer (some ⟨g3,0,none⟩)),(7,.int .i64 i)]/\Sat w0 w [.blk g1 [vL,vD,.int .i64 p.stock,.int .i64 p.kerf],.blk g2 [.slice none 0 0,.slice none 0 0,.slice none 0 0],.blk g3 [wc,wC,wb],.own wc 1 3 nc (ints fc),.own wC 1 22 nC wv,.sem (Frame.rows 3 nC wv (fun _=>u) (fun i j=>mf j i)),.own wb 1 3 nb (ints fb)]) ⟨0,0,(fun _=>Value.slice none 0 0),0,(.slice none 0 0),(fun _=>0),(.slice none 0 0),rfl,(by omega),(by omega),(by omega),(by omega),?_,?_,?_,rfl,hS⟩ ?_
  ·
   intro k k0 k1;omega
  ·
   exact slh_nil
  ·
   exact slh_nil
  clear hS w
  rintro mm M w ⟨nb,nC,wv,i,wb,fb,wC,rfl,h0,h1,hnb,hnC,hfb,hwb,hwC,rfl,hS⟩
  have qN:=fun k (k0:0<=k) (k1:k<nC)=>hS.slhIn 5 rfl k0 k1
  refine zx11<|(zP)<|(zV (xfb 0 fd_24_0))<|(zV (xlb 0 pl_22 hS))<|(zV (xln Zb h.L.slh))<|(zP)<|zlt<|Ze ?_ ?_<;>intro hc
  ·
   refine zx3<|(zP)<|zx5<|(zP)<|zx6 ?_
   replace hS:=hS.addnil 1 3 (ints (fun _=>0))
   refine zlp (fun mm M w=>∃(nr:Int) (j:Int) (wr:Value) (fr:Int->Int),mm=((u-j).toNat)/\(0<=j)/\(j<=u)/\(nr=j)/\(∀k,0<=k->k<j->fr k=mf k i)/\(Slh wr nr)/\M= [(1,vM),(2,.pointer (some ⟨g1,0,none⟩)),(4,.pointer (some ⟨g2,0,none⟩)),(5,.pointer (some ⟨g3,0,none⟩)),(7,.int .i64 i),(8,wr),(9,.int .i64 j)]/\Sat w0 w [.blk g1 [vL,vD,.int .i64 p.stock,.int .i64 p.kerf],.blk g2 [.slice none 0 0,.slice none 0 0,.slice none 0 0],.blk g3 [wc,wC,wb],.own wc 1 3 nc (ints fc),.own wC 1 22 nC wv,.sem (Frame.rows 3 nC wv (fun _=>u) (fun i j=>mf j i)),.own wb 1 3 nb (ints fb),.own wr 1 3 nr (ints fr)]) ⟨0,0,(.slice none 0 0),(fun _=>0),rfl,(by omega),(by omega),(by omega),?_,?_,rfl,hS⟩ ?_
   ·
    intro k k0 k1;omega
   ·
    exact slh_nil
   clear hS w
   rintro mm M w ⟨nr,j,wr,fr,rfl,j0,j1,hnr,hfr,hwr,rfl,hS⟩
   refine zx11<|(zP)<|(zP)<|(zV (xln Zi hM.row.slh))<|(zP)<|zlt<|Ze ?_ ?_<;>intro hc
   ·
    refine zsk<|ztn<|zsq<|zbk<|zrg<|zs3 ?_
    have g9:=hml j j0 (by omega)
    refine(zV (xix (kk:=j) Zi hM.row.slh))<|(zV (xlr (u:=(mv j)) pl_22 (hM.row.below hS.below)))<|(zP)<|(zV (xix (kk:=i) Zb (hM.p j (by omega) (by omega)).slh))<|(zV (xlr (u:= .int .i64 ((mf j) i)) pl_3 ((hM.p j (by omega) (by omega)).below hS.below)))<|zla (xli (n:=1) (len:=1) (pv:= [(0,.int .i64 ((mf j) i))]) (cs:= [.int .i64 ((mf j) i)]) (c:=ints (fun _=>((mf j) i))) Zb Zn hS) ?_;rintro v3 w ⟨hS,hv3⟩
    refine zla (xap 7 (r:=nr+1) Zb Zn hS (hS.rowN 8 rfl) (Z1 _ _ _)) ?_;rintro v4 w ⟨hS,hv4⟩
    refine(zP)<|zx10<|(zP)<|(zV (Zf (r:=j+1)))<|(zP)<|zln<|zlq ⟨nr+1,j+1,v4,(snoc fr nr ((mf j) i)),rfl,(by omega),(by omega),(by omega),?_,?_,rfl,hS.pk [0,1,2,3,4,5,6,7]⟩
    ·
     intro k k0 k1;by_cases e:k<nr
     · rw [Zl e];exact hfr k k0 (by omega)
     · rw [Zk e];rw [show k=j by omega]
    ·
     exact hv4
   refine zx8<|(zV (xfb 1 fd_134_1))<|(zV (xlb 2 Zu hS))<|(zP)<|zla (xli (n:=1) (len:=1) (pv:= [(0,wr)]) (cs:= [wr]) (c:=(fun _=>wr)) Zi Ya hS (hf:=by obtain⟨_,_,_,_,rfl,_⟩:=hwr;kernel_rfl)) ?_;rintro v5 w ⟨hS,hv5⟩
   refine zla (xap 4 (r:=nC+1) Zi Ya hS (hS.rowN 8 rfl) (Y8 _ _ _) (h1:=fun _ _ _=>hwr.one)) ?_;rintro v6 w ⟨hS,hv6⟩
   replace hS:=Sat.merge (l1:= [_,_,_,_,_]) (l2:= [_]) (l3:= [_]) hS (by omega)
   have xe:=fun k (k0:0<=k) (k1:k<nC+1)=>hS.slhIn 5 rfl k0 k1
   refine(zV (xfb 1 fd_134_1))<|zle (xsb 2 Zu hS (hv:=hv6.one)) ?_;clear hS;rintro w hS
   refine zlt<|zdst [0,1,2,3,4,5,7] [0,1,3,4,5,7] 10 mx_ hS ?_;clear hS;intro w hS
   refine(zDw 0 (xfb 2 fd_134_2))<|zdl 1 (fun w hS=>(xlb 2 pl_22 hS)) ?_
   refine(zDw 2 (xfb 1 fd_24_1))<|(zDl 3 (fun w hS=>(xlb 0 pl_22 hS)))<|(zDw 4 xmv)<|(zDw 5 (xix (kk:=i) Zb h.D.slh))<|zdla 6 (fun w hS=>(xlr (u:= .int .i64 (p.D i)) pl_3 (h.D.below hS.below))) ?_
   have hbv:=h.iD i
   refine zda 7 (xli (n:=1) (len:=1) (pv:= [(0,.int .i64 (p.D i))]) (cs:= [.int .i64 (p.D i)]) (c:=ints (fun _=>p.D i)) Zb Zn hS) ?_;rintro v7 w ⟨hS,hv7⟩
   refine⟨⟨fun _=>hS.pk [0,1,2,3,4,5,7],hS.pk [0,1,3,4,5,7]⟩,?_⟩
   refine zda 8 (xap 6 (r:=nb+1) Zb Zn hS (hS.rowN 8 rfl) (Z1 _ _ _)) ?_;rintro v8 w ⟨hS,hv8⟩
   refine⟨⟨fun _=>hS.pk [0,1,2,3,4,5,7],hS.pk [0,1,3,4,5,7]⟩,?_⟩
   refine(zDw 9 (xfb 2 fd_134_2))<|zde 10 (xsb 2 pl_22 hS (hv:=hv8.one)) ?_;clear hS;rintro w hS
   refine⟨⟨fun h=>absurd h (by decide),hS.pk [0,1,3,4,5,7]⟩,?_⟩
   refine zdd<|zbn<|ztn<|zrg ?_
   refine(zP)<|(zV (Zf (r:=i+1)))<|(zP)<|zln ?_
   replace hS:=hS.rerows (vv':=gsn wv nC wr) (ln':=fun _=>u) (f':=fun i j=>mf j i) 5 rfl (fun k k0 k1=>by
     by_cases e:k<i
     · exact⟨rfl,Zs (by omega),fun j _ _=>by rw [Zs (by omega)]⟩
     · have hki:k=i:=by omega
       refine⟨rfl,?_,fun b b0 b1=> ?_⟩
       · rw [Zr (by omega)];omega
       · rw [Zr (by omega)] at b1
         rw [Zr (by omega),hki];exact hfr b b0 (by omega))
   have aF:=fun k (k0:0<=k) (k1:k<nC+1)=>hS.slhIn 5 rfl k0 k1
   refine zlq ⟨nb+1,nC+1,gsn wv nC wr,i+1,v8,(snoc fb nb (p.D i)),v6,rfl,(by omega),(by omega),(by omega),(by omega),?_,?_,?_,rfl,hS.pk [0,1,2,3,4,5,6]⟩
   ·
    intro k k0 k1;by_cases e:k<nb
    · rw [Zl e];exact hfb k k0 (by omega)
    · rw [Zk e];rw [show k=i by omega]
   ·
    exact hv8
   ·
    exact hv6
  refine zx8<|(zV (xls 2 UQ hS))<|zle (xsw 1 UQ hS (hd:=(Za hwc.one (Za hwC.one (Za hwb.one Zg))))) ?_;clear hS;rintro w hS
  refine zx1<|zfc 1 UQ hS ⟨_,rfl,?_⟩
  obtain rfl:i=p.m:=by omega
  obtain rfl:i0=u:=by omega
  replace hS:=hS.recont 3 rfl (d:=ints fun _=>1) (fun k k0 k1=>by unfold ints;rw [hfc k k0 (by omega)])
  replace hS:=hS.recont 6 rfl (d:=ints p.D) (fun k k0 k1=>by unfold ints;rw [hfb k k0 (by omega)])
  subst hnc;subst hnC;subst hnb
  exact⟨_,_,_,_,rfl,hwc,hwC,hwb,hS.pk [3,4,6,5]⟩
theorem ZcI{p:Prob}{vM:Value}{u:Int}{mv:Int->Value}{ml:Int->Int}{mf:Int->Int->Int}(w0:World)(h:PAt w0 vL vD p)(hM:MAt w0 vM u mv ml mf):
    Calls Tryz.prog 50 [.agg #[vL,vD,.int .i64 p.stock,.int .i64 p.kerf],vM].toArray w0 fun e w=>∃v,e= .returned v/\∃vX vY s e,v= .tuple #[.agg #[vX,vY,.int .i64 s.val,.int .i64 s.den],.int .i64 e]/\MSolveR p u ml mf s e/\Slh vX s.n/\Slh vY s.m/\Sat w0 w [.own vX 1 3 s.n (ints s.X),.own vY 1 3 s.m (ints s.Y)]:=by
  have hm:=h.L.slh.n0;have hm1:=h.L.slh.n1;have hd:=h.D.slh.n0;have hd1:=h.D.slh.n1;have hs:=h.is;have hk:=h.ik
  have hu:=hM.row.slh.n0;have hu1:=hM.row.slh.n1
  refine Zm Tryz.func50 Tryz.ntmps50 fun w hS=> ?_
  refine zsr<|zla (xbx (cs:= [_,_,_,_]) hS) ?_;rintro _ w ⟨g1,rfl,hS⟩
  refine zla (xal (cs:= [_,_,_,_]) WA hS) ?_;rintro _ w ⟨g2,rfl,hS⟩
  refine(zP)<|zx5<|(zV (xls 0 ZC hS))<|zlc (xc0 Uo) (YH (p:=p) w (h.below hS.below)) ?_;rintro _ w ⟨rfl,hS'⟩
  replace hS:=hS.cmp hS';clear hS'
  refine(zP)<|zlt<|Ze ?_ ?_<;>intro hc
  ·
   refine zsr<|(zV (xany (v:= .agg #[.slice none 0 0,.slice none 0 0,.int .i64 0,.int .i64 0])))<|zle (xsw 1 st_36 hS) ?_;clear hS;rintro w hS
   refine(zP)<|zx14<|ZW 1 st_36 hS ⟨_,rfl,?_⟩
   exact⟨_,_,So.zero,1,rfl,.inl ⟨fun⟨h1,h2⟩=>by
     first
     |exact absurd h1 ‹¬p.Ok›
     |exact hc (h2 q q0 (by omega))
     |(obtain⟨k,k0,k1,hk⟩:=‹∃k,0<=k/\k<u/\¬ZN p (ml k) (mf k)›;exact hk (h2 k k0 k1)),rfl,rfl⟩,slh_nil,slh_nil,((hS.sub (.cons _ (.cons _ .slnil))).addnil 1 3 (ints So.zero.X)).addnil 1 3 (ints So.zero.Y)⟩
  refine Xb<|(zP)<|zx6 ?_
  have hok:p.Ok:=by first|assumption|exact Classical.not_not.1 ‹_›
  have hpd:=hok.d;have hpm:=hok.m1;have xc:=hok.m2
  refine zlp (fun mm M w=>∃(q:Int),mm=((u-q).toNat)/\(0<=q)/\(q<=u)/\(∀k,0<=k->k<q->ZN p (ml k) (mf k))/\M= [(1,vM),(2,.pointer (some ⟨g1,0,none⟩)),(4,.pointer (some ⟨g2,0,none⟩)),(6,.int .i64 q)]/\Sat w0 w [.blk g1 [vL,vD,.int .i64 p.stock,.int .i64 p.kerf],.blk g2 [.slice none 0 0,.slice none 0 0,.int .i64 0,.int .i64 0]]) ⟨0,rfl,(by omega),(by omega),?_,rfl,hS⟩ ?_
  ·
   intro k k0 k1;omega
  clear hS w
  rintro mm M w ⟨q,rfl,q0,q1,hpl,rfl,hS⟩
  refine zx11<|(zP)<|(zP)<|(zV (xln Zi hM.row.slh))<|(zP)<|zlt<|Ze ?_ ?_<;>intro hc
  ·
   refine zx27<|zdst [0,1] [0,1] 1000 mx_ hS ?_;clear hS;intro w hS
   refine(zDl 0 (fun w hS=>(xls 0 ZC hS)))<|(zDw 1 xmv)<|(zDw 2 xmv)<|(zDw 3 (xix (kk:=q) Zi hM.row.slh))<|(zDl 4 (fun w hS=>(xlr (u:=(mv q)) pl_22 (hM.row.below hS.below))))<|zdc 5 (xc0 ZgI) (Uq (p:=p) w (h.below hS.below) ((hM.p q (by omega) (by omega)).below hS.below)) ?_;rintro _ w ⟨rfl,hS'⟩
   replace hS:=hS.cmp hS';clear hS'
   refine⟨⟨fun _=>hS,hS⟩,?_⟩
   refine(zDw 6 YK)<|zdd<|ztn ?_
   refine Ze ?_ ?_<;>intro hc
   ·
    refine zsr<|(zV (xany (v:= .agg #[.slice none 0 0,.slice none 0 0,.int .i64 0,.int .i64 0])))<|zle (xsw 1 st_36 hS) ?_;clear hS;rintro w hS
    refine(zP)<|zx2<|ZW 1 st_36 hS ⟨_,rfl,?_⟩
    exact⟨_,_,So.zero,1,rfl,.inl ⟨fun⟨h1,h2⟩=>by
      first
      |exact absurd h1 ‹¬p.Ok›
      |exact hc (h2 q q0 (by omega))
      |(obtain⟨k,k0,k1,hk⟩:=‹∃k,0<=k/\k<u/\¬ZN p (ml k) (mf k)›;exact hk (h2 k k0 k1)),rfl,rfl⟩,slh_nil,slh_nil,((hS.sub (.cons _ (.cons _ .slnil))).addnil 1 3 (ints So.zero.X)).addnil 1 3 (ints So.zero.Y)⟩
   refine zx4<|(zP)<|(zV (Zf (r:=q+1)))<|(zP)<|zln<|zlq ⟨q+1,rfl,(by omega),(by omega),?_,rfl,hS⟩
   ·
    have hq9:ZN p (ml q) (mf q):=by first|assumption|exact Classical.not_not.1 ‹_›
    intro k k0 k1;rcases Int.lt_or_eq_of_le (show k<=q by omega) with hk|hk
    · exact hpl k k0 hk
    · rw [hk];exact hq9
  refine zx18<|zlv (xfb 0 fd_24_0) ?_
  have hpr:∀k,0<=k->k<u->ZN p (ml k) (mf k):=fun k k0 k1=>hpl k k0 (by omega)
  refine(zV (xlb 0 pl_22 hS))<|(zV (xln Zb h.L.slh))<|(zP)<|(zP)<|zlb 30 ?_ ?_<;>intro hc
  ·
   iterate 3 refine zlo ?_
   refine(zP)<|zlt<|zct<|zsr ?_
   refine(zV (xany (v:= .agg #[.slice none 0 0,.slice none 0 0,.int .i64 0,.int .i64 0])))<|zle (xsw 1 st_36 hS) ?_;clear hS;rintro w hS
   refine(zP)<|zx14<|ZW 1 st_36 hS ⟨_,rfl,?_⟩
   exact⟨_,_,So.zero,9,rfl,.inr (.inl ⟨⟨hok,hpr⟩,by omega,rfl,rfl⟩),slh_nil,slh_nil,((hS.sub (.cons _ (.cons _ .slnil))).addnil 1 3 (ints So.zero.X)).addnil 1 3 (ints So.zero.Y)⟩
  refine(zP)<|(zV (xln Zi hM.row.slh))<|(zP)<|(zP)<|zlt<|Ze ?_ ?_<;>intro hc
  ·
   refine zsr<|(zV (xany (v:= .agg #[.slice none 0 0,.slice none 0 0,.int .i64 0,.int .i64 0])))<|zle (xsw 1 st_36 hS) ?_;clear hS;rintro w hS
   refine(zP)<|zx14<|ZW 1 st_36 hS ⟨_,rfl,?_⟩
   exact⟨_,_,So.zero,9,rfl,.inr (.inl ⟨⟨hok,hpr⟩,by omega,rfl,rfl⟩),slh_nil,slh_nil,((hS.sub (.cons _ (.cons _ .slnil))).addnil 1 3 (ints So.zero.X)).addnil 1 3 (ints So.zero.Y)⟩
  refine Xb<|(zP)<|(zV (xln Zi hM.row.slh))<|(zP)<|zlt<|Ze ?_ ?_<;>intro hc
  ·
   refine zx11<|(zP)<|zx6<|zlp (fun mm M w=>∃(j:Int),mm=((p.d-j).toNat)/\(0<=j)/\(j<=p.d)/\(∀k,0<=k->k<j->p.D k<=0)/\M= [(1,vM),(2,.pointer (some ⟨g1,0,none⟩)),(4,.pointer (some ⟨g2,0,none⟩)),(7,.int .i64 j)]/\Sat w0 w [.blk g1 [vL,vD,.int .i64 p.stock,.int .i64 p.kerf],.blk g2 [.slice none 0 0,.slice none 0 0,.int .i64 0,.int .i64 0]]) ⟨0,rfl,(by omega),(by omega),?_,rfl,hS⟩ ?_
   ·
    intro k k0 k1;omega
   clear hS w
   rintro mm M w ⟨j,rfl,j0,j1,qa,rfl,hS⟩
   refine zx11<|(zP)<|(zV (xfb 1 fd_24_1))<|(zV (xlb 0 pl_22 hS))<|(zV (xln Zb h.D.slh))<|(zP)<|zlt<|Ze ?_ ?_<;>intro hc
   ·
    refine zx3<|(zV (xfb 1 fd_24_1))<|(zV (xlb 0 pl_22 hS))<|(zP)<|(zV (xix (kk:=j) Zb h.D.slh))<|zlv (xlr (u:= .int .i64 (p.D j)) pl_3 (h.D.below hS.below)) ?_
    have hbv:=h.iD j
    refine(zP)<|zlt<|Ze ?_ ?_<;>intro hc
    ·
     refine zsr<|(zV (xany (v:= .agg #[.slice none 0 0,.slice none 0 0,.int .i64 0,.int .i64 0])))<|zle (xsw 1 st_36 hS) ?_;clear hS;rintro w hS
     refine(zP)<|zlt<|zrt<|zbr<|ztr<|ztr<|zbr<|ztr<|ztr<|ZW 1 st_36 hS ⟨_,rfl,?_⟩
     exact⟨_,_,So.zero,19,rfl,.inr (.inr (.inl ⟨⟨hok,hpr⟩,by omega,by omega,by omega,by first|(obtain⟨k,k0,k1,hk⟩:=yK;exact⟨k,k0,k1,by omega⟩)|exact⟨_,‹0<=j›,‹j<p.d›,‹_›⟩|exact⟨j,by omega,by omega,by omega⟩,rfl,rfl⟩)),slh_nil,slh_nil,((hS.sub (.cons _ (.cons _ .slnil))).addnil 1 3 (ints So.zero.X)).addnil 1 3 (ints So.zero.Y)⟩
    refine zx4<|(zP)<|(zV (Zf (r:=j+1)))<|(zP)<|zln<|zlq ⟨j+1,rfl,(by omega),(by omega),?_,rfl,hS⟩
    ·
     intro k h0' h1';rcases Int.lt_or_eq_of_le (show k<=j by omega) with hk|hk
     · exact qa k h0' hk
     · rw [hk];omega
   refine zx8<|(zV (xfb 0 fd_24_0))<|(zV (xlb 0 pl_22 hS))<|(zV (xln Zb h.L.slh))<|zla (xmk Zb Zn hS) ?_;rintro v1 w ⟨hS,hv1⟩
   refine zlv (xany (v:= .agg #[.slice none 0 0,v1,.int .i64 0,.int .i64 1]) (hr:=by obtain⟨_,_,_,_,rfl,_⟩:=hv1;kernel_rfl)) ?_
   refine zle (xsw 1 st_36 hS (hd:=(Za rfl (Za hv1.one (Za rfl (Za rfl Zg)))))) ?_;clear hS;rintro w hS
   refine(zP)<|zx14<|ZW 1 st_36 hS ⟨_,rfl,?_⟩
   exact⟨_,_,so0 p,0,rfl,.inr (.inr (.inr (.inl ⟨⟨hok,hpr⟩,by omega,by omega,by omega,(fun k k0 k1=>by first|(have:=yV k k0 k1;omega)|(have:=qa k k0 (by omega);omega)),rfl,rfl⟩))),slh_nil,hv1,(hS.addnil 1 3 (ints fun _=>0)).pk [3,2]⟩
  refine Z7<|(zV (xls 0 ZC hS))<|(zP)<|zlc (xc0 ZjK) (ZcN (p:=p) w (h.below hS.below) (hM.below hS.below) hok (by omega) (fun k k0 k1=>(hpr k k0 k1).1.eq)) ?_;rintro _ w ⟨dG,bX,dH,bU,rfl,fk,fp,fo,hS'⟩
  replace hS:=(hS.comp hS').n6;clear hS'
  have fi:=fun k (k0:0<=k) (k1:k<p.m)=>hS.slhIn 5 rfl k0 k1
  refine zlc (xc0 ZjL) (ZeA (p:=(⟨u,p.m,p.m,(fun _=>1),(fun _=>u),(fun i j=>mf j i),p.D⟩:Lp)) w (⟨(hS.rowN 2 rfl),(⟨(hS.rowN 3 rfl),fun k k0 k1=>hS.rowIn 5 rfl k0 k1,fun k k0 k1=>hS.roomIn 5 rfl k0 k1⟩:MAt _ bX p.m bU (fun _=>u) (fun i j=>mf j i)),(hS.rowN 4 rfl)⟩:LAt _ dG bX dH bU (⟨u,p.m,p.m,(fun _=>1),(fun _=>u),(fun i j=>mf j i),p.D⟩:Lp))) ?_;rintro _ w ⟨eS,eR,ss1,es1,rfl,bg,zW,zU,hS'⟩
  replace hS:=(hS.comp hS').n8;clear hS'
  refine(zP)<|(zP)<|zle (xsw 1 st_36 hS (hd:=(Za zW.one (Za zU.one (Za rfl (Za rfl Zg)))))) ?_;clear hS;rintro w hS
  refine(zP)<|zx1<|ZW 1 st_36 hS ⟨_,rfl,?_⟩
  exact⟨_,_,ss1,_,rfl,.inr (.inr (.inr (.inr ⟨⟨hok,hpr⟩,by omega,by omega,by omega,(show ZaU p u mf=⟨u,p.m,p.m,fun _=>1,fun _=>u,fun i j=>mf j i,p.D⟩ by unfold ZaU;rw [hpd])▸bg⟩))),zW,zU,hS.pk [6,7]⟩
def ZgS(u u2:Int)(ml ml2:Int->Int)(mf mf2:Int->Int->Int):Prop:=u=u2/\∀k,0<=k->k<u->ml k=ml2 k/\∀j,0<=j->j<ml k->mf k j=mf2 k j
theorem Zdu(hx:0<=x)(hy:0<y):Int.gcd y (x.tmod y)=Int.gcd x y:=by
  rw [Int.tmod_eq_emod_of_nonneg hx]
  obtain⟨m,rfl⟩:=Int.eq_ofNat_of_zero_le hx
  obtain⟨n,rfl⟩:=Int.eq_ofNat_of_zero_le (show 0<=y by omega)
  show Nat.gcd n (m%n)=Nat.gcd m n
  rw [Nat.gcd_comm,<-Nat.gcd_rec,Nat.gcd_comm]
theorem VI{va vb:Value}{m:Int}{f g:Int->Int}(w0:World)(hA:Row w0 va 1 n (ints f))(hB2:Row w0 vb 1 m (ints g)):
    Calls Tryz.prog 45 [va,vb].toArray w0 fun e w=>∃v,e= .returned v/\v=B (n=m/\∀k,0<=k->k<n->f k=g k)/\Sat w0 w []:=by
  have hn:=hA.slh.n0;have hm1:=hB2.slh.n1;have hn1:=hA.slh.n1
  refine Zm Tryz.func45 Tryz.ntmps45 fun w hS=> ?_
  refine zsr<|(zP)<|zx5<|(zP)<|(zV (xln Zb hA.slh))<|(zP)<|(zV (xln Zb hB2.slh))<|(zP)<|zlt<|Ze ?_ ?_<;>intro hc
  ·
   refine zsr<|(zP)<|zx14<|zf1 ⟨_,rfl,?_⟩
   exact⟨false_B (by rintro⟨h1,h2⟩;first|omega|exact absurd (h2 i h0 (by omega)) (by omega)),hS⟩
  refine Xb<|(zP)<|zx6<|zlp (fun mm M w=>∃(i:Int),mm=((n-i).toNat)/\(0<=i)/\(i<=n)/\(∀k,0<=k->k<i->f k=g k)/\M= [(0,va),(1,vb),(5,.int .i64 i)]/\Sat w0 w []) ⟨0,rfl,(by omega),(by omega),?_,rfl,hS⟩ ?_
  ·
   intro k h0 h1;omega
  clear hS w
  rintro mm M w ⟨i,rfl,h0,h1,qa,rfl,hS⟩
  refine zx11<|(zP)<|(zP)<|(zV (xln Zb hA.slh))<|(zP)<|zlt<|Ze ?_ ?_<;>intro hc
  ·
   refine zx27<|zdst [] [] 1000 mx_ hS ?_;clear hS;intro w hS
   refine(zDw 0 xmv)<|(zDw 1 xmv)<|(zDw 2 (xix (kk:=i) Zb hA.slh))<|(zDl 3 (fun w hS=>(xlr (u:= .int .i64 (f i)) pl_3 (hA.below hS.below))))<|(zDw 4 xmv)<|(zDw 5 xmv)<|(zDw 6 (xix (kk:=i) Zb hB2.slh))<|(zDl 7 (fun w hS=>(xlr (u:= .int .i64 (g i)) pl_3 (hB2.below hS.below))))<|(zDw 8 YN)<|zdd<|ztn ?_
   refine Ze ?_ ?_<;>intro hc
   ·
    refine zsr<|(zP)<|zx2<|zf1 ⟨_,rfl,?_⟩
    exact⟨false_B (by rintro⟨h1,h2⟩;first|omega|exact absurd (h2 i h0 (by omega)) (by omega)),hS⟩
   refine zx4<|(zP)<|(zV (Zf (r:=i+1)))<|(zP)<|zln<|zlq ⟨i+1,rfl,(by omega),(by omega),?_,rfl,hS⟩
   ·
    intro k h0' h1';rcases Int.lt_or_eq_of_le (show k<=i by omega) with hk|hk;exact qa k h0' hk;rw [hk];omega
  refine zx8<|(zP)<|zx1<|zf1 ⟨_,rfl,?_⟩
  exact⟨ZU ⟨by omega,fun k k0 k1=>qa k k0 (by omega)⟩,hS⟩
theorem Zki(w0:World)(hx0:0<=x/\x<=9223372036854775807)(hy0:0<=y/\y<=9223372036854775807):
    Calls Tryz.prog 163 [.int .i64 x,.int .i64 y].toArray w0 fun e w=>∃v,e= .returned v/\v= .int .i64 (Int.gcd x y)/\Sat w0 w []:=by
  refine Zm Tryz.func163 Tryz.ntmps163 fun w hS=> ?_
  refine zsr<|(zP)<|zlt<|zsq<|zbk<|zlp (fun mm M w=>∃(x1:Int) (y1:Int),mm=y1.toNat/\(0<=x1)/\(x1<=9223372036854775807)/\(0<=y1)/\(y1<=9223372036854775807)/\(Int.gcd x1 y1=Int.gcd x y)/\M= [(0,.int .i64 x1),(1,.int .i64 y1),(4,.int .i64 0)]/\Sat w0 w []) ⟨x,y,rfl,(by omega),(by omega),(by omega),?_,?_,rfl,hS⟩ ?_
  ·
   omega
  ·
   rfl
  clear hS w
  rintro mm M w ⟨x1,y1,rfl,hx,hx1,hy,hy1,hgc,rfl,hS⟩
  have htn:=Int.tmod_nonneg y1 hx
  refine zx11<|(zP)<|(zP)<|zlt<|Ze ?_ ?_<;>intro hc
  ·
   refine zsk<|ztn<|zbk<|zdst [] [] 1000 mx_ hS ?_;clear hS;intro w hS
   refine(zDw 0 xmv)<|(zDw 1 xmv)<|(zDw 2 xmv)<|(zDw 3 (Rq (r:=(Int.tmod x1 y1))))<|(zDw 4 xas)<|(zDw 5 xas)<|zdd<|zbn<|zlq ⟨y1,(Int.tmod x1 y1),rfl,(by omega),(by omega),(by omega),?_,?_,rfl,hS⟩ (hlt:=(by have:=Int.tmod_lt_of_pos x1 (show 0<y1 by omega);omega))
   ·
    have:=Int.tmod_lt_of_pos x1 (show 0<y1 by omega);omega
   ·
    rw [Zdu hx (by omega)];exact hgc
  refine zx8<|(zP)<|(zP)<|zx1<|zf1 ⟨_,rfl,?_⟩
  obtain rfl:y1=0:=by omega
  exact⟨by rw [<-hgc,Int.gcd_zero_right];congr 1;omega,hS⟩
def ZT(s:So):Prop:=(1<=s.den/\s.den<=1073741824)/\(0<=s.val/\s.val<=1073741824)/\∀k,0<=k->k<s.n->0<=s.X k/\s.X k<=1073741824
def two(x y:Int):Int->Int:=fun k=> [x,y].getD k.toNat 0
theorem ZfU{f:Int->Int}(hn:0<=n):(∀k,0<=k->k<n->cat n f (two x y) k=f k)/\cat n f (two x y) n=x/\cat n f (two x y) (n+1)=y:=by
  refine⟨fun k k0 k1=> ?_,?_,?_⟩
  · unfold cat;rw [if_pos k1]
  · unfold cat;rw [if_neg (by omega),Int.sub_self];rfl
  · unfold cat;rw [if_neg (by omega),show n+1-n=1 by omega];rfl
theorem TM(hn:0<=s.n)(he:∃k,0<=k/\k<s.n+2/\cat s.n s.X (two s.val s.den) k=x)(ha:∀k,0<=k->k<s.n+2->cat s.n s.X (two s.val s.den) k<=x)(h1:1<=s.den)(h2:0<=s.val)(h3:¬∃k,0<=k/\k<s.n/\s.X k<0):x<=1073741824↔ZT s:=by
  obtain⟨c1,c2,c3⟩:=ZfU (n:=s.n) (x:=s.val) (y:=s.den) (f:=s.X) hn
  constructor
  · intro hx
    have a1:=ha s.n hn (by omega)
    have a2:=ha (s.n+1) (by omega) (by omega)
    exact⟨⟨h1,by omega⟩,⟨h2,by omega⟩,fun k k0 k1=>⟨Int.not_lt.1 fun hh=>h3 ⟨k,k0,k1,hh⟩,by have:=ha k k0 (by omega);rw [c1 k k0 k1] at this;omega⟩⟩
  · rintro⟨b1,b2,b3⟩
    obtain⟨k,k0,k1,hk⟩:=he
    by_cases e:k<s.n
    · rw [c1 k k0 e] at hk;have:=b3 k k0 e;omega
    · by_cases e2:k=s.n
      · rw [e2,c2] at hk;omega
      · rw [show k=s.n+1 by omega,c3] at hk;omega
theorem Zkf(w0:World):
    Calls Tryz.prog 164 [.int .i64 x].toArray w0 fun e w=>∃v,e= .returned v/\v=B (x<0)/\Sat w0 w []:=by
  refine Zm Tryz.func164 Tryz.ntmps164 fun w hS=> ?_
  refine zsr<|(zP)<|zlz<|(zP)<|(zP)<|(zP)<|zx1<|zf1 ⟨_,rfl,?_⟩
  exact⟨ZA (by omega),hS⟩
theorem Zge{v:Value}{f:Int->Int}(w0:World)(hR:Row w0 v 1 n (ints f)):
    Calls Tryz.prog 95 [v,.func (.func 164) #[] #[]].toArray w0 fun e w=>∃v,e= .returned v/\∃r:Int,v= .int .i64 r/\((r= -1/\∀k,0<=k->k<n->¬(f k<0))\/(0<=r/\r<n/\(f r<0)))/\Sat w0 w []:=by
  have hn:=hR.slh.n0;have hn1:=hR.slh.n1
  refine Zm Tryz.func95 Tryz.ntmps95 fun w hS=> ?_
  refine zsr<|(zP)<|zx5<|(zP)<|(zV (xln Zb hR.slh))<|(zP)<|zx6<|zlp (fun mm M w=>∃(i:Int),mm=((n-i).toNat)/\(0<=i)/\(i<=n)/\(∀k,0<=k->k<i->¬(f k<0))/\M= [(0,v),(1,.func (.func 164) #[] #[]),(7,.int .i64 n),(8,.int .i64 i)]/\Sat w0 w []) ⟨0,rfl,(by omega),(by omega),?_,rfl,hS⟩ ?_
  ·
   intro k h0 h1;omega
  clear hS w
  rintro mm M w ⟨i,rfl,h0,h1,qa,rfl,hS⟩
  refine zsr<|(zP)<|zx7<|Ze ?_ ?_<;>intro hc
  ·
   refine zx3<|(zP)<|(zP)<|zlz<|(zP)<|(zP)<|(zP)<|(zV (xix (kk:=i) Zb hR.slh))<|(zV (xlr (u:= .int .i64 (f i)) pl_3 (hR.below hS.below)))<|zlc (xc0 ZhX) (Zkf (x:=(f i)) w) ?_;rintro _ w ⟨rfl,hS'⟩
   replace hS:=hS.cmp hS';clear hS'
   refine zlt<|Ze ?_ ?_<;>intro hc
   ·
    refine zsr<|(zP)<|(zP)<|zx2<|zf1 ⟨_,rfl,?_⟩
    exact⟨i,rfl,.inr ⟨by omega,by omega,‹f i<0›⟩,hS⟩
   refine zx4<|(zV (Zf (r:=i+1)))<|(zP)<|zln<|zlq ⟨i+1,rfl,(by omega),(by omega),?_,rfl,hS⟩
   ·
    intro k h0' h1';rcases Int.lt_or_eq_of_le (show k<=i by omega) with hk|hk;exact qa k h0' hk;rw [hk];assumption
  refine zx8<|(zP)<|zx1<|zf1 ⟨_,rfl,?_⟩
  exact⟨-1,rfl,.inl ⟨rfl,fun k h0 h1=>qa k h0 (by omega)⟩,hS⟩
theorem Zcb{v:Value}{f:Int->Int}(w0:World)(hR:Row w0 v 1 n (ints f)):
    Calls Tryz.prog 104 [v,.func (.func 164) #[] #[]].toArray w0 fun e w=>∃v,e= .returned v/\v=B (∃k,0<=k/\k<n/\(f k<0))/\Sat w0 w []:=by
  refine Zm Tryz.func104 Tryz.ntmps104 fun w hS=> ?_
  refine zsr<|(zP)<|zlz<|(zP)<|(zP)<|zlc (xc0 Zap) (Zge w (hR.below hS.below)) ?_;rintro _ w ⟨r1,rfl,hr1,hS'⟩
  replace hS:=hS.cmp hS';clear hS'
  refine(zP)<|(zP)<|zx1<|zf1 ⟨_,rfl,?_⟩
  exact⟨ZA (by
   rcases hr1 with⟨h1,h2⟩|⟨h1,h2,h3⟩
   · exact⟨fun h=>by omega,fun⟨k,h4,h5,h6⟩=>absurd h6 (h2 k h4 h5)⟩
   · exact⟨fun _=>⟨_,h1,h2,h3⟩,fun _=>h1⟩),hS⟩
theorem Rg(w0:World)(hX:Row w0 vX 1 s.n (ints s.X))(hY:Row w0 vY 1 s.m (ints s.Y))(xV:s.n<=1000):
    Calls Tryz.prog 142 [.agg #[vX,vY,.int .i64 s.val,.int .i64 s.den]].toArray w0 fun e w=>∃v,e= .returned v/\v=B (ZT s)/\Sat w0 w []:=by
  have hn:=hX.slh.n0;have hn1:=hX.slh.n1
  refine Zm Tryz.func142 Tryz.ntmps142 fun w hS=> ?_
  refine zsr<|zla (xbx (cs:= [_,_,_,_]) hS) ?_;rintro _ w ⟨g1,rfl,hS⟩
  refine(zP)<|zx7<|zdst [0] [0] 1000 mx_ hS ?_;clear hS;intro w hS
  refine(zDw 0 (xfb 0 fd_29_0))<|(zDl 1 (fun w hS=>(xlb 0 pl_22 hS)))<|(zDw 3 (xfb 2 fd_29_2))<|(zDl 4 (fun w hS=>(xlb 0 pl_3 hS)))<|(zDw 5 (xfb 3 fd_29_3))<|(zDl 6 (fun w hS=>(xlb 0 pl_3 hS)))<|YS (r:= [2,7]) ((ZO ?_ (ZO ?_ YR)))
  ·
   refine zkc (xc0 cl_70) (c_clone (n:=s.n) (f:=s.X) w (hX.below hS.below) (by omega)) ?_;rintro vq1 w ⟨_,rfl,qc,hS'⟩
   replace hS:=(hS.comp hS').n2;clear hS'
   refine⟨⟨fun _=>hS.pk [0],hS.pk [0]⟩,?_⟩
   refine zda 7 (xli (n:=2) (len:=2) (pv:= [(0,.int .i64 s.val),(1,.int .i64 s.den)]) (cs:= [.int .i64 s.val,.int .i64 s.den]) (c:=ints (fun k=> [s.val,s.den].getD k.toNat 0)) Zb Zn hS) ?_;rintro v1 w ⟨hS,hv1⟩
   refine⟨⟨fun _=>hS.pk [0],hS.pk [0]⟩,?_⟩
   refine zda 8 (xap 1 (r:=s.n+2) (f:=ints (cat s.n s.X (two s.val s.den))) Zb Zn hS (hS.rowN 2 rfl) (by exact Zp _ _ _)) ?_;rintro v2 w ⟨hS,hv2⟩
   refine⟨⟨fun _=>hS.pk [0],hS.pk [0]⟩,?_⟩
   refine(zDw 9 xas)<|zdd<|ztn<|zsr ?_
   refine(zP)<|zlz<|(zV (xfb 3 fd_29_3))<|(zV (xlb 0 pl_3 hS))<|(zP)<|(zP)<|zlb 17 ?_ ?_<;>intro hc
   ·
    refine(zV (xfb 2 fd_29_2))<|(zV (xlb 0 pl_3 hS))<|(zP)<|(zP)<|(zP)<|zlb 22 ?_ ?_<;>intro hc
    ·
     refine(zV (xfb 0 fd_29_0))<|(zV (xlb 0 pl_22 hS))<|(zP)<|zlc (xc0 Tn) (Zcb (n:=s.n) (f:=s.X) w (hX.below hS.below)) ?_;rintro _ w ⟨rfl,hS'⟩
     replace hS:=hS.cmp hS';clear hS'
     refine(zP)<|(zP)<|(zP)<|zlb 29 ?_ ?_<;>intro hc
     ·
      refine(zP)<|zlc (xc0 Za8) (ZeN (n:=(s.n+2)) (f:=(cat s.n s.X (two s.val s.den))) w (hS.rowN 1 rfl) (by omega)) ?_;rintro _ w ⟨x1,rfl,yK,yV,hS'⟩
      replace hS:=hS.cmp hS';clear hS'
      refine(zP)<|(zP)<|(zP)<|zx1<|zf1 ⟨_,rfl,?_⟩
      exact⟨ZA (TM hn yK yV (by omega) (by omega) (show¬(∃k,0<=k/\k<s.n/\s.X k<0) by first|assumption|exact fun hh=>absurd hh ‹_›)),hS.nl⟩
     iterate 3 refine zlo ?_
     refine(zP)<|(zP)<|zx1<|zf1 ⟨_,rfl,?_⟩
     exact⟨false_B (by rintro⟨g1,g2,g3⟩;first|omega|(obtain⟨k,k0,k1,hk⟩:=(show∃k,0<=k/\k<s.n/\s.X k<0 by first|assumption|exact Classical.not_not.1 (by assumption));have:=g3 k k0 k1;omega)),hS.nl⟩
    iterate 5 refine zlo ?_
    refine zs2 ?_
    iterate 3 refine zlo ?_
    refine(zP)<|(zP)<|zx1<|zf1 ⟨_,rfl,?_⟩
    exact⟨false_B (by rintro⟨g1,g2,g3⟩;first|omega|(obtain⟨k,k0,k1,hk⟩:=(show∃k,0<=k/\k<s.n/\s.X k<0 by first|assumption|exact Classical.not_not.1 (by assumption));have:=g3 k k0 k1;omega)),hS.nl⟩
   iterate 3 refine zlo ?_
   refine zs2 ?_
   iterate 5 refine zlo ?_
   refine zs2 ?_
   iterate 3 refine zlo ?_
   refine(zP)<|(zP)<|zx1<|zf1 ⟨_,rfl,?_⟩
   exact⟨false_B (by rintro⟨g1,g2,g3⟩;first|omega|(obtain⟨k,k0,k1,hk⟩:=(show∃k,0<=k/\k<s.n/\s.X k<0 by first|assumption|exact Classical.not_not.1 (by assumption));have:=g3 k k0 k1;omega)),hS.nl⟩
  refine zka (xli (n:=2) (len:=2) (pv:= [(0,.int .i64 s.val),(1,.int .i64 s.den)]) (cs:= [.int .i64 s.val,.int .i64 s.den]) (c:=ints (fun k=> [s.val,s.den].getD k.toNat 0)) Zb Zn hS) ?_;rintro v1 w ⟨hS,hv1⟩
  refine⟨⟨fun _=>hS.pk [0],hS.pk [0]⟩,?_⟩
  refine zdc 2 (xc0 cl_70) (c_clone (n:=s.n) (f:=s.X) w (hX.below hS.below) (by omega)) ?_;rintro vq1 w ⟨_,rfl,qc,hS'⟩
  replace hS:=(hS.comp hS').n3;clear hS'
  refine⟨⟨fun _=>hS.pk [0],hS.pk [0]⟩,?_⟩
  refine zda 8 (xap 2 (r:=s.n+2) (f:=ints (cat s.n s.X (two s.val s.den))) Zb Zn hS (hS.rowN 1 rfl) (by exact Zp _ _ _)) ?_;rintro v2 w ⟨hS,hv2⟩
  refine⟨⟨fun _=>hS.pk [0],hS.pk [0]⟩,?_⟩
  refine(zDw 9 xas)<|zdd<|ztn<|zsr ?_
  refine(zP)<|zlz<|(zV (xfb 3 fd_29_3))<|(zV (xlb 0 pl_3 hS))<|(zP)<|(zP)<|zlb 17 ?_ ?_<;>intro hc
  ·
   refine(zV (xfb 2 fd_29_2))<|(zV (xlb 0 pl_3 hS))<|(zP)<|(zP)<|(zP)<|zlb 22 ?_ ?_<;>intro hc
   ·
    refine(zV (xfb 0 fd_29_0))<|(zV (xlb 0 pl_22 hS))<|(zP)<|zlc (xc0 Tn) (Zcb (n:=s.n) (f:=s.X) w (hX.below hS.below)) ?_;rintro _ w ⟨rfl,hS'⟩
    replace hS:=hS.cmp hS';clear hS'
    refine(zP)<|(zP)<|(zP)<|zlb 29 ?_ ?_<;>intro hc
    ·
     refine(zP)<|zlc (xc0 Za8) (ZeN (n:=(s.n+2)) (f:=(cat s.n s.X (two s.val s.den))) w (hS.rowN 2 rfl) (by omega)) ?_;rintro _ w ⟨x1,rfl,yK,yV,hS'⟩
     replace hS:=hS.cmp hS';clear hS'
     refine(zP)<|(zP)<|(zP)<|zx1<|zf1 ⟨_,rfl,?_⟩
     exact⟨ZA (TM hn yK yV (by omega) (by omega) (show¬(∃k,0<=k/\k<s.n/\s.X k<0) by first|assumption|exact fun hh=>absurd hh ‹_›)),hS.nl⟩
    iterate 3 refine zlo ?_
    refine(zP)<|(zP)<|zx1<|zf1 ⟨_,rfl,?_⟩
    exact⟨false_B (by rintro⟨g1,g2,g3⟩;first|omega|(obtain⟨k,k0,k1,hk⟩:=(show∃k,0<=k/\k<s.n/\s.X k<0 by first|assumption|exact Classical.not_not.1 (by assumption));have:=g3 k k0 k1;omega)),hS.nl⟩
   iterate 5 refine zlo ?_
   refine zs2 ?_
   iterate 3 refine zlo ?_
   refine(zP)<|(zP)<|zx1<|zf1 ⟨_,rfl,?_⟩
   exact⟨false_B (by rintro⟨g1,g2,g3⟩;first|omega|(obtain⟨k,k0,k1,hk⟩:=(show∃k,0<=k/\k<s.n/\s.X k<0 by first|assumption|exact Classical.not_not.1 (by assumption));have:=g3 k k0 k1;omega)),hS.nl⟩
  iterate 3 refine zlo ?_
  refine zs2 ?_
  iterate 5 refine zlo ?_
  refine zs2 ?_
  iterate 3 refine zlo ?_
  refine(zP)<|(zP)<|zx1<|zf1 ⟨_,rfl,?_⟩
  exact⟨false_B (by rintro⟨g1,g2,g3⟩;first|omega|(obtain⟨k,k0,k1,hk⟩:=(show∃k,0<=k/\k<s.n/\s.X k<0 by first|assumption|exact Classical.not_not.1 (by assumption));have:=g3 k k0 k1;omega)),hS.nl⟩
theorem Zdv(hx:0<=x)(hy:1<=y):1<=(Int.gcd x y:Int):=by
  have:Int.gcd x y≠0:=fun h=>by have:=(Int.gcd_eq_zero_iff.1 h).2;omega
  omega
def ValR(s:So)(x y e:Int):Prop:=(¬ZT s/\x=0/\y=0/\e=1)\/(ZT s/\x=s.val.tdiv (Int.gcd s.val s.den)/\y=s.den.tdiv (Int.gcd s.val s.den)/\e=0)
theorem ValR.same{e x2 y2 e2:Int}(h:ValR s x y e)(h':ValR s x2 y2 e2):x=x2/\y=y2/\e=e2:=by
  rcases h with⟨h1,h2,h3,h4⟩|⟨h1,h2,h3,h4⟩<;>rcases h' with⟨g1,g2,g3,g4⟩|⟨g1,g2,g3,g4⟩
  · exact⟨by omega,by omega,by omega⟩
  · exact absurd g1 h1
  · exact absurd h1 g1
  · exact⟨by rw [h2,g2],by rw [h3,g3],by omega⟩
def CeilR(s:So)(x e:Int):Prop:=(¬ZT s/\x=0/\e=1)\/(ZT s/\x=(s.val+s.den-1).tdiv s.den/\e=0)
theorem CeilR.same{e x2 e2:Int}(h:CeilR s x e)(h':CeilR s x2 e2):x=x2/\e=e2:=by
  rcases h with⟨h1,h2,h4⟩|⟨h1,h2,h4⟩<;>rcases h' with⟨g1,g2,g4⟩|⟨g1,g2,g4⟩
  · exact⟨by omega,by omega⟩
  · exact absurd g1 h1
  · exact absurd h1 g1
  · exact⟨by rw [h2,g2],by omega⟩
theorem Tr(w0:World)(hX:Row w0 vX 1 s.n (ints s.X))(hY:Row w0 vY 1 s.m (ints s.Y)):
    Calls Tryz.prog 71 [.agg #[vX,vY,.int .i64 s.val,.int .i64 s.den]].toArray w0 fun e w=>∃v,e= .returned v/\v=B (ZT s)/\Sat w0 w []:=by
  have hn:=hX.slh.n0;have hn1:=hX.slh.n1
  refine Zm Tryz.func71 Tryz.ntmps71 fun w hS=> ?_
  refine zsr<|zla (xbx (cs:= [_,_,_,_]) hS) ?_;rintro _ w ⟨g1,rfl,hS⟩
  refine(zP)<|zx5<|(zP)<|zx6<|zlp (fun mm M w=>∃(i:Int),mm=((s.n-i).toNat)/\(0<=i)/\(i<=s.n)/\(∀k,0<=k->k<i->0<=s.X k/\s.X k<=1073741824)/\M= [(1,.pointer (some ⟨g1,0,none⟩)),(3,.int .i64 i)]/\Sat w0 w [.blk g1 [vX,vY,.int .i64 s.val,.int .i64 s.den]]) ⟨0,rfl,(by omega),(by omega),?_,rfl,hS⟩ ?_
  ·
   intro k k0 k1;omega
  clear hS w
  rintro mm M w ⟨i,rfl,h0,h1,qa,rfl,hS⟩
  refine zx11<|(zP)<|(zV (xfb 0 fd_36_0))<|(zV (xlb 0 pl_22 hS))<|(zV (xln Zb hX.slh))<|(zP)<|zlt<|Ze ?_ ?_<;>intro hc
  ·
   refine zx3<|(zV (xfb 0 fd_36_0))<|(zV (xlb 0 pl_22 hS))<|(zP)<|(zV (xix (kk:=i) Zb hX.slh))<|(zV (xlr (u:= .int .i64 (s.X i)) pl_3 (hX.below hS.below)))<|(zP)<|(zP)<|zlb 17 ?_ ?_<;>intro hc
   ·
    iterate 6 refine zlo ?_
    refine(zP)<|zlt<|zct<|zsr ?_
    refine(zP)<|zx2<|zf1 ⟨_,rfl,?_⟩
    exact⟨false_B (by rintro⟨g1,g2,g3⟩;first|omega|(have:=g3 i h0 (by omega);omega)),hS.nl⟩
   refine(zV (xfb 0 fd_36_0))<|(zV (xlb 0 pl_22 hS))<|(zP)<|(zV (xix (kk:=i) Zb hX.slh))<|(zV (xlr (u:= .int .i64 (s.X i)) pl_3 (hX.below hS.below)))<|(zP)<|(zP)<|zlt<|Ze ?_ ?_<;>intro hc
   ·
    refine zsr<|(zP)<|zx2<|zf1 ⟨_,rfl,?_⟩
    exact⟨false_B (by rintro⟨g1,g2,g3⟩;first|omega|(have:=g3 i h0 (by omega);omega)),hS.nl⟩
   refine zx4<|(zP)<|(zV (Zf (r:=i+1)))<|(zP)<|zln<|zlq ⟨i+1,rfl,(by omega),(by omega),?_,rfl,hS⟩
   ·
    intro k h0' h1';rcases Int.lt_or_eq_of_le (show k<=i by omega) with hk|hk;exact qa k h0' hk;rw [hk];omega
  refine zx8<|(zV (xfb 3 fd_36_3))<|(zV (xlb 0 pl_3 hS))<|(zP)<|(zP)<|zlb 28 ?_ ?_<;>intro hc
  ·
   refine(zV (xfb 3 fd_36_3))<|(zV (xlb 0 pl_3 hS))<|(zP)<|(zP)<|(zP)<|zlb 33 ?_ ?_<;>intro hc
   ·
    refine(zV (xfb 2 fd_36_2))<|(zV (xlb 0 pl_3 hS))<|(zP)<|(zP)<|(zP)<|zlb 38 ?_ ?_<;>intro hc
    ·
     refine(zV (xfb 2 fd_36_2))<|(zV (xlb 0 pl_3 hS))<|(zP)<|(zP)<|(zP)<|zx1<|zf1 ⟨_,rfl,?_⟩
     exact⟨ZA (by exact⟨fun hx=>⟨⟨by omega,by omega⟩,⟨by omega,by omega⟩,fun k k0 k1=>qa k k0 (by omega)⟩,fun g=>by have:=g.2.1;omega⟩),hS.nl⟩
    iterate 3 refine zlo ?_
    refine(zP)<|(zP)<|zx1<|zf1 ⟨_,rfl,?_⟩
    exact⟨false_B (by rintro⟨g1,g2,g3⟩;first|omega|(have:=g3 i h0 (by omega);omega)),hS.nl⟩
   iterate 3 refine zlo ?_
   refine zs2 ?_
   iterate 3 refine zlo ?_
   refine(zP)<|(zP)<|zx1<|zf1 ⟨_,rfl,?_⟩
   exact⟨false_B (by rintro⟨g1,g2,g3⟩;first|omega|(have:=g3 i h0 (by omega);omega)),hS.nl⟩
  iterate 3 refine zlo ?_
  refine zs2 ?_
  iterate 3 refine zlo ?_
  refine zs2 ?_
  iterate 3 refine zlo ?_
  refine(zP)<|(zP)<|zx1<|zf1 ⟨_,rfl,?_⟩
  exact⟨false_B (by rintro⟨g1,g2,g3⟩;first|omega|(have:=g3 i h0 (by omega);omega)),hS.nl⟩
theorem ZcD(w0:World)(hX:Row w0 vX 1 s.n (ints s.X))(hY:Row w0 vY 1 s.m (ints s.Y))(xV:s.n<=1000):
    Calls Tryz.prog 141 [.agg #[vX,vY,.int .i64 s.val,.int .i64 s.den]].toArray w0 fun e w=>∃v,e= .returned v/\∃(x y e:Int),v= .tuple #[.agg #[.int .i64 x,.int .i64 y],.int .i64 e]/\ValR s x y e/\Sat w0 w []:=by
  have hn:=hX.slh.n0;have hn1:=hX.slh.n1
  refine Zm Tryz.func141 Tryz.ntmps141 fun w hS=> ?_
  refine zsr<|zla (xbx (cs:= [_,_,_,_]) hS) ?_;rintro _ w ⟨g1,rfl,hS⟩
  refine zla (xal (cs:= [_,_]) ZdO hS) ?_;rintro _ w ⟨g2,rfl,hS⟩
  refine(zP)<|zx5<|(zV (xls 0 Z3 hS))<|zlc (xc0 Zef) (Rg (s:=s) w (hX.below hS.below) (hY.below hS.below) (by omega)) ?_;rintro _ w ⟨rfl,hS'⟩
  replace hS:=hS.cmp hS';clear hS'
  refine(zP)<|zlt<|Ze ?_ ?_<;>intro hc
  ·
   refine zsr<|(zV (xany (v:= .agg #[.int .i64 0,.int .i64 0])))<|zle (xsw 1 UP hS) ?_;clear hS;rintro w hS
   refine(zP)<|zx14<|ZW 1 UP hS ⟨_,rfl,?_⟩
   exact⟨0,0,1,rfl,.inl ⟨‹¬ZT s›,rfl,rfl,rfl⟩,hS.nl⟩
  refine Z7<|zlv (xfb 2 fd_29_2) ?_
  have hsd:ZT s:=by first|assumption|exact Classical.not_not.1 ‹_›
  obtain⟨⟨d1,d2⟩,⟨d3,d4⟩,d5⟩:=id hsd
  refine(zV (xlb 0 pl_3 hS))<|(zV (xfb 3 fd_29_3))<|(zV (xlb 0 pl_3 hS))<|zlc (xc0 ZhY) (Zki (x:=s.val) (y:=s.den) w (by omega) (by omega)) ?_;rintro _ w ⟨rfl,hS'⟩
  replace hS:=hS.cmp hS';clear hS'
  refine zlv xas ?_
  have hgp:=Zdv (x:=s.val) (y:=s.den) (by omega) (by omega)
  have hq1:=Yx (a:=s.val) (d:=(Int.gcd s.val s.den:Int)) (A:=9223372036854775807) hgp (by omega)
  have hq2:=Yx (a:=s.den) (d:=(Int.gcd s.val s.den:Int)) (A:=9223372036854775807) hgp (by omega)
  refine zx7<|zdst [0,1] [0] 9 mx_ hS ?_;clear hS;intro w hS
  refine(zDw 0 (xfb 2 fd_29_2))<|(zDl 1 (fun w hS=>(xlb 0 pl_3 hS)))<|(zDw 2 xmv)<|(zDw 3 (Ut (r:=(Int.tdiv s.val (Int.gcd s.val s.den:Int)))))<|(zDw 4 (xfb 3 fd_29_3))<|(zDl 5 (fun w hS=>(xlb 0 pl_3 hS)))<|(zDw 6 xmv)<|(zDw 7 (Ut (r:=(Int.tdiv s.den (Int.gcd s.val s.den:Int)))))<|(zDw 8 (xany (v:= .agg #[.int .i64 (Int.tdiv s.val (Int.gcd s.val s.den:Int)),.int .i64 (Int.tdiv s.den (Int.gcd s.val s.den:Int))])))<|zde 9 (xsw 1 UP hS) ?_;clear hS;rintro w hS
  refine⟨⟨fun h=>absurd h (by decide),hS.pk [0]⟩,?_⟩
  refine(zDw 10 xas)<|zdd<|ztn<|zrt<|ZW 1 UP hS ⟨_,rfl,?_⟩
  exact⟨_,_,0,rfl,.inr ⟨hsd,rfl,rfl,rfl⟩,hS.nl⟩
def XT(p:Prob)(i:Int):Int->Int:=fun j=>if j=i then min (p.D i) ((p.stock+p.kerf).tdiv (p.L i+p.kerf)) else 0
theorem KO(p:Prob)(i:Int):upd (fun _=>0) i (min (p.D i) ((p.stock+p.kerf).tdiv (p.L i+p.kerf)))=XT p i:=by
  funext j;unfold upd XT;rfl
theorem Zkc{p:Prob}{gp:Nat}(w0:World)(hG:(Ent.blk gp [vL,vD,.int .i64 p.stock,.int .i64 p.kerf]).holds w0)(h:PAt w0 vL vD p)(hok:p.Ok)(i0:0<=i)(i1:i<p.m):
    Calls Tryz.prog 116 [.int .i64 i,.pointer (some ⟨gp,0,none⟩)].toArray w0 fun e w=>∃v,e= .returned v/\∃r,v=r/\Slh r p.m/\Sat w0 w [.own r 1 3 p.m (ints (XT p i))]:=by
  have hm:=h.L.slh.n0;have hm1:=h.L.slh.n1;have hd:=h.D.slh.n0;have hd1:=h.D.slh.n1;have hs:=h.is;have hk:=h.ik
  have hpd:=hok.d;have hpm:=hok.m1;have xc:=hok.m2;have hs1:=hok.s1;have hs2:=hok.s2;have hk1:=hok.k1;have hk2:=hok.k2;have he:=hok.all i i0 i1;unfold Prob.each at he
  have hqd:=Yx (a:=p.stock+p.kerf) (d:=p.L i+p.kerf) (A:=2100) (by omega) (by omega)
  refine Zm Tryz.func116 Tryz.ntmps116 fun w hS=> ?_
  refine zsr<|(zP)<|zlz<|(zV (xfb 0 fd_35_0))<|(zV (xlf pl_22 (Ent.holds.cell hG (o:=0) rfl) hS))<|(zV (xln Zb h.L.slh))<|zla (xmk Zb Zn hS) ?_;rintro v1 w ⟨hS,hv1⟩
  refine(zP)<|zx7<|zdst [0] [] 23 mx_ hS ?_;clear hS;intro w hS
  refine(zDw 0 xmv)<|(zDw 1 xmv)<|(zDw 2 (xfb 1 fd_35_1))<|(zDl 3 (fun w hS=>(xlf pl_22 (Ent.holds.cell hG (o:=1) rfl) hS)))<|(zDw 4 xmv)<|(zDw 5 (xix (kk:=i) Zb h.D.slh))<|zdla 6 (fun w hS=>(xlr (u:= .int .i64 (p.D i)) pl_3 (h.D.below hS.below))) ?_
  have hbv:=h.iD i
  refine(zDw 7 (xfb 2 fd_35_2))<|(zDl 8 (fun w hS=>(xlf pl_3 (Ent.holds.cell hG (o:=2) rfl) hS)))<|(zDw 9 (xfb 3 fd_35_3))<|(zDl 10 (fun w hS=>(xlf pl_3 (Ent.holds.cell hG (o:=3) rfl) hS)))<|(zDw 11 (Zf (r:=p.stock+p.kerf)))<|(zDw 12 (xfb 0 fd_35_0))<|(zDl 13 (fun w hS=>(xlf pl_22 (Ent.holds.cell hG (o:=0) rfl) hS)))<|(zDw 14 xmv)<|(zDw 15 (xix (kk:=i) Zb h.L.slh))<|zdla 16 (fun w hS=>(xlr (u:= .int .i64 (p.L i)) pl_3 (h.L.below hS.below))) ?_
  have hbv:=h.iL i
  refine(zDw 17 (xfb 3 fd_35_3))<|(zDl 18 (fun w hS=>(xlf pl_3 (Ent.holds.cell hG (o:=3) rfl) hS)))<|(zDw 19 (Zf (r:=p.L i+p.kerf)))<|(zDw 20 (Ut (r:=(Int.tdiv (p.stock+p.kerf) (p.L i+p.kerf)))))<|(zDw 21 (ZaH (r:=(min (p.D i) (Int.tdiv (p.stock+p.kerf) (p.L i+p.kerf))))))<|(zDw 22 (xix (kk:=i) Zb hv1))<|zde 23 (xso 0 pl_3 hS (ZE _ _ _)) ?_;clear hS;rintro w hS
  refine⟨⟨fun h=>absurd h (by decide),hS.nl⟩,?_⟩
  refine zdd<|ztn<|zsr ?_
  refine(zP)<|(zP)<|zx1<|zf1 ⟨_,rfl,?_⟩
  rw [KO] at hS
  exact⟨_,rfl,hv1,hS⟩
def stN(p:Prob):Nat->Int
  |0=>0
  |k+1=>if 0<p.D k then stN p k+1 else stN p k
def stL(p:Prob):Nat->Int->Int
  |0=>fun _=>0
  |k+1=>if 0<p.D k then gsn (stL p k) (stN p k) p.m else stL p k
def stG(p:Prob):Nat->Int->Int->Int
  |0=>fun _ _=>0
  |k+1=>if 0<p.D k then gsn (stG p k) (stN p k) (XT p k) else stG p k
theorem Vg(p:Prob)(h:0<=i):stN p (i+1).toNat=if 0<p.D i then stN p i.toNat+1 else stN p i.toNat:=by
  obtain⟨k,rfl⟩:=Int.eq_ofNat_of_zero_le h;rw [show((k:Int)+1).toNat=k+1 by omega,Int.toNat_natCast];rfl
theorem Vh(p:Prob)(h:0<=i):stL p (i+1).toNat=if 0<p.D i then gsn (stL p i.toNat) (stN p i.toNat) p.m else stL p i.toNat:=by
  obtain⟨k,rfl⟩:=Int.eq_ofNat_of_zero_le h;rw [show((k:Int)+1).toNat=k+1 by omega,Int.toNat_natCast];rfl
theorem Vi(p:Prob)(h:0<=i):stG p (i+1).toNat=if 0<p.D i then gsn (stG p i.toNat) (stN p i.toNat) (XT p i) else stG p i.toNat:=by
  obtain⟨k,rfl⟩:=Int.eq_ofNat_of_zero_le h;rw [show((k:Int)+1).toNat=k+1 by omega,Int.toNat_natCast];rfl
theorem Wd(p:Prob):∀k:Nat,0<=stN p k/\stN p k<=k
  |0=>by simp [stN]
  | k+1=>by
    have:=Wd p k
    simp only [stN];split<;>omega
def Ki(p:Prob)(n:Int)(ln:Int->Int)(g:Int->Int->Int)(e:Int):Prop:=(¬p.Ok/\n=0/\e=1)\/(p.Ok/\n=stN p p.m.toNat/\ln=stL p p.m.toNat/\g=stG p p.m.toNat/\e=0)
theorem ZeM{p:Prob}(w0:World)(h:PAt w0 vL vD p):
    Calls Tryz.prog 82 [.agg #[vL,vD,.int .i64 p.stock,.int .i64 p.kerf]].toArray w0 fun e w=>∃v,e= .returned v/\∃r n vv ln g e,v= .tuple #[r,.int .i64 e]/\Ki p n ln g e/\Slh r n/\Sat w0 w [.own r 1 22 n vv,.sem (Frame.rows 3 n vv ln g)]:=by
  have hm:=h.L.slh.n0;have hm1:=h.L.slh.n1;have hd:=h.D.slh.n0;have hd1:=h.D.slh.n1;have hs:=h.is;have hk:=h.ik
  refine Zm Tryz.func82 Tryz.ntmps82 fun w hS=> ?_
  refine zsr<|zla (xbx (cs:= [_,_,_,_]) hS) ?_;rintro _ w ⟨g1,rfl,hS⟩
  refine(zP)<|(zP)<|zx5<|(zV (xls 0 st_35 hS))<|zlc (xc0 Un) (Xo (p:=p) w (h.below hS.below)) ?_;rintro _ w ⟨rfl,hS'⟩
  replace hS:=hS.cmp hS';clear hS'
  refine(zP)<|zlt<|Ze ?_ ?_<;>intro hc
  ·
   refine zsr<|(zP)<|(zP)<|zx14<|zf2 ⟨_,rfl,?_⟩
   exact⟨_,0,fun _=>undef,fun _=>0,fun _ _=>0,1,rfl,.inl ⟨‹¬p.Ok›,rfl,rfl⟩,slh_nil,((hS.sub (.cons _ .slnil)).addnil 1 22 (fun _=>undef)).addrows 3 (fun _=>undef) (fun _=>0) (fun _ _=>0)⟩
  refine Z7<|(zV xmf)<|(zP)<|zlz<|(zP)<|zx5<|(zV (xfb 1 fd_35_1))<|(zV (xlb 0 pl_22 hS))<|(zV (xln Zb h.D.slh))<|(zP)<|zx6 ?_
  have hok:p.Ok:=by first|assumption|exact Classical.not_not.1 ‹_›
  have hpd:=hok.d;have hpm:=hok.m1;have xc:=hok.m2
  replace hS:=hS.addnil 1 22 (fun _=>Value.slice none 0 0)
  replace hS:=hS.addrows 3 (fun _=>Value.slice none 0 0) (fun _=>0) (fun _ _=>0)
  have yw:=fun k (k0:0<=k) (k1:k<0)=>hS.slhIn 2 rfl k0 k1
  refine zlp (fun mm M w=>∃(nC:Int) (wv:Int->Value) (lC:Int->Int) (gC:Int->Int->Int) (i:Int) (wC:Value),mm=((p.d-i).toNat)/\(0<=i)/\(i<=p.d)/\(nC=stN p i.toNat)/\(lC=stL p i.toNat)/\(gC=stG p i.toNat)/\(Slh wC nC)/\M= [(2,.slice none 0 0),(3,.int .i64 0),(4,.func (.func 116) #[] #[.pointer (some ⟨g1,0,none⟩)]),(5,wC),(13,vD),(14,.int .i64 p.d),(15,.int .i64 i)]/\Sat w0 w [.blk g1 [vL,vD,.int .i64 p.stock,.int .i64 p.kerf],.own wC 1 22 nC wv,.sem (Frame.rows 3 nC wv lC gC)]) ⟨0,(fun _=>Value.slice none 0 0),(fun _=>0),(fun _ _=>0),0,(.slice none 0 0),rfl,(by omega),(by omega),?_,?_,?_,?_,rfl,hS⟩ ?_
  ·
   rfl
  ·
   rfl
  ·
   rfl
  ·
   exact slh_nil
  clear hS w
  rintro mm M w ⟨nC,wv,lC,gC,i,wC,rfl,h0,h1,hnC,hlC,hgC,hwC,rfl,hS⟩
  have qN:=fun k (k0:0<=k) (k1:k<nC)=>hS.slhIn 2 rfl k0 k1
  have hnr:=Wd p i.toNat
  refine zsr<|(zP)<|zx7<|Ze ?_ ?_<;>intro hc
  ·
   refine zx3<|(zP)<|(zV (xix (kk:=i) Zb h.D.slh))<|zlv (xlr (u:= .int .i64 (p.D i)) pl_3 (h.D.below hS.below)) ?_
   have hbv:=h.iD i
   refine(zP)<|(zP)<|zlz<|(zP)<|(zP)<|zlt<|Ze ?_ ?_<;>intro hc
   ·
    refine zrg<|(zP)<|(zP)<|(zP)<|zlc (xcc (vs:= [_]) Ziw) (Zkc (p:=p) (i:=i) w (hS.holds _ (List.mem_of_getElem? (i:=0) rfl)) (h.below hS.below) hok (by omega) (by omega)) ?_;rintro bK w ⟨_,rfl,cc,hS'⟩
    replace hS:=(hS.comp hS').n4;clear hS'
    refine zla (xli (n:=1) (len:=1) (pv:= [(0,bK)]) (cs:= [bK]) (c:=(fun _=>bK)) Zi Ya hS (hf:=by obtain⟨_,_,_,_,rfl,_⟩:=cc;kernel_rfl)) ?_;rintro v1 w ⟨hS,hv1⟩
    refine zla (xap 1 (r:=nC+1) Zi Ya hS (hS.rowN 4 rfl) (Y8 _ _ _) (h1:=fun _ _ _=>cc.one)) ?_;rintro v2 w ⟨hS,hv2⟩
    replace hS:=Sat.merge (l1:= [_,_]) (l2:= []) (l3:= [_]) hS (by omega)
    have xe:=fun k (k0:0<=k) (k1:k<nC+1)=>hS.slhIn 2 rfl k0 k1
    refine(zP)<|zx10<|(zV (Zf (r:=i+1)))<|(zP)<|zln<|zlq ⟨nC+1,gsn wv nC bK,gsn lC nC p.m,gsn gC nC (XT p i),i+1,v2,rfl,(by omega),(by omega),?_,?_,?_,?_,rfl,hS.pk [0,1,2]⟩
    ·
     rw [Vg p h0,<-hnC];first|rw [if_pos (by omega)]|rw [if_neg (by omega)]
    ·
     rw [Vh p h0,<-hlC,<-hnC];first|rw [if_pos (by omega)]|rw [if_neg (by omega)]
    ·
     rw [Vi p h0,<-hgC,<-hnC];first|rw [if_pos (by omega)]|rw [if_neg (by omega)]
    ·
     exact hv2
   refine zx4<|(zV (Zf (r:=i+1)))<|(zP)<|zln<|zlq ⟨nC,wv,lC,gC,i+1,wC,rfl,(by omega),(by omega),?_,?_,?_,?_,rfl,hS⟩
   ·
    rw [Vg p h0,<-hnC];first|rw [if_pos (by omega)]|rw [if_neg (by omega)]
   ·
    rw [Vh p h0,<-hlC,<-hnC];first|rw [if_pos (by omega)]|rw [if_neg (by omega)]
   ·
    rw [Vi p h0,<-hgC,<-hnC];first|rw [if_pos (by omega)]|rw [if_neg (by omega)]
   ·
    exact hwC
  refine zx8<|(zP)<|(zP)<|(zP)<|zx1<|zf2 ⟨_,rfl,?_⟩
  have him:i=p.m:=by omega
  rw [him] at hnC hlC hgC
  exact⟨_,_,_,_,_,0,rfl,.inr ⟨hok,hnC,hlC,hgC,rfl⟩,hwC,hS.pk [1,2]⟩
theorem Zfp{p:Prob}(hok:p.Ok)(i0:0<=i)(i1:i<p.m):0<XT p i i↔0<p.D i:=by
  have he:=hok.all i i0 i1
  unfold Prob.each at he
  have hk:=hok.k1
  have hq:1<=(p.stock+p.kerf).tdiv (p.L i+p.kerf):=by
    rw [Int.tdiv_eq_ediv_of_nonneg (by omega)]
    exact(Int.le_ediv_iff_mul_le (by omega)).2 (by omega)
  unfold XT;rw [if_pos rfl];omega
theorem ZcH{p:Prob}(w0:World)(h:PAt w0 vL vD p):
    Calls Tryz.prog 49 [.agg #[vL,vD,.int .i64 p.stock,.int .i64 p.kerf]].toArray w0 fun e w=>∃v,e= .returned v/\∃r n vv ln g e,v= .tuple #[r,.int .i64 e]/\Ki p n ln g e/\Slh r n/\Sat w0 w [.own r 1 22 n vv,.sem (Frame.rows 3 n vv ln g)]:=by
  have hm:=h.L.slh.n0;have hm1:=h.L.slh.n1;have hd:=h.D.slh.n0;have hd1:=h.D.slh.n1;have hs:=h.is;have hk:=h.ik
  refine Zm Tryz.func49 Tryz.ntmps49 fun w hS=> ?_
  refine zsr<|zla (xbx (cs:= [_,_,_,_]) hS) ?_;rintro _ w ⟨g1,rfl,hS⟩
  refine(zP)<|(zP)<|zx5<|(zV (xls 0 ZC hS))<|zlc (xc0 Uo) (YH (p:=p) w (h.below hS.below)) ?_;rintro _ w ⟨rfl,hS'⟩
  replace hS:=hS.cmp hS';clear hS'
  refine(zP)<|zlt<|Ze ?_ ?_<;>intro hc
  ·
   refine zsr<|(zP)<|(zP)<|zx14<|zf2 ⟨_,rfl,?_⟩
   exact⟨_,0,fun _=>undef,fun _=>0,fun _ _=>0,1,rfl,.inl ⟨‹¬p.Ok›,rfl,rfl⟩,slh_nil,((hS.sub (.cons _ .slnil)).addnil 1 22 (fun _=>undef)).addrows 3 (fun _=>undef) (fun _=>0) (fun _ _=>0)⟩
  refine Z7<|(zP)<|zx5<|(zP)<|zx6 ?_
  have hok:p.Ok:=by first|assumption|exact Classical.not_not.1 ‹_›
  have hpd:=hok.d;have hpm:=hok.m1;have xc:=hok.m2
  replace hS:=hS.addnil 1 22 (fun _=>Value.slice none 0 0)
  replace hS:=hS.addrows 3 (fun _=>Value.slice none 0 0) (fun _=>0) (fun _ _=>0)
  have yw:=fun k (k0:0<=k) (k1:k<0)=>hS.slhIn 2 rfl k0 k1
  refine zlp (fun mm M w=>∃(nC:Int) (wv:Int->Value) (lC:Int->Int) (gC:Int->Int->Int) (i:Int) (wC:Value),mm=((p.m-i).toNat)/\(0<=i)/\(i<=p.m)/\(nC=stN p i.toNat)/\(lC=stL p i.toNat)/\(gC=stG p i.toNat)/\(Slh wC nC)/\M= [(1,.pointer (some ⟨g1,0,none⟩)),(2,.slice none 0 0),(3,.int .i64 0),(4,wC),(5,.int .i64 i)]/\Sat w0 w [.blk g1 [vL,vD,.int .i64 p.stock,.int .i64 p.kerf],.own wC 1 22 nC wv,.sem (Frame.rows 3 nC wv lC gC)]) ⟨0,(fun _=>Value.slice none 0 0),(fun _=>0),(fun _ _=>0),0,(.slice none 0 0),rfl,(by omega),(by omega),?_,?_,?_,?_,rfl,hS⟩ ?_
  ·
   rfl
  ·
   rfl
  ·
   rfl
  ·
   exact slh_nil
  clear hS w
  rintro mm M w ⟨nC,wv,lC,gC,i,wC,rfl,h0,h1,hnC,hlC,hgC,hwC,rfl,hS⟩
  have qN:=fun k (k0:0<=k) (k1:k<nC)=>hS.slhIn 2 rfl k0 k1
  have hnr:=Wd p i.toNat
  refine zx11<|(zP)<|(zV (xfb 0 fd_24_0))<|(zV (xlb 0 pl_22 hS))<|(zV (xln Zb h.L.slh))<|(zP)<|zlt<|Ze ?_ ?_<;>intro hc
  ·
   refine zx3<|(zV (xfb 0 fd_24_0))<|(zV (xlb 0 pl_22 hS))<|(zV (xln Zb h.L.slh))<|zla (xmk Zb Zn hS) ?_;rintro v1 w ⟨hS,hv1⟩
   refine(zP)<|zx7<|zdst [0,1,2,3] [0,1,2] 23 mx_ hS ?_;clear hS;intro w hS
   refine zDrv 0 xmv ?_
   have hs1:=hok.s1;have hs2:=hok.s2;have hk1:=hok.k1;have hk2:=hok.k2;have he:=hok.all i h0 (by omega);unfold Prob.each at he
   have hqd:=Yx (a:=p.stock+p.kerf) (d:=p.L i+p.kerf) (A:=2100) (by omega) (by omega)
   refine(zDw 1 xmv)<|(zDw 2 (xfb 1 fd_24_1))<|(zDl 3 (fun w hS=>(xlb 0 pl_22 hS)))<|(zDw 4 xmv)<|(zDw 5 (xix (kk:=i) Zb h.D.slh))<|zdla 6 (fun w hS=>(xlr (u:= .int .i64 (p.D i)) pl_3 (h.D.below hS.below))) ?_
   have hbv:=h.iD i
   refine(zDw 7 (xfb 2 fd_24_2))<|(zDl 8 (fun w hS=>(xlb 0 pl_3 hS)))<|(zDw 9 (xfb 3 fd_24_3))<|(zDl 10 (fun w hS=>(xlb 0 pl_3 hS)))<|(zDw 11 (Zf (r:=p.stock+p.kerf)))<|(zDw 12 (xfb 0 fd_24_0))<|(zDl 13 (fun w hS=>(xlb 0 pl_22 hS)))<|(zDw 14 xmv)<|(zDw 15 (xix (kk:=i) Zb h.L.slh))<|zdla 16 (fun w hS=>(xlr (u:= .int .i64 (p.L i)) pl_3 (h.L.below hS.below))) ?_
   have hbv:=h.iL i
   refine(zDw 17 (xfb 3 fd_24_3))<|(zDl 18 (fun w hS=>(xlb 0 pl_3 hS)))<|(zDw 19 (Zf (r:=p.L i+p.kerf)))<|(zDw 20 (Ut (r:=(Int.tdiv (p.stock+p.kerf) (p.L i+p.kerf)))))<|(zDw 21 (ZaH (r:=(min (p.D i) (Int.tdiv (p.stock+p.kerf) (p.L i+p.kerf))))))<|(zDw 22 (xix (kk:=i) Zb hv1))<|zde 23 (xso 3 pl_3 hS (ZE _ _ _)) ?_;clear hS;rintro w hS
   refine⟨⟨fun h=>absurd h (by decide),hS.pk [0,1,2]⟩,?_⟩
   refine zdd<|ztn<|zsr ?_
   refine zlv xmv ?_
   rw [KO] at hS
   have hop:=Zfp hok h0 (by omega:i<p.m)
   refine(zP)<|(zV (xix (kk:=i) Zb hv1))<|(zV (xlr (u:= .int .i64 (XT p i i)) pl_3 (hS.rowN 3 rfl)))<|(zP)<|zlt<|Ze ?_ ?_<;>intro hc
   ·
    refine zrg<|(zP)<|(zP)<|zla (xli (n:=1) (len:=1) (pv:= [(0,v1)]) (cs:= [v1]) (c:=(fun _=>v1)) Zi Ya hS (hf:=by obtain⟨_,_,_,_,rfl,_⟩:=hv1;kernel_rfl)) ?_;rintro v2 w ⟨hS,hv2⟩
    refine zla (xap 1 (r:=nC+1) Zi Ya hS (hS.rowN 4 rfl) (Y8 _ _ _) (h1:=fun _ _ _=>hv1.one)) ?_;rintro v3 w ⟨hS,hv3⟩
    replace hS:=Sat.merge (l1:= [_,_]) (l2:= []) (l3:= [_]) hS (by omega)
    have xe:=fun k (k0:0<=k) (k1:k<nC+1)=>hS.slhIn 2 rfl k0 k1
    refine(zP)<|zx10<|(zP)<|(zV (Zf (r:=i+1)))<|(zP)<|zln<|zlq ⟨nC+1,gsn wv nC v1,gsn lC nC p.m,gsn gC nC (XT p i),i+1,v3,rfl,(by omega),(by omega),?_,?_,?_,?_,rfl,hS.pk [0,1,2]⟩
    ·
     rw [Vg p h0,<-hnC];first|rw [if_pos (by omega)]|rw [if_neg (by omega)]
    ·
     rw [Vh p h0,<-hlC,<-hnC];first|rw [if_pos (by omega)]|rw [if_neg (by omega)]
    ·
     rw [Vi p h0,<-hgC,<-hnC];first|rw [if_pos (by omega)]|rw [if_neg (by omega)]
    ·
     exact hv3
   refine zx4<|(zP)<|(zV (Zf (r:=i+1)))<|(zP)<|zln<|zlq ⟨nC,wv,lC,gC,i+1,wC,rfl,(by omega),(by omega),?_,?_,?_,?_,rfl,hS.pk [0,1,2]⟩
   ·
    rw [Vg p h0,<-hnC];first|rw [if_pos (by omega)]|rw [if_neg (by omega)]
   ·
    rw [Vh p h0,<-hlC,<-hnC];first|rw [if_pos (by omega)]|rw [if_neg (by omega)]
   ·
    rw [Vi p h0,<-hgC,<-hnC];first|rw [if_pos (by omega)]|rw [if_neg (by omega)]
   ·
    exact hwC
  refine zx8<|(zP)<|(zP)<|(zP)<|zx1<|zf2 ⟨_,rfl,?_⟩
  have him:i=p.m:=by omega
  rw [him] at hnC hlC hgC
  exact⟨_,_,_,_,_,0,rfl,.inr ⟨hok,hnC,hlC,hgC,rfl⟩,hwC,hS.pk [1,2]⟩
end Go.Proofs.YtopmifmfecfaaaaGreat
namespace Go.Proofs.Gw
open Go Go.RowKit
theorem ZB(pv:Int->Value)(cnt:Int->Int){k i:Int}(h:k=2*i):∀(j:Nat) u, [pv i,Value.int .i64 (cnt i)][j]? =some u->Zd pv cnt (k+j)=u:=fun j u hu=>by
  rcases j with _|_|j
  · cases hu;exact Yu pv cnt (by omega)
  · cases hu;exact Yt pv cnt (by omega)
  · simp at hu
theorem ZG{pv:Int->Value}{cnt:Int->Int}(h:∀i,(pv i).oneCell'=true)(k:Int):(Zd pv cnt k).oneCell'=true:=by
  unfold Zd
  split
  · exact h _
  · rfl
theorem Yb(pv:Int->Value)(cnt:Int->Int)(n:Int)(r:Value)(x:Int):cat (n*2) (Zd pv cnt) (Zd (fun _=>r) (fun _=>x))=Zd (gsn pv n r) (snoc cnt n x):=by
  funext k
  unfold cat Zd gsn snoc
  by_cases h:k<n*2
  · have h2:k/2<n:=by omega
    simp only [if_pos h,if_pos h2]
  · have h2:¬k/2<n:=by omega
    simp only [if_neg h,if_neg h2]
    by_cases e:k%2=0
    · rw [if_pos e,if_pos (by omega)]
    · rw [if_neg e,if_neg (by omega)]
theorem Wu(pv:Int->Value)(cnt:Int->Int){k i x:Int}(h:k=2*i+1):upd (Zd pv cnt) k (.int .i64 x)=Zd pv (upd cnt i x):=by
  funext j;unfold upd Zd;dsimp only
  by_cases e:j=k
  · rw [if_pos e,if_neg (by omega),if_pos (by omega)]
  · rw [if_neg e]
    by_cases e0:j%2=0
    · rw [if_pos e0,if_pos e0]
    · rw [if_neg e0,if_neg e0,if_neg (by omega)]
structure VAt (w:World) (v:Value) (n:Int) (pv:Int->Value) (ln:Int->Int) (pt:Int->Int->Int) (cnt:Int->Int):Prop where
  row:Row w v 2 n (Zd pv cnt)
  p:∀i,0<=i->i<n->Row w (pv i) 1 (ln i) (ints (pt i))
  room:∀i,0<=i->i<n->Y9 (pv i)
theorem VAt.below{w w':World}{v:Value}{n:Int}{pv:Int->Value}{ln:Int->Int}{pt:Int->Int->Int}{cnt:Int->Int}(h:VAt w v n pv ln pt cnt)(hb:Below w.heap.size w w'):VAt w' v n pv ln pt cnt:=
  ⟨h.row.below hb,fun i h0 h1=>(h.p i h0 h1).below hb,h.room⟩
def SameP(n n2:Int)(ln ln2:Int->Int)(pt pt2:Int->Int->Int)(cnt cnt2:Int->Int):Prop:=n=n2/\∀k,0<=k->k<n->cnt k=cnt2 k/\ln k=ln2 k/\∀j,0<=j->j<ln k->pt k j=pt2 k j
end Go.Proofs.Gw
namespace Go.Proofs.YtopmifmfecfaaaaGreat
open Go Go.RowKit Go.Proofs.Gw
variable {i n u:Int} {cnt ln ml:Int->Int} {mf pt:Int->Int->Int} {s:So}
theorem ZgJ:Zc Tryz.prog 71=true:=by kernel_rfl
theorem Yq:Z0 Tryz.prog 100=some (.agg #[.slice none 0 0,.int .i64 0],2,32):=by kernel_rfl
theorem Yw:Z0 Tryz.prog 111=some (.agg #[.slice none 0 0,.int .i64 0],2,32):=by kernel_rfl
theorem ZV:ZJ Tryz.prog 60=some (111,2):=by kernel_rfl
theorem ZK:ZF Tryz.prog 111=some 2:=by kernel_rfl
def flN(s:So):Nat->Int
  |0=>0
  |k+1=>if s.den<=s.X k then flN s k+1 else flN s k
def flL(s:So)(ml:Int->Int):Nat->Int->Int
  |0=>fun _=>0
  |k+1=>if s.den<=s.X k then gsn (flL s ml k) (flN s k) (ml k) else flL s ml k
def flG(s:So)(mf:Int->Int->Int):Nat->Int->Int->Int
  |0=>fun _ _=>0
  |k+1=>if s.den<=s.X k then gsn (flG s mf k) (flN s k) (mf k) else flG s mf k
def flC(s:So):Nat->Int->Int
  |0=>fun _=>0
  |k+1=>if s.den<=s.X k then snoc (flC s k) (flN s k) ((s.X k).tdiv s.den) else flC s k
theorem Vz(s:So)(h:0<=i):flN s (i+1).toNat=if s.den<=s.X i then flN s i.toNat+1 else flN s i.toNat:=by
  obtain⟨k,rfl⟩:=Int.eq_ofNat_of_zero_le h;rw [show((k:Int)+1).toNat=k+1 by omega,Int.toNat_natCast];rfl
theorem VA(s:So)(ml:Int->Int)(h:0<=i):flL s ml (i+1).toNat=if s.den<=s.X i then gsn (flL s ml i.toNat) (flN s i.toNat) (ml i) else flL s ml i.toNat:=by
  obtain⟨k,rfl⟩:=Int.eq_ofNat_of_zero_le h;rw [show((k:Int)+1).toNat=k+1 by omega,Int.toNat_natCast];rfl
theorem VB(s:So)(mf:Int->Int->Int)(h:0<=i):flG s mf (i+1).toNat=if s.den<=s.X i then gsn (flG s mf i.toNat) (flN s i.toNat) (mf i) else flG s mf i.toNat:=by
  obtain⟨k,rfl⟩:=Int.eq_ofNat_of_zero_le h;rw [show((k:Int)+1).toNat=k+1 by omega,Int.toNat_natCast];rfl
theorem VC(s:So)(h:0<=i):flC s (i+1).toNat=if s.den<=s.X i then snoc (flC s i.toNat) (flN s i.toNat) ((s.X i).tdiv s.den) else flC s i.toNat:=by
  obtain⟨k,rfl⟩:=Int.eq_ofNat_of_zero_le h;rw [show((k:Int)+1).toNat=k+1 by omega,Int.toNat_natCast];rfl
theorem Wl(s:So):∀k:Nat,0<=flN s k/\flN s k<=k
  |0=>by simp [flN]
  | k+1=>by
    have:=Wl s k
    simp only [flN];split<;>omega
def FloorR(s:So)(u:Int)(ml:Int->Int)(mf:Int->Int->Int)(n:Int)(ln:Int->Int)(pt:Int->Int->Int)(cnt:Int->Int)(e:Int):Prop:=
  (¬(ZT s/\u=s.n)/\n=0/\e=1)\/(ZT s/\u=s.n/\n=flN s u.toNat/\ln=flL s ml u.toNat/\pt=flG s mf u.toNat/\cnt=flC s u.toNat/\e=0)
theorem FloorR.rng{e:Int}(hu:0<=u)(h:FloorR s u ml mf n ln pt cnt e):0<=n/\n<=u:=by
  rcases h with⟨_,h,_⟩|⟨_,_,h,_⟩
  · omega
  · have:=Wl s u.toNat;omega
theorem FloorR.same{n2 e e2:Int}{ln2 cnt2:Int->Int}{pt2:Int->Int->Int}(h:FloorR s u ml mf n ln pt cnt e)(h':FloorR s u ml mf n2 ln2 pt2 cnt2 e2):SameP n n2 ln ln2 pt pt2 cnt cnt2/\e=e2:=by
  rcases h with⟨h1,h2,h3⟩|⟨h1,h2,h3,h4,h5,h6,h7⟩<;>rcases h' with⟨g1,g2,g3⟩|⟨g1,g2,g3,g4,g5,g6,g7⟩
  · exact⟨⟨by omega,fun k k0 k1=>by omega⟩,by omega⟩
  · exact absurd ⟨g1,g2⟩ h1
  · exact absurd ⟨h1,h2⟩ g1
  · rw [h3,h4,h5,h6,h7,g3,g4,g5,g6,g7];exact⟨⟨rfl,fun _ _ _=>⟨rfl,rfl,fun _ _ _=>rfl⟩⟩,rfl⟩
theorem ZcQ{vM:Value}{mv:Int->Value}{vX vY:Value}(w0:World)(hM:MAt w0 vM u mv ml mf)(hX:Row w0 vX 1 s.n (ints s.X))(hY:Row w0 vY 1 s.m (ints s.Y))(xV:s.n<=1000)(hml:∀k,0<=k->k<u->ml k<=100000):
    Calls Tryz.prog 100 [vM,.agg #[vX,vY,.int .i64 s.val,.int .i64 s.den]].toArray w0 fun e w=>∃v,e= .returned v/\∃r n pv ln pt cnt e,v= .tuple #[r,.int .i64 e]/\FloorR s u ml mf n ln pt cnt e/\Slh r n/\Sat w0 w [.own r 2 111 n (Zd pv cnt),.sem (Frame.rows 3 n pv ln pt)]:=by
  have hn:=hX.slh.n0;have hn1:=hX.slh.n1
  have hu:=hM.row.slh.n0;have hu1:=hM.row.slh.n1
  refine Zm Tryz.func100 Tryz.ntmps100 fun w hS=> ?_
  refine zsr<|zla (xbx (cs:= [_,_,_,_]) hS) ?_;rintro _ w ⟨g1,rfl,hS⟩
  refine(zP)<|(zP)<|zx5<|(zV (xls 0 Z3 hS))<|zlc (xc0 Zef) (Rg (s:=s) w (hX.below hS.below) (hY.below hS.below) (by omega)) ?_;rintro _ w ⟨rfl,hS'⟩
  replace hS:=hS.cmp hS';clear hS'
  refine(zP)<|(zP)<|zlb 12 ?_ ?_<;>intro hc
  ·
   iterate 6 refine zlo ?_
   refine(zP)<|zlt<|zct<|zsr ?_
   refine(zP)<|(zP)<|zx14<|zf2 ⟨_,rfl,?_⟩
   exact⟨_,0,fun _=>undef,fun _=>0,fun _ _=>0,fun _=>0,1,rfl,.inl ⟨by first|exact fun hh=>absurd hh.1 ‹¬ZT s›|(rintro⟨_,hh⟩;omega),rfl,rfl⟩,slh_nil,((hS.sub (.cons _ .slnil)).addnil 2 111 (Zd (fun _=>undef) (fun _=>0))).addrows 3 (fun _=>undef) (fun _=>0) (fun _ _=>0)⟩
  refine(zP)<|(zV (xln Zi hM.row.slh))<|(zV (xfb 0 fd_29_0))<|(zV (xlb 0 pl_22 hS))<|(zV (xln Zb hX.slh))<|(zP)<|(zP)<|zlt<|Ze ?_ ?_<;>intro hc
  ·
   refine zsr<|(zP)<|(zP)<|zx14<|zf2 ⟨_,rfl,?_⟩
   exact⟨_,0,fun _=>undef,fun _=>0,fun _ _=>0,fun _=>0,1,rfl,.inl ⟨by first|exact fun hh=>absurd hh.1 ‹¬ZT s›|(rintro⟨_,hh⟩;omega),rfl,rfl⟩,slh_nil,((hS.sub (.cons _ .slnil)).addnil 2 111 (Zd (fun _=>undef) (fun _=>0))).addrows 3 (fun _=>undef) (fun _=>0) (fun _ _=>0)⟩
  refine Z7<|(zP)<|zx5<|(zV (xfb 0 fd_29_0))<|(zV (xlb 0 pl_22 hS))<|(zV (xln Zb hX.slh))<|(zP)<|zx6 ?_
  have hsd:ZT s:=by first|assumption|exact Classical.not_not.1 ‹_›
  obtain⟨⟨d1,d2⟩,⟨d3,d4⟩,d5⟩:=id hsd
  have hun:u=s.n:=by omega
  replace hS:=hS.addnil 2 111 (Zd (fun _=>Value.slice none 0 0) (fun _=>0))
  replace hS:=hS.addrows 3 (fun _=>Value.slice none 0 0) (fun _=>0) (fun _ _=>0)
  have yw:=fun k (k0:0<=k) (k1:k<0)=>hS.slhIn 2 rfl k0 k1
  refine zlp (fun mm M w=>∃(nC:Int) (wv:Int->Value) (lC:Int->Int) (gC:Int->Int->Int) (cC:Int->Int) (i:Int) (wC:Value),mm=((s.n-i).toNat)/\(0<=i)/\(i<=s.n)/\(nC=flN s i.toNat)/\(lC=flL s ml i.toNat)/\(gC=flG s mf i.toNat)/\(cC=flC s i.toNat)/\(Slh wC nC)/\M= [(0,vM),(3,.pointer (some ⟨g1,0,none⟩)),(4,.slice none 0 0),(5,.int .i64 0),(6,wC),(21,vX),(22,.int .i64 s.n),(23,.int .i64 i)]/\Sat w0 w [.blk g1 [vX,vY,.int .i64 s.val,.int .i64 s.den],.own wC 2 111 nC (Zd wv cC),.sem (Frame.rows 3 nC wv lC gC)]) ⟨0,(fun _=>Value.slice none 0 0),(fun _=>0),(fun _ _=>0),(fun _=>0),0,(.slice none 0 0),rfl,(by omega),(by omega),?_,?_,?_,?_,?_,rfl,hS⟩ ?_
  ·
   rfl
  ·
   rfl
  ·
   rfl
  ·
   rfl
  ·
   exact slh_nil
  clear hS w
  rintro mm M w ⟨nC,wv,lC,gC,cC,i,wC,rfl,h0,h1,hnC,hlC,hgC,hcC,hwC,rfl,hS⟩
  have qN:=fun k (k0:0<=k) (k1:k<nC)=>hS.slhIn 2 rfl k0 k1
  have hnr:=Wl s i.toNat
  refine zsr<|(zP)<|zx7<|Ze ?_ ?_<;>intro hc
  ·
   refine zx3<|(zP)<|(zV (xix (kk:=i) Zb hX.slh))<|(zV (xlr (u:= .int .i64 (s.X i)) pl_3 (hX.below hS.below)))<|(zP)<|(zP)<|zlz<|(zP)<|(zV (xfb 3 fd_29_3))<|(zV (xlb 0 pl_3 hS))<|(zP)<|zlt<|Ze ?_ ?_<;>intro hc
   ·
    refine zdst [0] [0] 1000 mx_ hS ?_;clear hS;intro w hS
    refine(zDw 0 xmv)<|(zDw 1 xmv)<|(zDw 2 xmv)<|(zDw 3 (xix (kk:=i) Zi hM.row.slh))<|zdla 4 (fun w hS=>(xlr (u:=(mv i)) pl_22 (hM.row.below hS.below))) ?_
    have fA:=hml i h0 (by omega)
    refine(zDw 6 xmv)<|(zDw 7 (xfb 3 fd_29_3))<|zdla 8 (fun w hS=>(xlb 0 pl_3 hS)) ?_
    have hqd:=Yx (a:=s.X i) (d:=s.den) (A:=1073741824) (by omega) (by have:=d5 i h0 (by omega);omega)
    refine(zDw 9 (Ut (r:=(Int.tdiv (s.X i) s.den))))<|zdc 5 (xc0 cl_70) (c_clone (n:=(ml i)) (f:=(mf i)) w ((hM.p i (by omega) (by omega)).below hS.below) (by omega)) ?_;rintro vq1 w ⟨_,rfl,qc,hS'⟩
    replace hS:=(hS.comp hS').n4;clear hS'
    refine⟨⟨fun _=>hS.pk [0],hS.pk [0]⟩,?_⟩
    refine zDrv 10 (xany (v:= .agg #[vq1,.int .i64 (Int.tdiv (s.X i) s.den)]) (hr:=by obtain⟨_,_,_,_,rfl,_⟩:=qc;kernel_rfl)) ?_
    refine zda 11 (xli (n:=1) (len:=1) (pv:= [(0,.agg #[vq1,.int .i64 (Int.tdiv (s.X i) s.den)])]) (cs:= [vq1,.int .i64 (Int.tdiv (s.X i) s.den)]) (c:=Zd (fun _=>vq1) (fun _=>(Int.tdiv (s.X i) s.den))) ZV Yw hS (hf:=by obtain⟨_,_,_,_,rfl,_⟩:=qc;kernel_rfl)) ?_;rintro v1 w ⟨hS,hv1⟩
    refine⟨⟨fun _=>hS.pk [0],hS.pk [0]⟩,?_⟩
    refine zda 12 (xap 1 (r:=nC+1) ZV Yw hS (hS.rowN 4 rfl) (Yb _ _ _ _ _) (h1:=fun k _ _=>ZG (fun _=>qc.one) k)) ?_;rintro v2 w ⟨hS,hv2⟩
    replace hS:=Sat.merge (l1:= [_,_]) (l2:= []) (l3:= [_]) hS (by omega)
    have xe:=fun k (k0:0<=k) (k1:k<nC+1)=>hS.slhIn 2 rfl k0 k1
    refine⟨⟨fun _=>hS.pk [0],hS.pk [0]⟩,?_⟩
    refine(zDw 13 xas)<|zdd<|zbn<|ztn<|zrg ?_
    refine(zV (Zf (r:=i+1)))<|(zP)<|zln<|zlq ⟨nC+1,gsn wv nC vq1,gsn lC nC (ml i),gsn gC nC (mf i),(snoc cC nC (Int.tdiv (s.X i) s.den)),i+1,v2,rfl,(by omega),(by omega),?_,?_,?_,?_,?_,rfl,hS.pk [0,1,2]⟩
    ·
     rw [Vz s h0,<-hnC];first|rw [if_pos (by omega)]|rw [if_neg (by omega)]
    ·
     rw [VA s ml h0,<-hlC,<-hnC];first|rw [if_pos (by omega)]|rw [if_neg (by omega)]
    ·
     rw [VB s mf h0,<-hgC,<-hnC];first|rw [if_pos (by omega)]|rw [if_neg (by omega)]
    ·
     rw [VC s h0,<-hcC,<-hnC];first|rw [if_pos (by omega)]|rw [if_neg (by omega)]
    ·
     exact hv2
   refine zx4<|(zV (Zf (r:=i+1)))<|(zP)<|zln<|zlq ⟨nC,wv,lC,gC,cC,i+1,wC,rfl,(by omega),(by omega),?_,?_,?_,?_,?_,rfl,hS⟩
   ·
    rw [Vz s h0,<-hnC];first|rw [if_pos (by omega)]|rw [if_neg (by omega)]
   ·
    rw [VA s ml h0,<-hlC,<-hnC];first|rw [if_pos (by omega)]|rw [if_neg (by omega)]
   ·
    rw [VB s mf h0,<-hgC,<-hnC];first|rw [if_pos (by omega)]|rw [if_neg (by omega)]
   ·
    rw [VC s h0,<-hcC,<-hnC];first|rw [if_pos (by omega)]|rw [if_neg (by omega)]
   ·
    exact hwC
  refine zx8<|(zP)<|(zP)<|(zP)<|zx1<|zf2 ⟨_,rfl,?_⟩
  have him:i=u:=by omega
  rw [him] at hnC hlC hgC hcC
  exact⟨_,_,_,_,_,_,0,rfl,.inr ⟨hsd,hun,hnC,hlC,hgC,hcC,rfl⟩,hwC,hS.pk [1,2]⟩
theorem Tu{vM:Value}{mv:Int->Value}{vX vY:Value}(w0:World)(hM:MAt w0 vM u mv ml mf)(hX:Row w0 vX 1 s.n (ints s.X))(hY:Row w0 vY 1 s.m (ints s.Y))(bL:u<=1000)(hml:∀k,0<=k->k<u->ml k<=100000):
    Calls Tryz.prog 110 [vM,.agg #[vX,vY,.int .i64 s.val,.int .i64 s.den]].toArray w0 fun e w=>∃v,e= .returned v/\∃r n pv ln pt cnt e,v= .tuple #[r,.int .i64 e]/\FloorR s u ml mf n ln pt cnt e/\Slh r n/\Sat w0 w [.own r 2 100 n (Zd pv cnt),.sem (Frame.rows 3 n pv ln pt)]:=by
  have hn:=hX.slh.n0;have hn1:=hX.slh.n1
  have hu:=hM.row.slh.n0;have hu1:=hM.row.slh.n1
  refine Zm Tryz.func110 Tryz.ntmps110 fun w hS=> ?_
  refine zsr<|zla (xbx (cs:= [_,_,_,_]) hS) ?_;rintro _ w ⟨g1,rfl,hS⟩
  refine(zP)<|(zP)<|zx5<|(zV (xls 0 st_36 hS))<|zlc (xc0 ZgJ) (Tr (s:=s) w (hX.below hS.below) (hY.below hS.below)) ?_;rintro _ w ⟨rfl,hS'⟩
  replace hS:=hS.cmp hS';clear hS'
  refine(zP)<|(zP)<|zlb 11 ?_ ?_<;>intro hc
  ·
   iterate 6 refine zlo ?_
   refine(zP)<|zlt<|zct<|zsr ?_
   refine(zP)<|(zP)<|zx14<|zf2 ⟨_,rfl,?_⟩
   exact⟨_,0,fun _=>undef,fun _=>0,fun _ _=>0,fun _=>0,1,rfl,.inl ⟨by first|exact fun hh=>absurd hh.1 ‹¬ZT s›|(rintro⟨_,hh⟩;omega),rfl,rfl⟩,slh_nil,((hS.sub (.cons _ .slnil)).addnil 2 100 (Zd (fun _=>undef) (fun _=>0))).addrows 3 (fun _=>undef) (fun _=>0) (fun _ _=>0)⟩
  refine(zP)<|(zV (xln Zi hM.row.slh))<|(zV (xfb 0 fd_36_0))<|(zV (xlb 0 pl_22 hS))<|(zV (xln Zb hX.slh))<|(zP)<|(zP)<|zlt<|Ze ?_ ?_<;>intro hc
  ·
   refine zsr<|(zP)<|(zP)<|zx14<|zf2 ⟨_,rfl,?_⟩
   exact⟨_,0,fun _=>undef,fun _=>0,fun _ _=>0,fun _=>0,1,rfl,.inl ⟨by first|exact fun hh=>absurd hh.1 ‹¬ZT s›|(rintro⟨_,hh⟩;omega),rfl,rfl⟩,slh_nil,((hS.sub (.cons _ .slnil)).addnil 2 100 (Zd (fun _=>undef) (fun _=>0))).addrows 3 (fun _=>undef) (fun _=>0) (fun _ _=>0)⟩
  refine Z7<|(zP)<|zx5<|(zP)<|zx6 ?_
  have hsd:ZT s:=by first|assumption|exact Classical.not_not.1 ‹_›
  obtain⟨⟨d1,d2⟩,⟨d3,d4⟩,d5⟩:=id hsd
  have hun:u=s.n:=by omega
  replace hS:=hS.addnil 2 100 (Zd (fun _=>Value.slice none 0 0) (fun _=>0))
  replace hS:=hS.addrows 3 (fun _=>Value.slice none 0 0) (fun _=>0) (fun _ _=>0)
  have yw:=fun k (k0:0<=k) (k1:k<0)=>hS.slhIn 2 rfl k0 k1
  refine zlp (fun mm M w=>∃(nC:Int) (wv:Int->Value) (lC:Int->Int) (gC:Int->Int->Int) (cC:Int->Int) (i:Int) (wC:Value),mm=((u-i).toNat)/\(0<=i)/\(i<=u)/\(nC=flN s i.toNat)/\(lC=flL s ml i.toNat)/\(gC=flG s mf i.toNat)/\(cC=flC s i.toNat)/\(Slh wC nC)/\M= [(0,vM),(3,.pointer (some ⟨g1,0,none⟩)),(4,.slice none 0 0),(5,.int .i64 0),(6,wC),(7,.int .i64 i)]/\Sat w0 w [.blk g1 [vX,vY,.int .i64 s.val,.int .i64 s.den],.own wC 2 100 nC (Zd wv cC),.sem (Frame.rows 3 nC wv lC gC)]) ⟨0,(fun _=>Value.slice none 0 0),(fun _=>0),(fun _ _=>0),(fun _=>0),0,(.slice none 0 0),rfl,(by omega),(by omega),?_,?_,?_,?_,?_,rfl,hS⟩ ?_
  ·
   rfl
  ·
   rfl
  ·
   rfl
  ·
   rfl
  ·
   exact slh_nil
  clear hS w
  rintro mm M w ⟨nC,wv,lC,gC,cC,i,wC,rfl,h0,h1,hnC,hlC,hgC,hcC,hwC,rfl,hS⟩
  have qN:=fun k (k0:0<=k) (k1:k<nC)=>hS.slhIn 2 rfl k0 k1
  have hnr:=Wl s i.toNat
  refine zx11<|(zP)<|(zP)<|(zV (xln Zi hM.row.slh))<|(zP)<|zlt<|Ze ?_ ?_<;>intro hc
  ·
   refine zx27<|zdst [0,1,2] [0,1,2] 1000 mx_ hS ?_;clear hS;intro w hS
   refine(zDw 0 (xfb 0 fd_36_0))<|(zDl 1 (fun w hS=>(xlb 0 pl_22 hS)))<|(zDw 2 xmv)<|(zDw 3 (xix (kk:=i) Zb hX.slh))<|(zDl 4 (fun w hS=>(xlr (u:= .int .i64 (s.X i)) pl_3 (hX.below hS.below))))<|(zDw 5 (xfb 3 fd_36_3))<|(zDl 6 (fun w hS=>(xlb 0 pl_3 hS)))<|(zDw 7 Xq)<|zdd<|ztn ?_
   refine Ze ?_ ?_<;>intro hc
   ·
    refine zdst [0] [0] 1000 mx_ hS ?_;clear hS;intro w hS
    refine(zDw 0 xmv)<|(zDw 2 xmv)<|(zDw 3 xmv)<|(zDw 4 (xix (kk:=i) Zi hM.row.slh))<|zdla 5 (fun w hS=>(xlr (u:=(mv i)) pl_22 (hM.row.below hS.below))) ?_
    have fA:=hml i h0 (by omega)
    refine(zDw 7 (xfb 0 fd_36_0))<|(zDl 8 (fun w hS=>(xlb 0 pl_22 hS)))<|(zDw 9 xmv)<|(zDw 10 (xix (kk:=i) Zb hX.slh))<|zdla 11 (fun w hS=>(xlr (u:= .int .i64 (s.X i)) pl_3 (hX.below hS.below))) ?_
    have hqd:=Yx (a:=s.X i) (d:=s.den) (A:=1073741824) (by omega) (by have:=d5 i h0 (by omega);omega)
    refine(zDw 12 (xfb 3 fd_36_3))<|(zDl 13 (fun w hS=>(xlb 0 pl_3 hS)))<|(zDw 14 (Ut (r:=(Int.tdiv (s.X i) s.den))))<|zda 1 (xl0 (c:=ints (mf i)) Zb hS) ?_;rintro v1 w ⟨hS,hv1⟩
    refine⟨⟨fun _=>hS.pk [0],hS.pk [0]⟩,?_⟩
    refine zda 6 (xap 3 (r:=(ml i)) (f:=ints (mf i)) Zb Zn hS ((hM.p i (by omega) (by omega)).below hS.below) (by exact XG _ _)) ?_;rintro v2 w ⟨hS,hv2⟩
    refine⟨⟨fun _=>hS.pk [0],hS.pk [0]⟩,?_⟩
    refine zDrv 15 (xany (v:= .agg #[v2,.int .i64 (Int.tdiv (s.X i) s.den)]) (hr:=by obtain⟨_,_,_,_,rfl,_⟩:=hv2;kernel_rfl)) ?_
    refine zda 16 (xli (n:=1) (len:=1) (pv:= [(0,.agg #[v2,.int .i64 (Int.tdiv (s.X i) s.den)])]) (cs:= [v2,.int .i64 (Int.tdiv (s.X i) s.den)]) (c:=Zd (fun _=>v2) (fun _=>(Int.tdiv (s.X i) s.den))) Zv Yq hS (hf:=by obtain⟨_,_,_,_,rfl,_⟩:=hv2;kernel_rfl)) ?_;rintro v3 w ⟨hS,hv3⟩
    refine⟨⟨fun _=>hS.pk [0],hS.pk [0]⟩,?_⟩
    refine zda 17 (xap 1 (r:=nC+1) Zv Yq hS (hS.rowN 4 rfl) (Yb _ _ _ _ _) (h1:=fun k _ _=>ZG (fun _=>hv2.one) k)) ?_;rintro v4 w ⟨hS,hv4⟩
    replace hS:=Sat.merge (l1:= [_,_]) (l2:= []) (l3:= [_]) hS (by omega)
    have xe:=fun k (k0:0<=k) (k1:k<nC+1)=>hS.slhIn 2 rfl k0 k1
    refine⟨⟨fun _=>hS.pk [0],hS.pk [0]⟩,?_⟩
    refine(zDw 18 xas)<|zdd<|zbn<|ztn<|zrg ?_
    refine(zP)<|(zV (Zf (r:=i+1)))<|(zP)<|zln<|zlq ⟨nC+1,gsn wv nC v2,gsn lC nC (ml i),gsn gC nC (mf i),(snoc cC nC (Int.tdiv (s.X i) s.den)),i+1,v4,rfl,(by omega),(by omega),?_,?_,?_,?_,?_,rfl,hS.pk [0,1,2]⟩
    ·
     rw [Vz s h0,<-hnC];first|rw [if_pos (by omega)]|rw [if_neg (by omega)]
    ·
     rw [VA s ml h0,<-hlC,<-hnC];first|rw [if_pos (by omega)]|rw [if_neg (by omega)]
    ·
     rw [VB s mf h0,<-hgC,<-hnC];first|rw [if_pos (by omega)]|rw [if_neg (by omega)]
    ·
     rw [VC s h0,<-hcC,<-hnC];first|rw [if_pos (by omega)]|rw [if_neg (by omega)]
    ·
     exact hv4
   refine zx4<|(zP)<|(zV (Zf (r:=i+1)))<|(zP)<|zln<|zlq ⟨nC,wv,lC,gC,cC,i+1,wC,rfl,(by omega),(by omega),?_,?_,?_,?_,?_,rfl,hS⟩
   ·
    rw [Vz s h0,<-hnC];first|rw [if_pos (by omega)]|rw [if_neg (by omega)]
   ·
    rw [VA s ml h0,<-hlC,<-hnC];first|rw [if_pos (by omega)]|rw [if_neg (by omega)]
   ·
    rw [VB s mf h0,<-hgC,<-hnC];first|rw [if_pos (by omega)]|rw [if_neg (by omega)]
   ·
    rw [VC s h0,<-hcC,<-hnC];first|rw [if_pos (by omega)]|rw [if_neg (by omega)]
   ·
    exact hwC
  refine zx8<|(zP)<|(zP)<|(zP)<|zx1<|zf2 ⟨_,rfl,?_⟩
  have him:i=u:=by omega
  rw [him] at hnC hlC hgC hcC
  exact⟨_,_,_,_,_,_,0,rfl,.inr ⟨hsd,hun,hnC,hlC,hgC,hcC,rfl⟩,hwC,hS.pk [1,2]⟩
def FracR(s:So)(k:Int)(ok:Prop):Prop:=(¬ZT s/\k=0/\¬ok)\/(ZT s/\(∀j,0<=j->j<s.n->(s.X j).tmod s.den=0)/\k=0/\¬ok)\/(ZT s/\0<=k/\k<s.n/\(s.X k).tmod s.den≠0/\(∀j,0<=j->j<k->(s.X j).tmod s.den=0)/\ok)
theorem FracR.same{k k2:Int}{ok ok2:Prop}(h:FracR s k ok)(h':FracR s k2 ok2):k=k2/\(ok↔ok2):=by
  rcases h with⟨h1,h2,h3⟩|⟨h1,h2,h3,h4⟩|⟨h1,h2,h3,h4,h5,h6⟩<;>rcases h' with⟨g1,g2,g3⟩|⟨g1,g2,g3,g4⟩|⟨g1,g2,g3,g4,g5,g6⟩<;>
    first
    |exact absurd ‹ZT s› ‹¬ZT s›
    |exact⟨by omega,fun h=>absurd h ‹¬ok›,fun h=>absurd h ‹¬ok2›⟩
    |exact absurd (g2 k (by omega) (by omega)) (by assumption)
    |exact absurd (h2 k2 (by omega) (by omega)) (by assumption)
    | (refine⟨?_,fun _=>g6,fun _=>h6⟩
       rcases Int.lt_trichotomy k k2 with h|h|h
       · exact absurd (g5 k (by omega) h) h4
       · exact h
       · exact absurd (h5 k2 (by omega) h) g4)
theorem Zf2{vV:Value}{pv:Int->Value}{vV2:Value}{n2:Int}{pv2:Int->Value}{ln2:Int->Int}{pt2:Int->Int->Int}{cnt2:Int->Int}(w0:World)(hV:VAt w0 vV n pv ln pt cnt)(hV2:VAt w0 vV2 n2 pv2 ln2 pt2 cnt2):
    Calls Tryz.prog 78 [vV,vV2].toArray w0 fun e w=>∃v,e= .returned v/\v=B (SameP n n2 ln ln2 pt pt2 cnt cnt2)/\Sat w0 w []:=by
  have hn:=hV.row.slh.n0;have hn1:=hV.row.slh.n1
  have hm1:=hV2.row.slh.n1
  refine Zm Tryz.func78 Tryz.ntmps78 fun w hS=> ?_
  refine zsr<|(zP)<|zx5<|(zP)<|(zV (xln Zv hV.row.slh))<|(zP)<|(zV (xln Zv hV2.row.slh))<|(zP)<|zlt<|Ze ?_ ?_<;>intro hc
  ·
   refine zsr<|(zP)<|zx14<|zf1 ⟨_,rfl,?_⟩
   exact⟨false_B (by rintro⟨h1,h2⟩;first|omega|(obtain⟨g1,g2⟩:=h2 i h0 (by omega);first|omega|exact absurd g2 ‹_›)),hS⟩
  refine Xb<|(zP)<|zx6<|zlp (fun mm M w=>∃(i:Int),mm=((n-i).toNat)/\(0<=i)/\(i<=n)/\(∀k,0<=k->k<i->cnt k=cnt2 k/\ln k=ln2 k/\∀j,0<=j->j<ln k->pt k j=pt2 k j)/\M= [(0,vV),(1,vV2),(5,.int .i64 i)]/\Sat w0 w []) ⟨0,rfl,(by omega),(by omega),?_,rfl,hS⟩ ?_
  ·
   intro k k0 k1;omega
  clear hS w
  rintro mm M w ⟨i,rfl,h0,h1,qa,rfl,hS⟩
  refine zx11<|(zP)<|(zP)<|(zV (xln Zv hV.row.slh))<|(zP)<|zlt<|Ze ?_ ?_<;>intro hc
  ·
   refine zx27<|zdst [] [] 1000 mx_ hS ?_;clear hS;intro w hS
   refine(zDw 0 xmv)<|(zDw 1 xmv)<|(zDw 2 (xix (kk:=2*i) Zv hV.row.slh))<|(zDw 3 (xfc (kk:=2*i+1) Yf hV.row.slh))<|(zDl 4 (fun w hS=>(xlr (u:= .int .i64 (cnt i)) pl_3 (hV.row.below hS.below) (e:=(Yt pv cnt (by omega))))))<|(zDw 5 xmv)<|(zDw 6 xmv)<|(zDw 7 (xix (kk:=2*i) Zv hV2.row.slh))<|(zDw 8 (xfc (kk:=2*i+1) Yf hV2.row.slh))<|(zDl 9 (fun w hS=>(xlr (u:= .int .i64 (cnt2 i)) pl_3 (hV2.row.below hS.below) (e:=(Yt pv2 cnt2 (by omega))))))<|(zDw 10 YN)<|(zDw 11 xmv)<|zdb 28 ?_ ?_<;>intro hc
   ·
    refine(zDo 12)<|(zDo 13)<|(zDo 14)<|(zDo 15)<|(zDo 16)<|(zDo 17)<|(zDo 18)<|(zDo 19)<|(zDo 20)<|(zDo 21)<|(zDo 22)<|(zDo 23)<|(zDw 24 xpt)<|zdd<|ztn<|zct<|zsr ?_
    refine(zP)<|zx2<|zf1 ⟨_,rfl,?_⟩
    exact⟨false_B (by rintro⟨h1,h2⟩;first|omega|(obtain⟨g1,g2⟩:=h2 i h0 (by omega);first|omega|exact absurd g2 ‹_›)),hS⟩
   refine(zDw 12 xmv)<|(zDw 13 xmv)<|(zDw 14 (xix (kk:=2*i) Zv hV.row.slh))<|(zDw 15 (xfc (kk:=2*i) Yp hV.row.slh))<|(zDl 16 (fun w hS=>(xlr (u:=(pv i)) pl_22 (hV.row.below hS.below) (e:=(Yu pv cnt (by omega))))))<|(zDw 17 xmv)<|(zDw 18 xmv)<|(zDw 19 (xix (kk:=2*i) Zv hV2.row.slh))<|(zDw 20 (xfc (kk:=2*i) Yp hV2.row.slh))<|(zDl 21 (fun w hS=>(xlr (u:=(pv2 i)) pl_22 (hV2.row.below hS.below) (e:=(Yu pv2 cnt2 (by omega))))))<|zdc 22 (xc0 Zb1) (VI (n:=(ln i)) (m:=(ln2 i)) (f:=(pt i)) (g:=(pt2 i)) w ((hV.p i (by omega) (by omega)).below hS.below) ((hV2.p i (by omega) (by omega)).below hS.below)) ?_;rintro _ w ⟨rfl,hS'⟩
   replace hS:=hS.cmp hS';clear hS'
   refine⟨⟨fun _=>hS,hS⟩,?_⟩
   refine(zDw 23 YK)<|(zDw 24 xpf)<|zdd<|ztn ?_
   refine Ze ?_ ?_<;>intro hc
   ·
    refine zsr<|(zP)<|zx2<|zf1 ⟨_,rfl,?_⟩
    exact⟨false_B (by rintro⟨h1,h2⟩;first|omega|(obtain⟨g1,g2⟩:=h2 i h0 (by omega);first|omega|exact absurd g2 ‹_›)),hS⟩
   refine zx4<|(zP)<|(zV (Zf (r:=i+1)))<|(zP)<|zln<|zlq ⟨i+1,rfl,(by omega),(by omega),?_,rfl,hS⟩
   ·
    have hq:(ln i)=(ln2 i)/\∀k,0<=k->k<(ln i)->(pt i) k=(pt2 i) k:=by first|assumption|exact Classical.not_not.1 ‹_›
    intro k k0 k1;rcases Int.lt_or_eq_of_le (show k<=i by omega) with hk|hk
    · exact qa k k0 hk
    · rw [hk];exact⟨by omega,hq⟩
  refine zx8<|(zP)<|zx1<|zf1 ⟨_,rfl,?_⟩
  exact⟨ZU ⟨by omega,fun k k0 k1=>qa k k0 (by omega)⟩,hS⟩
theorem Zer{vV:Value}{pv:Int->Value}(w0:World)(hV:VAt w0 vV n pv ln pt cnt)(hn5:n<=100000):
    Calls Tryz.prog 62 [vV].toArray w0 fun e w=>∃v,e= .returned v/\∃r,v=r/\Slh r n/\Sat w0 w [.own r 2 100 n (Zd pv cnt)]:=by
  have hn:=hV.row.slh.n0;have hn1:=hV.row.slh.n1
  refine Zm Tryz.func62 Tryz.ntmps62 fun w hS=> ?_
  refine zsr<|(zP)<|zlz<|(zP)<|zx5<|(zP)<|(zV (xln ZV hV.row.slh))<|(zP)<|zx6 ?_
  replace hS:=hS.addnil 2 100 (Zd (fun _=>Value.slice none 0 0) (fun _=>0))
  refine zlp (fun mm M w=>∃(nC:Int) (wv:Int->Value) (cC:Int->Int) (i:Int) (wC:Value),mm=((n-i).toNat)/\(0<=i)/\(i<=n)/\(nC=i)/\(∀k,0<=k->k<i->wv k=pv k)/\(∀k,0<=k->k<i->cC k=cnt k)/\(Slh wC nC)/\M= [(2,.slice none 0 0),(3,wC),(6,vV),(7,.int .i64 n),(8,.int .i64 i)]/\Sat w0 w [.own wC 2 100 nC (Zd wv cC)]) ⟨0,(fun _=>Value.slice none 0 0),(fun _=>0),0,(.slice none 0 0),rfl,(by omega),(by omega),(by omega),?_,?_,?_,rfl,hS⟩ ?_
  ·
   intro k k0 k1;omega
  ·
   intro k k0 k1;omega
  ·
   exact slh_nil
  clear hS w
  rintro mm M w ⟨nC,wv,cC,i,wC,rfl,h0,h1,hnC,hwv,hcC,hwC,rfl,hS⟩
  refine zsr<|(zP)<|zx7<|Ze ?_ ?_<;>intro hc
  ·
   refine zx3<|(zV (xix (kk:=2*i) ZV hV.row.slh))<|(zV (xlw (cs:= [(pv i),.int .i64 (cnt i)]) ZK (hV.row.below hS.below) (ZB (k:=2*i) (i:=i) pv cnt (by omega))))<|zla (xal (cs:= [_,_]) Yw hS) ?_;rintro _ w ⟨g1,rfl,hS⟩
   refine zle (xsw 1 ZK hS (hd:=(Za (hV.p i (by omega) (by omega)).slh.one (Za rfl Zg)))) ?_;clear hS;rintro w hS
   refine zlt<|zrg<|(zP)<|(zV (xls 1 ZK hS))<|zla (xli (n:=1) (len:=1) (pv:= [(0,.agg #[(pv i),.int .i64 (cnt i)])]) (cs:= [(pv i),.int .i64 (cnt i)]) (c:=Zd (fun _=>(pv i)) (fun _=>(cnt i))) Zv Yq hS (hf:=by have hz:=(hV.p i (by omega) (by omega)).slh;revert hz;generalize (pv i)=z;rintro⟨_,_,_,_,rfl,_⟩;show _=_;kernel_rfl)) ?_;rintro v1 w ⟨hS,hv1⟩
   refine zla (xap 0 (r:=nC+1) Zv Yq hS (hS.rowN 2 rfl) (Yb _ _ _ _ _) (h1:=fun k _ _=>ZG (fun _=>(hV.p i (by omega) (by omega)).slh.one) k)) ?_;rintro v2 w ⟨hS,hv2⟩
   refine(zP)<|zx10<|(zV (Zf (r:=i+1)))<|(zP)<|zln<|zlq ⟨nC+1,(gsn wv nC (pv i)),(snoc cC nC (cnt i)),i+1,v2,rfl,(by omega),(by omega),(by omega),?_,?_,?_,rfl,hS.pk [0]⟩
   ·
    intro k k0 k1;by_cases e:k<nC
    · rw [Zs e];exact hwv k k0 (by omega)
    · rw [Zr e,show k=i by omega]
   ·
    intro k k0 k1;by_cases e:k<nC
    · rw [Zl e];exact hcC k k0 (by omega)
    · rw [Zk e,show k=i by omega]
   ·
    exact hv2
  refine zx8<|(zP)<|(zP)<|zx1<|zf1 ⟨_,rfl,?_⟩
  obtain rfl:i=n:=by omega
  subst hnC
  replace hS:=hS.recont 0 rfl (d:=Zd pv cnt) (fun k k0 k1=>by unfold Zd;rw [hwv _ (by omega) (by omega),hcC _ (by omega) (by omega)])
  exact⟨_,rfl,hwC,hS⟩
end Go.Proofs.YtopmifmfecfaaaaGreat
namespace Go.Proofs.Gw
open Go Go.RowKit
def Frame.dq (E:TypeId) (v:Value) (n:Int) (f:Int->Int):Frame where
  holds w:=0<=n/\n<=140737488355328/\((v= .slice none 0 0/\n=0)\/∃g off cap cur,v= .slice (some ⟨g,off,none⟩) n.toNat cap/\w.heap[g]? =some (.cells cur E (0,0))/\n.toNat<=cap/\cap<=maxLen/\off+cap<=cur.size/\
    ∀k:Nat,(k:Int)<n->cur[off+k]? =some (.int .i64 (f k)))
  has g:=∃a l c,v= .slice (some a) l c/\a.block=g
  keep h hk:=by
    obtain⟨h0,h1,h|⟨g,off,cap,cur,rfl,hg,h⟩⟩:=h
    · exact⟨h0,h1,.inl h⟩
    · exact⟨h0,h1,.inr ⟨g,off,cap,cur,rfl,by rw [hk g ⟨_,_,_,rfl,rfl⟩];exact hg,h⟩⟩
  lt h hg:=by
    obtain⟨_,_,h|⟨g,off,cap,cur,rfl,h2,_⟩⟩:=h
    · obtain⟨rfl,_⟩:=h;obtain⟨_,_,_,e,_⟩:=hg;cases e
    · obtain⟨_,_,_,e,rfl⟩:=hg;cases e;exact(Array.getElem?_eq_some_iff.1 h2).1
section
variable {P:Program} {L:List (Nat×Value)} {w w0:World} {o:Oper} {x y z:Operand} {T T':TypeId} {l:List Ent} {E:TypeId} {v:Value} {n:Int} {f:Int->Int}
theorem Frame.dq.row(h:(Frame.dq E v n f).holds w):Row w v 1 n (ints f):=by
  obtain⟨h0,h1,⟨rfl,rfl⟩|⟨g,off,cap,cur,rfl,hg,_,_,_,hc⟩⟩:=h
  · exact Zfi _ _ _
  · refine⟨⟨h0,h1,_,_,rfl,.inr ⟨g,off,rfl⟩⟩,fun k hk=> ?_⟩
    have hk2:(k:Int)<n:=by omega
    have:=hc k hk2
    show w.cell? ⟨g,off+(k:Int).toNat,none⟩=_
    rw [cell_of_row w g _ cur E (0,0) hg]
    rw [show(k:Int).toNat=k by omega,this];rfl
theorem Frame.dq.roomy(h:(Frame.dq E v n f).holds w):Y9 v:=fun a len cap e=>by
  obtain⟨_,_,⟨rfl,_⟩|⟨g,off,cap',cur,rfl,_,h2,_⟩⟩:=h
  · cases e;omega
  · cases e;exact h2
theorem Sat.dqOf(h:Sat w0 w l)(i:Nat)(hi:l[i]? =some (.sem (Frame.dq E v n f))):(Frame.dq E v n f).holds w:=h.holds _ (List.mem_of_getElem? hi)
theorem Sat.dqnil(h:Sat w0 w l)(E:TypeId)(f:Int->Int):Sat w0 w (l++ [.sem (Frame.dq E (.slice none 0 0) 0 f)]):=by
  refine h.comp (m:= [.sem (Frame.dq E (.slice none 0 0) 0 f)]) ⟨Below.refl _ _,?_,?_,List.pairwise_singleton _ _⟩
  · intro e he
    obtain rfl:=List.mem_singleton.1 he
    exact⟨by omega,by omega,.inl ⟨rfl,rfl⟩⟩
  · intro e he g hg
    obtain rfl:=List.mem_singleton.1 he
    obtain⟨_,_,_,e,_⟩:=hg;cases e
theorem Sat.resem{F G:Frame}(h:Sat w0 w l)(i:Nat)(hi:l[i]? =some (.sem F))(hG:F.holds w->G.holds w)(hh:∀g,G.has g->F.has g):Sat w0 w (l.set i (.sem G)):=by
  have h':=h
  rw [Yc hi] at h'
  rw [YL hi]
  exact h'.turn (d:= .sem F) (fun k _ _=>rfl) rfl rfl rfl (Nat.le_refl _) (hG (h.holds _ (List.mem_of_getElem? hi))) (fun g hg=> .inl (hh g hg))
theorem Sat.dqpre (h :Sat w0 w l) (i:Nat) (q:Nat) (hq:(q:Int)<=n) (hi:l[i]? =some (.sem (Frame.dq E v n f)):=by exact rfl):Sat w0 w (l.set i (.sem (Frame.dq E (RG v q) q f))):=
  h.resem i hi (fun ⟨h0,h1,hd⟩=>⟨by omega,by omega,by
    rcases hd with⟨rfl,rfl⟩|⟨g,off,cap,cur,rfl,hg,h2,h3,h4,h5⟩
    · exact .inl ⟨by obtain rfl:q=0:=by omega
                     rfl,by omega⟩
    · exact .inr ⟨g,off,cap,cur,by simp [RG],hg,by omega,h3,h4,fun k hk=>h5 k (by omega)⟩⟩) (fun g ⟨a',lh,c,e,eb⟩=>by
    cases v with
    |slice a len cap=>cases e;exact⟨_,_,_,rfl,eb⟩
    |_=>cases e)
theorem Zcz{e:Int}(h:Slh v n)(h0:0<=e)(h1:e<=n):Slh (RG v e.toNat) e:=by
  have:=Zbx (q:=e.toNat) h (by omega)
  rwa [Int.toNat_of_nonneg h0] at this
theorem Rc{m:Int}(h:Slh v n)(hr:Y9 v)(h1:1<=n)(e:n-1=m):Slh (Xz v 1) m:=by
  subst e;exact(Xe (q:=1) h hr (by omega)).slh
theorem Sat.dqn(h:Sat w0 w l)(i:Nat){m:Int}(e:n=m)(hi:l[i]? =some (.sem (Frame.dq E v n f)):=by exact rfl):Sat w0 w (l.set i (.sem (Frame.dq E v m f))):=by subst e;exact h.resem i hi id fun _ hg=>hg
theorem Sat.dqsuf (h:Sat w0 w l) (i:Nat) (q:Nat) (hq:(q:Int)<n) (hi:l[i]? =some (.sem (Frame.dq E v n f)):=by exact rfl):Sat w0 w (l.set i (.sem (Frame.dq E (Xz v q) (n-q) (fun k=>f (k+q))))):=
  h.resem i hi (fun⟨h0,h1,hd⟩=>⟨by omega,by omega,by
    rcases hd with⟨rfl,rfl⟩|⟨g,off,cap,cur,rfl,hg,h2,h3,h4,h5⟩
    · omega
    · refine .inr ⟨g,off+q,cap-q,cur,?_,hg,by omega,by omega,by omega,fun k hk=> ?_⟩
      · unfold Xz;dsimp only;rw [if_neg (by omega)];simp;try omega
      · rw [show off+q+k=off+(k+q) by omega,h5 (k+q) (by omega)];congr 3⟩) (fun g ⟨a',lh,c,e,eb⟩=>by
    cases v with
    | slice a len cap=>cases a with
      |none=>simp [Xz] at e
      | some a=>
        unfold Xz at e;dsimp only at e
        split at e
        · cases e;exact⟨_,_,_,rfl,eb⟩
        · cases e;exact⟨_,_,_,rfl,eb⟩
    |_=>cases e)
theorem Zjj {u:Value} {b:Nat} {a:Int} {zv:Value} (i:Nat) (ht:ZJ P T=some (E,1)) (he:Z0 P E=some (zv,1,b)) (hS:Sat w0 w l) (hu:Row w u 1 1 (ints fun _=>a)) (ho:o.op= .call {callee:= .builtin .append,args:= #[x,y],argTypes:= #[T,T]}:=by exact rfl) (hz:zv.cells.size=1:=by exact rfl)
    (hi:l[i]? =some (.sem (Frame.dq E v n f)):=by exact rfl) (hx:evL L x=some v:=by exact rfl) (hy:evL L y=some u:=by exact rfl) (hb:b*(n+1)<=140737488355328:=by omega) (hnm:n+1<=140737488355328:=by omega):
    ∃q w',Runs P L w o (.value q) w'/\Sat w0 w' (l.set i (.sem (Frame.dq E q (n+1) (snoc f n a))))/\Slh q (n+1):=by
  obtain⟨hut,_⟩:=ZY ht
  obtain⟨inf,dc,hzz,hsz,hby⟩:=Xu he
  have hd:=hS.dqOf i hi
  have qO:=Frame.dq.row hd
  obtain⟨h0,h1,hd⟩:=hd
  obtain⟨_,_,ua,ucap,rfl,hua⟩:=hu.slh
  obtain⟨ub,uoff,rfl⟩:∃ub uoff,ua=some ⟨ub,uoff,none⟩:=by rcases hua with h|h;omega;exact h
  have yT:∀j t, [Value.int .i64 a][j]? =some t->w.cell? ((⟨ub,uoff,none⟩:Addr).add j)=some t:=fun j t hj=>by
    rcases j with _|j
    · cases hj
      have:=hu.2 0 (by omega)
      rw [Addr.add_eq _ rfl];simpa [cad,ints] using this
    · simp at hj
  have eb:(n.toNat+1)*b<=140737488355328:=by
    have:(((n.toNat+1)*b:Nat):Int)=b*(n+1):=by rw [Int.natCast_mul,Int.natCast_add,Int.toNat_of_nonneg h0,Int.mul_comm];rfl
    omega
  have h':=hS
  rw [Yc hi] at h'
  have key:∃q w',(∀ty:TypeId,(Builtin.append_ #[T,T] ty #[v,.slice (some ⟨ub,uoff,none⟩) 1 ucap]).run P w= .ok q w')/\(Frame.dq E q (n+1) (snoc f n a)).holds w'/\(∀k,k<w.heap.size->¬(Frame.dq E v n f).has k->w'.heap[k]? =w.heap[k]?)/\w'.tape=w.tape/\w'.os=w.os/\w'.output=w.output/\w.heap.size<=w'.heap.size/\
      (∀g,(Frame.dq E q (n+1) (snoc f n a)).has g->(Frame.dq E v n f).has g\/w.heap.size<=g):=by
    have fy:n.toNat+1<=maxLen:=by unfold maxLen;omega
    have grown:∀(old:Nat),old<n.toNat+1->∀(zs:List Value),zs.length=n.toNat->(∀k:Nat,(k:Int)<n->zs[k]? =some (.int .i64 (f k)))->
        (Frame.dq E (.slice (some ⟨w.heap.size,0,none⟩) (n.toNat+1) (grownCap w (n.toNat+1) old E)) (n+1) (snoc f n a)).holds (w.drew.alloc (.cells (zs.toArray++ [Value.int .i64 a].toArray++Builtin.zeroCells zv.cells (grownCap w (n.toNat+1) old E-(n.toNat+1))) E)):=fun old ho zs hzl hzs=>by
      have hge:=grownCap_ge w (n.toNat+1) old E
      have hcm:grownCap w (n.toNat+1) old E<=maxLen:=grownCap_le_maxLen w (n.toNat+1) old E fy
      refine⟨by omega,hnm,.inr ⟨w.heap.size,0,_,_,by rw [show(n+1).toNat=n.toNat+1 by omega],heap_alloc_new w.drew _,by omega,hcm,?_,fun k hk=> ?_⟩⟩
      · simp only [Array.size_append,List.size_toArray,size_zeroCells,hz,hzl,List.length_cons,List.length_nil];omega
      · have e1:(zs.toArray++ [Value.int .i64 a].toArray++Builtin.zeroCells zv.cells (grownCap w (n.toNat+1) old E-(n.toNat+1)))[0+k]? =(zs++ [Value.int .i64 a])[k]? :=by
          rw [Nat.zero_add,Array.getElem?_append_left (by simp;omega)];simp
        rw [e1,List.getElem?_append]
        by_cases hk2:(k:Int)<n
        · rw [if_pos (by omega),hzs k hk2,Zl hk2]
        · rw [if_neg (by omega),show k-zs.length=0 by omega,Zk hk2];rfl
    rcases hd with⟨rfl,rfl⟩|⟨g,off,cap,cur,rfl,hg,h2,h3,h4,h5⟩
    · refine⟨_,_,fun ty=>run_append_nil (P:=P) w T ty E inf zv hut dc hzz ⟨ub,uoff,none⟩ 1 ucap [Value.int .i64 a] (by rw [hsz];rfl) yT (by omega) (by omega) (by rw [hby];omega),?_,fun k hk _=>heap_alloc_old w.drew _ hk,rfl,rfl,rfl,by simp,fun g ⟨_,_,_,e,eb⟩=>by cases e;exact .inr (Nat.le_of_eq eb)⟩
      have:=grown 0 (by omega) [] rfl (fun k hk=>by omega)
      simpa using this
    · by_cases hroom:n.toNat+1<=cap
      · have eI:∀k,k<cur.size->w.cell? ⟨g,k,none⟩=cur[k]? :=fun k _=>cell_of_row w g k cur E (0,0) hg
        refine⟨_,_,fun ty=>run_append_room_cells (P:=P) w T ty E inf hut dc g off n.toNat cap ⟨ub,uoff,none⟩ 1 ucap [Value.int .i64 a] (by rw [hsz];rfl) yT (fun u hu=>by simp at hu;subst hu;rfl) hroom (fun j hj=>by
            simp at hj;subst hj
            rw [hsz,Nat.mul_one,eI _ (by omega)];simp;omega) (fun j hj=>by
            simp at hj;subst hj
            simp [World.frozen?,hg]),?_,fun k hk hne=> ?_,rfl,rfl,rfl,?_,fun g' ⟨_,_,_,e,eb⟩=> .inl (by cases e;exact⟨_,_,_,rfl,eb⟩)⟩
        · refine⟨by omega,hnm,.inr ⟨g,off,cap,cur.setIfInBounds (off+n.toNat) (.int .i64 a),by rw [show(n+1).toNat=n.toNat+1 by omega],?_,by omega,h3,by simp;omega,fun k hk=> ?_⟩⟩
          · simp [World.setCells,World.setCell,Array.getElem?_modify,hg,hsz]
          · rw [Array.getElem?_setIfInBounds]
            by_cases hk2:(k:Int)<n
            · rw [if_neg (by omega),h5 k hk2,Zl hk2]
            · rw [if_pos (by omega),if_pos (by omega),Zk hk2]
        · exact Below.heap_setCell _ _ _ _ fun e=>hne (by rw [e];exact⟨_,_,_,rfl,rfl⟩)
        · simp [World.setCells,World.setCell]
      · have hol:∀k:Nat,(k:Int)<n->(Zq f n|>.map (Value.int .i64))[k]? =some (.int .i64 (f k)):=fun k hk=>by
          have hk3:k<n.toNat:=by omega
          simp [Zq,hk3]
        have hll:(Zq f n|>.map (Value.int .i64)).length=n.toNat:=by simp [Zq]
        refine⟨_,_,fun ty=>run_append_grow (P:=P) w T ty E inf zv hut dc hzz ⟨g,off,none⟩ n.toNat cap (Zq f n|>.map (Value.int .i64)) (by rw [hsz,hll];omega) (fun j t hj=> ?_) ⟨ub,uoff,none⟩ 1 ucap [Value.int .i64 a] (by rw [hsz];rfl) yT (by omega) (by omega) (growslice_fits (by omega) (by rw [hby];exact eb)),?_,fun k hk _=>heap_alloc_old w.drew _ hk,rfl,rfl,rfl,by simp,fun g ⟨_,_,_,e,eb⟩=>by cases e;exact .inr (Nat.le_of_eq eb)⟩
        · have hj2:j<n.toNat:=by
            have:=(List.getElem?_eq_some_iff.1 hj).1;omega
          rw [hol j (by omega)] at hj;cases hj
          rw [Addr.add_eq _ rfl,cell_of_row w g _ cur E (0,0) hg];exact h5 j (by omega)
        · exact grown cap (by omega) _ hll hol
  obtain⟨q,w',hr,hq,hb1,ht1,ho1,hp1,hs1,hh⟩:=key
  refine⟨q,w',fun ρ h=> ?_,?_,(Frame.dq.row hq).slh⟩
  · simp [execOp,ho,resolve,invoke,builtin,h _ _ hx,h _ _ hy,hr]
  · rw [YL hi]
    exact h'.turn hb1 ht1 ho1 hp1 hs1 hq hh
end
end Go.Proofs.Gw
namespace Go.Proofs.Gw
open Go Go.RowKit
variable {M cap i k m n q r s y:Int} {A T x:Int->Int}
structure DQ (A:Int->Int) (M k q:Int) (g:Int->Int):Prop where
  q0:0<=q
  rng:∀i,0<=i->i<q->max 0 (k-1-M)<=g i/\g i<=k-1
  mon:∀i,0<=i->i+1<q->g i<g (i+1)/\A (g (i+1))<A (g i)
  dom:∀j,max 0 (k-1-M)<=j->j<=k-1->∃i,0<=i/\i<q/\j<=g i/\A j<=A (g i)
structure DQp (A:Int->Int) (M k q:Int) (g:Int->Int):Prop where
  q0:0<=q
  rng:∀i,0<=i->i<q->max 0 (k-1-M)<=g i/\g i<=k-1
  mon:∀i,0<=i->i+1<q->g i<g (i+1)/\A (g (i+1))<A (g i)
  dom:∀j,max 0 (k-1-M)<=j->j<=k-1->(∃i,0<=i/\i<q/\j<=g i/\A j<=A (g i))\/A j<=A k
theorem DQ.start(A:Int->Int)(M:Int)(g:Int->Int):DQ A M 0 0 g:=⟨by omega,fun i _ _=>by omega,fun i _ _=>by omega,fun j _ _=>by omega⟩
theorem DQ.p{g:Int->Int}(h:DQ A M k q g):DQp A M k q g:=⟨h.q0,h.rng,h.mon,fun j a b=> .inl (h.dom j a b)⟩
theorem DQp.pop{g:Int->Int}(h:DQp A M k q g)(hq:0<q)(ha:A (g (q-1))<=A k):DQp A M k (q-1) g:=
  ⟨by omega,fun i i0 i1=>h.rng i i0 (by omega),fun i i0 i1=>h.mon i i0 (by omega),fun j j0 j1=>by
    rcases h.dom j j0 j1 with⟨i,i0,i1,h1,h2⟩|h1
    · by_cases e:i=q-1
      · subst e;exact .inr (by omega)
      · exact .inl ⟨i,i0,by omega,h1,h2⟩
    · exact .inr h1⟩
structure DQa (A:Int->Int) (M k q:Int) (g:Int->Int):Prop where
  q0:1<=q
  rng:∀i,0<=i->i<q->max 0 (k-1-M)<=g i/\g i<=k
  mon:∀i,0<=i->i+1<q->g i<g (i+1)/\A (g (i+1))<A (g i)
  dom:∀j,max 0 (k-1-M)<=j->j<=k->∃i,0<=i/\i<q/\j<=g i/\A j<=A (g i)
  last:g (q-1)=k
theorem DQp.push{g:Int->Int}(h:DQp A M k q g)(k0:0<=k)(hM:0<=M)(hq:q<=0\/A k<A (g (q-1))):DQa A M k (q+1) (snoc g q k):=by
  have hq0:=h.q0
  refine⟨by omega,fun i i0 i1=> ?_,fun i i0 i1=> ?_,fun j j0 j1=> ?_,?_⟩
  · by_cases e:i<q
    · rw [Zl e];have:=h.rng i i0 e;omega
    · rw [Zk e];omega
  · rw [Zl (show i<q by omega)]
    by_cases e:i+1<q
    · rw [Zl e];exact h.mon i i0 e
    · rw [Zk e]
      obtain rfl:i=q-1:=by omega
      have:=h.rng (q-1) i0 (by omega)
      omega
  · by_cases e:j=k
    · subst e;exact⟨q,by omega,by omega,by rw [Zk (by omega)];omega,by rw [Zk (by omega)];omega⟩
    · rcases h.dom j j0 (by omega) with⟨i,i0,i1,h1,h2⟩|h1
      · exact⟨i,i0,by omega,by rw [Zl i1];exact h1,by rw [Zl i1];exact h2⟩
      · exact⟨q,by omega,by omega,by rw [Zk (by omega)];omega,by rw [Zk (by omega)];exact h1⟩
  · rw [Zk (by omega)]
theorem DQa.up{A:Int->Int}{M k q:Int}{g:Int->Int}(h:DQa A M k q g):∀i:Nat,(i:Int)<q->g 0+i<=g i/\A (g i)<=A (g 0)
  |0,_=>⟨by simp,Int.le_refl _⟩
  | i+1,hi=>by
    have h1:=h.up i (by omega)
    have h2:=h.mon i (by omega) (by omega)
    rw [show((i+1:Nat):Int)=(i:Int)+1 by omega]
    omega
theorem DQa.keep{g:Int->Int}(h:DQa A M k q g)(k0:0<=k)(hg:¬g 0<k-M):DQ A M (k+1) q g:=by
  have hq:=h.q0
  refine⟨by omega,fun i i0 i1=> ?_,h.mon,fun j j0 j1=>h.dom j (by omega) (by omega)⟩
  have h1:=h.up i.toNat (by omega)
  rw [Int.toNat_of_nonneg i0] at h1
  have:=h.rng i i0 i1;have:=h.rng 0 (by omega) (by omega)
  omega
theorem DQa.more{g:Int->Int}(h:DQa A M k q g)(hM:0<=M)(hg:g 0<k-M):1<q:=by
  have:=h.q0;have hl:=h.last
  by_cases e:q=1
  · subst e;rw [show(1:Int)-1=0 by omega] at hl;omega
  · omega
theorem DQa.drop{p:Int}{g:Int->Int}(h:DQa A M k q g)(k0:0<=k)(hM:0<=M)(hg:g 0<k-M)(e:q-1=p:=by omega):DQ A M (k+1) p (fun i=>g (i+1)):=by
  subst e
  have hq:=h.q0
  refine⟨by omega,fun i i0 i1=> ?_,fun i i0 i1=>h.mon (i+1) (by omega) (by omega),fun j j0 j1=> ?_⟩
  · have h1:=h.up (i+1).toNat (by omega)
    rw [Int.toNat_of_nonneg (by omega)] at h1
    have h2:=h.rng (i+1) (by omega) (by omega);have h3:=h.rng 0 (by omega) (by omega)
    omega
  · obtain⟨i,i0,i1,h1,h2⟩:=h.dom j (by omega) (by omega)
    by_cases e:i=0
    · subst e;omega
    · exact⟨i-1,by omega,by omega,by rw [show i-1+1=i by omega];exact h1,by rw [show i-1+1=i by omega];exact h2⟩
theorem DQ.best{g:Int->Int}(h:DQ A M (k+1) q g)(k0:0<=k)(hM:0<=M):0<q/\max 0 (k-M)<=g 0/\g 0<=k/\∀j,max 0 (k-M)<=j->j<=k->A j<=A (g 0):=by
  obtain⟨i,i0,i1,_,_⟩:=h.dom k (by omega) (by omega)
  have hr:=h.rng 0 (by omega) (by omega)
  have up:∀i:Nat,(i:Int)<q->A (g i)<=A (g 0):=fun i=>by
    induction i with
    |zero=>intro _;exact Int.le_refl _
    | succ i ih=>
      intro hi
      have h1:=ih (by omega)
      have h2:=h.mon i (by omega) (by omega)
      rw [show((i+1:Nat):Int)=(i:Int)+1 by omega]
      omega
  refine⟨by omega,by omega,by omega,fun j j0 j1=> ?_⟩
  obtain⟨i,i0,i1,h1,h2⟩:=h.dom j (by omega) (by omega)
  have:=up i.toNat (by omega)
  rw [Int.toNat_of_nonneg i0] at this
  omega
theorem DQ.len{g:Int->Int}(h:DQ A M k q g)(k0:0<=k):q<=k:=by
  have up:∀i:Nat,(i:Int)<q->g 0+i<=g i:=fun i=>by
    induction i with
    |zero=>intro _;simp
    | succ i ih=>
      intro hi
      have h1:=ih (by omega)
      have h2:=h.mon i (by omega) (by omega)
      rw [show((i+1:Nat):Int)=(i:Int)+1 by omega]
      omega
  rcases Int.lt_or_le 0 q with hq|hq
  · have h1:=up (q-1).toNat (by omega)
    rw [Int.toNat_of_nonneg (by omega)] at h1
    have h2:=h.rng 0 (by omega) hq;have h3:=h.rng (q-1) (by omega) (by omega)
    omega
  · omega
theorem UG {b:Int} (hs:1<=s) (hM:0<=M) (r0:0<=r) (r1:r<s) (k0:0<=k) (b0:max 0 (k-M)<=b) (b1:b<=k) (hb:∀j,max 0 (k-M)<=j->j<=k->T (r+j*s)-j*y<=T (r+b*s)-b*y):
    R T s y M.toNat (r+k*s)=T (r+b*s)-b*y+k*y:=by
  have hks:0<=k*s:=Int.mul_nonneg k0 (by omega)
  apply Int.le_antisymm
  · obtain⟨n,h1,h2,h3⟩:=Zgw T s y M.toNat (r+k*s) (by omega)
    have hnk:(n:Int)<=k:=by
      rcases Int.lt_or_le k n with h|h
      · have:=Int.mul_le_mul_of_nonneg_right (show k+1<=(n:Int) by omega) (show 0<=s by omega)
        rw [Int.add_mul] at this;omega
      · exact h
    have h4:=hb (k-n) (by omega) (by omega)
    have e1:r+(k-n)*s=r+k*s-n*s:=by rw [Int.sub_mul];omega
    rw [e1,Int.sub_mul] at h4
    rw [h3];omega
  · have h1:=Zjf T s y M.toNat (k-b).toNat (r+k*s) (by omega) (by
      have:=Int.mul_le_mul_of_nonneg_right (show(((k-b).toNat:Nat):Int)<=k by omega) (show 0<=s by omega);omega)
    rw [Int.toNat_of_nonneg (by omega),Int.sub_mul,Int.sub_mul] at h1
    have e1:r+k*s-(k*s-b*s)=r+b*s:=by omega
    rw [e1] at h1;omega
def LY(T:Int->Int)(s y m n r k:Int)(g:Int->Int):Prop:=∀c,0<=c->c<n->(c%s<r\/(c%s=r/\c<r+k*s))->g c=R T s y m.toNat c
theorem Zdn(k0:0<=k)(hs:1<=s):k<=k*s:=by
  have:=Int.mul_le_mul_of_nonneg_left hs k0;omega
theorem T1{j:Int}(hs:1<=s)(r0:0<=r)(j0:0<=j)(jk:j<=k)(h:r+k*s<n):0<=j*s/\j*s<=k*s/\r+j*s<n:=by
  have h1:=Int.mul_nonneg j0 (show 0<=s by omega)
  have h2:=Int.mul_le_mul_of_nonneg_right jk (show 0<=s by omega)
  omega
theorem XU{j:Int}(j0:0<=j)(j1:j<=4001)(y0:0<=y)(y1:y<=1073741824):0<=j*y/\j*y<=4296041037824:=by
  have h1:=Int.mul_nonneg j0 y0
  have h2:=Int.mul_le_mul j1 y1 y0 (by omega)
  omega
theorem LY.start (T:Int->Int) {g:Int->Int} (h:∀c,0<=c->c<n->c%s<r->g c=R T s y m.toNat c):LY T s y m n r 0 g:=fun c c0 c1 hc=>by
  rcases hc with hc|⟨_,hc⟩
  · exact h c c0 c1 hc
  · by_cases hs:c%s<r
    · exact h c c0 c1 hs
    · exfalso
      rename_i hr
      have:c%s<=c:=by
        by_cases hs0:0<s
        · rcases Int.lt_or_le c s with h1|h1
          · rw [Int.emod_eq_of_lt c0 h1];omega
          · have:=Int.emod_lt_of_pos c hs0;omega
        · by_cases e:s=0
          · subst e;simp
          · have h1:=Int.emod_lt_of_pos c (show 0< -s by omega)
            rw [Int.emod_neg] at h1
            have h2:=Int.emod_emod_of_dvd c (show(-s)∣s from⟨-1,by omega⟩)
            rcases Int.lt_or_le c (-s) with h3|h3
            · have:=Int.emod_eq_of_lt c0 h3;rw [Int.emod_neg] at this;omega
            · omega
      omega
theorem LY.step {v:Int} {g:Int->Int} (h:LY T s y m n r k g) (hs:1<=s) (r0:0<=r) (r1:r<s) (k0:0<=k) (hv:R T s y m.toNat (r+k*s)=v):LY T s y m n r (k+1) (upd g (r+k*s) v):=fun c c0 c1 hc=>by
  by_cases e:c=r+k*s
  · subst e;rw [ZX,hv]
  · rw [upd_ne _ _ e]
    refine h c c0 c1 ?_
    rcases hc with hc|⟨hc,hc2⟩
    · exact .inl hc
    · refine .inr ⟨hc,?_⟩
      have h1:=Int.mul_ediv_add_emod c s
      rw [hc] at h1
      rcases Int.lt_trichotomy (c/s) k with h2|h2|h2
      · have:=Int.mul_le_mul_of_nonneg_left (show c/s+1<=k by omega) (show 0<=s by omega)
        rw [Int.mul_add,Int.mul_comm s k] at this;omega
      · rw [h2,Int.mul_comm] at h1;omega
      · have:=Int.mul_le_mul_of_nonneg_left (show k+1<=c/s by omega) (show 0<=s by omega)
        rw [Int.mul_add,Int.mul_comm s k] at this
        rw [Int.add_mul] at hc2;omega
theorem LY.fin{g:Int->Int}(h:LY T s y m n r k g)(hk:¬r+k*s<n):∀c,0<=c->c<n->c%s<r+1->g c=R T s y m.toNat c:=fun c c0 c1 hc=>h c c0 c1 (by omega)
structure Its where
  n:Int
  S:Int->Int
  V:Int->Int
  M:Int->Int
def Ys(s v m:Int):Prop:=1<=s/\s<=4000/\0<=v/\v<=1073741824/\0<=m/\m<=1000
def Its.each(t:Its)(i:Int):Prop:=Ys (t.S i) (t.V i) (t.M i)
structure Its.Ok (t:Its) (cap:Int):Prop where
  n:t.n<=20
  c0:0<=cap
  c1:cap<=4000
  all:∀i,0<=i->i<t.n->t.each i
def KT(t:Its):Nat->Int->Int
  |0=>fun _=>0
  |k+1=>R (KT t k) (t.S (t.n-1-k)) (t.V (t.n-1-k)) (t.M (t.n-1-k)).toNat
def KI(t:Its)(i:Int):Int->Int:=KT t (t.n-i).toNat
theorem Zbl(t:Its):KI t t.n=fun _=>0:=by unfold KI;rw [show(t.n-t.n).toNat=0 by omega];rfl
theorem Kk(t:Its)(i0:0<=i)(i1:i<t.n):KI t i=R (KI t (i+1)) (t.S i) (t.V i) (t.M i).toNat:=by
  unfold KI
  rw [show(t.n-i).toNat=(t.n-(i+1)).toNat+1 by omega]
  show R _ _ _ _=_
  rw [show t.n-1-(((t.n-(i+1)).toNat:Nat):Int)=i by omega]
theorem ZaE{t:Its}{cap:Int}(h:t.Ok cap):∀k:Nat,(k:Int)<=t.n->∀c,0<=c->0<=KT t k c/\KT t k c<=c*1073741824
  |0,_,c,hc=>⟨Int.le_refl _,by show 0<=_;omega⟩
  | k+1,hk,c,hc=>by
    have he:=h.all (t.n-1-k) (by omega) (by omega)
    unfold Its.each Ys at he
    exact Zgx he.1 he.2.2.1 he.2.2.2.1 (fun c c0=>ZaE h k (by omega) c c0) _ c hc
theorem Xa{t:Its}(h:t.Ok cap)(i0:0<=i)(i1:i<=t.n){c:Int}(c0:0<=c):0<=KI t i c/\KI t i c<=c*1073741824:=ZaE h _ (by omega) c c0
def KU(t:Its)(x:Int->Int)(i:Nat):Int:=Zh (fun k=>x k*t.S k) i
def KW(t:Its)(x:Int->Int)(i:Nat):Int:=Zh (fun k=>x k*t.V k) i
def KX(t:Its)(cap:Int)(x:Int->Int)(n:Int):Prop:=∀i,0<=i->i<n->0<=x i/\x i<=t.M i/\x i*t.S i<=cap-KU t x i.toNat/\KI t (i+1) (cap-KU t x i.toNat-x i*t.S i)+x i*t.V i=KI t i (cap-KU t x i.toNat)/\
  ∀j,x i<j->j<=t.M i->j*t.S i<=cap-KU t x i.toNat->KI t (i+1) (cap-KU t x i.toNat-j*t.S i)+j*t.V i≠KI t i (cap-KU t x i.toNat)
theorem Zcg(t:Its)(x:Int->Int)(h:0<=i):KU t x (i+1).toNat=KU t x i.toNat+x i*t.S i:=Z2 _ h
theorem Zgy(t:Its)(x:Int->Int)(h:0<=i):KW t x (i+1).toNat=KW t x i.toNat+x i*t.V i:=Z2 _ h
theorem Tw(t:Its){z:Int->Int}{n:Nat}(h:∀i,0<=i->i<(n:Int)->x i=z i):KU t x n=KU t z n:=Zj fun i i0 i1=>by rw [h i i0 i1]
theorem KX.snoc{t:Its}{cap:Int}{x:Int->Int}{i n:Int}(h:KX t cap x i)(i0:0<=i)(n0:0<=n)(n1:n<=t.M i)(n2:n*t.S i<=cap-KU t x i.toNat)(he:KI t (i+1) (cap-KU t x i.toNat-n*t.S i)+n*t.V i=KI t i (cap-KU t x i.toNat))
    (ha:∀j,n<j->j<=t.M i->j*t.S i<=cap-KU t x i.toNat->KI t (i+1) (cap-KU t x i.toNat-j*t.S i)+j*t.V i≠KI t i (cap-KU t x i.toNat)):KX t cap (snoc x i n) (i+1):=fun k k0 k1=>by
  have hu:KU t (Gw.snoc x i n) k.toNat=KU t x k.toNat:=Tw t fun q q0 q1=>Zl (by omega)
  rw [hu]
  by_cases e:k<i
  · rw [Zl e];exact h k k0 e
  · obtain rfl:k=i:=by omega
    rw [Zk (by omega)];exact⟨n0,n1,n2,he,ha⟩
theorem Kj(t:Its)(x:Int->Int)(n:Int)(i0:0<=i):KU t (snoc x i n) (i+1).toNat=KU t x i.toNat+n*t.S i:=by
  rw [Zcg t _ i0,Zk (by omega)]
  congr 1
  exact Tw t fun q q0 q1=>Zl (by omega)
theorem ZgU{t:Its}(h:t.Ok cap){c:Int}(i0:0<=i)(i1:i<t.n)(c0:0<=c):∃j,0<=j/\j<=t.M i/\j*t.S i<=c/\KI t (i+1) (c-j*t.S i)+j*t.V i=KI t i c:=by
  have he:=h.all i i0 i1
  unfold Its.each Ys at he
  obtain⟨j,h1,h2,h3⟩:=Zgw (KI t (i+1)) (t.S i) (t.V i) (t.M i).toNat c c0
  exact⟨j,by omega,by omega,h2,by rw [Kk t i0 i1,h3]⟩
theorem KX.same{t:Its}{cap:Int}{x z:Int->Int}:∀{n:Nat},KX t cap x n->KX t cap z n->∀i,0<=i->i<(n:Int)->x i=z i
  |0,_,_,i,_,_=>by omega
  | n +1,hx,hz,i,i0,i1=>by
    have ih:=KX.same (n:=n) (fun i a b=>hx i a (by omega)) (fun i a b=>hz i a (by omega))
    by_cases e:i=n
    · have hu:KU t x i.toNat=KU t z i.toNat:=Tw t fun k k0 k1=>ih k k0 (by omega)
      obtain⟨a1,a2,a3,a4,a5⟩:=hx i i0 i1
      obtain⟨b1,b2,b3,b4,b5⟩:=hz i i0 i1
      rw [hu] at a3 a4 a5
      rcases Int.lt_trichotomy (x i) (z i) with h|h|h
      · exact absurd b4 (a5 _ h b2 b3)
      · exact h
      · exact absurd a4 (b5 _ h a2 a3)
    · exact ih i i0 (by omega)
theorem KX.sum{t:Its}{cap:Int}(hc:0<=cap){x:Int->Int}:∀{n:Nat},KX t cap x n->(n:Int)<=t.n->KU t x n<=cap/\KW t x n+KI t n (cap-KU t x n)=KI t 0 cap
  |0,_,_=>by simp [KU,KW,Zh];exact hc
  | n+1,h,hn=>by
    obtain⟨a1,a2⟩:=KX.sum hc (n:=n) (fun i x y=>h i x (by omega)) (by omega)
    obtain⟨b1,b2,b3,b4,_⟩:=h n (by omega) (by omega)
    have e1:=Zcg t x (i:=n) (by omega)
    have e2:=Zgy t x (i:=n) (by omega)
    rw [Int.toNat_natCast] at b3 b4
    rw [show((n:Int)+1).toNat=n+1 by omega,Int.toNat_natCast] at e1 e2
    rw [e1,e2,show((n+1:Nat):Int)=(n:Int)+1 by omega,show cap-(KU t x n+x n*t.S n)=cap-KU t x n-x n*t.S n by omega]
    omega
theorem KX.worth{t:Its}(hc:0<=cap)(hn:0<=t.n)(h:KX t cap x t.n):KU t x t.n.toNat<=cap/\KW t x t.n.toNat=KI t 0 cap:=by
  obtain⟨h1,h2⟩:=KX.sum hc (n:=t.n.toNat) (by rw [Int.toNat_of_nonneg hn];exact h) (by omega)
  rw [Int.toNat_of_nonneg hn,Zbl] at h2
  exact⟨h1,by simpa using h2⟩
theorem Rw(f:Int->Int)(n:Nat):Zh f (n+1)=f 0+Zh (fun j=>f (j+1)) n:=by
  induction n with
  |zero=>simp [Zh]
  | succ n ih=>
    simp only [Zh] at*
    rw [ih,show((n+1:Nat):Int)=(n:Int)+1 by omega];omega
theorem Zfa{t:Its}(hS:∀i,0<=i->i<t.n->1<=t.S i){x:Int->Int}(hx:∀i,0<=i->i<t.n->0<=x i/\x i<=t.M i):∀(k:Nat) (c:Int),(k:Int)<=t.n->Zh (fun j=>x (t.n-k+j)*t.S (t.n-k+j)) k<=c->Zh (fun j=>x (t.n-k+j)*t.V (t.n-k+j)) k<=KT t k c
  |0,c,_,_=>by simp [Zh,KT]
  | k+1,c,hk,hc=>by
    rw [Rw] at hc⊢
    have e1:∀f:Int->Int,Zh (fun j=>f (t.n-((k+1:Nat):Int)+(j+1))) k=Zh (fun j=>f (t.n-k+j)) k:=fun f=>Zj fun j _ _=>by congr 1;omega
    rw [e1 (fun i=>x i*t.S i),show t.n-((k+1:Nat):Int)+0=t.n-1-k by omega] at hc
    rw [e1 (fun i=>x i*t.V i),show t.n-((k+1:Nat):Int)+0=t.n-1-k by omega]
    have h1:=hx (t.n-1-k) (by omega) (by omega)
    have hs:0<=Zh (fun j=>x (t.n-k+j)*t.S (t.n-k+j)) k:=Ym fun j j0 j1=>Int.mul_nonneg (hx _ (by omega) (by omega)).1 (by have:=hS (t.n-k+j) (by omega) (by omega);omega)
    have ih:=Zfa hS hx k (c-x (t.n-1-k)*t.S (t.n-1-k)) (by omega) (by omega)
    have h2:=Zjf (KT t k) (t.S (t.n-1-k)) (t.V (t.n-1-k)) (t.M (t.n-1-k)).toNat (x (t.n-1-k)).toNat c (by omega) (by rw [Int.toNat_of_nonneg h1.1];omega)
    rw [Int.toNat_of_nonneg h1.1] at h2
    show _<=R _ _ _ _ _
    omega
theorem Zjg{t:Its}(hn:0<=t.n)(hS:∀i,0<=i->i<t.n->1<=t.S i)(hx:∀i,0<=i->i<t.n->0<=x i/\x i<=t.M i)(hc:KU t x t.n.toNat<=cap):KW t x t.n.toNat<=KI t 0 cap:=by
  have:=Zfa hS hx t.n.toNat cap (by omega)
  rw [Int.toNat_of_nonneg hn] at this
  simp only [Int.sub_self,Int.zero_add] at this
  have h2:=this hc
  unfold KI;rwa [Int.sub_zero]
end Go.Proofs.Gw
namespace Go.Proofs.Gw
open Go Go.RowKit
variable {i k n:Int} {H N W:Int->Int}
def okF(kind k c:Int):Prop:=(kind=0/\k=0)\/(kind=1/\1<=k/\k<=100)\/(kind=2/\1<=k/\k<=c.tdiv 2)
def dfv(kind k x c:Int):Int:=
  if kind=0 then x else if kind=1 then(if((k+1)*x).tmod c=0 then k*x else((k+1)*x).tdiv c*c) else(if c-k<x then c else if x<k then 0 else x)
structure DualV (P:Program) (t:TypeId) (u:Value) (kind k:Int):Prop where
  valid:∃f,ZbG P t "fretsaw/rectbound.valid" f/\∀(c:Int) (w0:World),0<=c->c<=1000000->Calls P f [u,.int .i64 c].toArray w0 fun e w=>∃v,e= .returned v/\v=B (okF kind k c)/\Sat w0 w []
  value:∃f,ZbG P t "fretsaw/rectbound.value" f/\∀(x c:Int) (w0:World),okF kind k c->0<=x->x<=c->1<=c->c<=4000->Calls P f [u,.int .i64 x,.int .i64 c].toArray w0 fun e w=>∃v,e= .returned v/\v= .int .i64 (dfv kind k x c)/\Sat w0 w []
def ApplyR(kind k x c a e:Int):Prop:=(1<=c/\c<=4000/\okF kind k c/\0<=x/\x<=c/\a=dfv kind k x c/\e=0)\/(¬(1<=c/\c<=4000/\okF kind k c/\0<=x/\x<=c)/\a=0/\e=1)
theorem ApplyR.val{kind x c a e:Int}(h:ApplyR kind k x c a e)(h1:1<=c)(h2:c<=4000)(h3:okF kind k c)(h4:0<=x)(h5:x<=c):a=dfv kind k x c:=by
  rcases h with⟨_,_,_,_,_,a6,_⟩|⟨a1,_⟩
  · exact a6
  · exact absurd ⟨h1,h2,h3,h4,h5⟩ a1
theorem ApplyR.same{kind x c a e a' e':Int}(h:ApplyR kind k x c a e)(h':ApplyR kind k x c a' e'):a=a'/\e=e':=by
  rcases h with⟨a1,a2,a3,a4,a5,a6,a7⟩|⟨a1,a2,a3⟩<;>rcases h' with⟨b1,b2,b3,b4,b5,b6,b7⟩|⟨b1,b2,b3⟩
  · omega
  · exact absurd ⟨a1,a2,a3,a4,a5⟩ b1
  · exact absurd ⟨b1,b2,b3,b4,b5⟩ a1
  · omega
def ZM(W H N:Int->Int):Int->Value:=fun k=>if k%3=0 then .int .i64 (W (k/3)) else if k%3=1 then .int .i64 (H (k/3)) else .int .i64 (N (k/3))
theorem ZfR(W H N:Int->Int)(h:k=3*i):ZM W H N k= .int .i64 (W i):=by
  subst h;unfold ZM;rw [if_pos (by omega)];congr 2;omega
theorem ZfQ(W H N:Int->Int)(h:k=3*i+1):ZM W H N k= .int .i64 (H i):=by
  subst h;unfold ZM;rw [if_neg (by omega),if_pos (by omega)];congr 2;omega
theorem ZfP(W H N:Int->Int)(h:k=3*i+2):ZM W H N k= .int .i64 (N i):=by
  subst h;unfold ZM;rw [if_neg (by omega),if_neg (by omega)];congr 2;omega
theorem Xx(W H N:Int->Int)(h:k=3*i):∀(j:Nat) u, [Value.int .i64 (W i),.int .i64 (H i),.int .i64 (N i)][j]? =some u->ZM W H N (k+j)=u:=fun j u hu=>by
  rcases j with _|_|_|j
  · cases hu;exact ZfR W H N (by omega)
  · cases hu;exact ZfQ W H N (by omega)
  · cases hu;exact ZfP W H N (by omega)
  · simp at hu
theorem Tk(W H N:Int->Int)(k:Int):(ZM W H N k).oneCell'=true:=by
  unfold ZM
  split
  · rfl
  · split<;>rfl
theorem VH{W' H' N':Int->Int}(h:∀k,0<=k->k<n->W k=W' k/\H k=H' k/\N k=N' k):∀k,0<=k->k<n*(3:Nat)->ZM W H N k=ZM W' H' N' k:=fun k k0 k1=>by
  obtain⟨h1,h2,h3⟩:=h (k/3) (by omega) (by omega)
  unfold ZM
  rw [h1,h2,h3]
structure DAt (w:World) (v:Value) (n:Int) (W H N:Int->Int):Prop where
  row:Row w v 3 n (ZM W H N)
  bw:∀i,-9223372036854775808<=W i/\W i<=9223372036854775807
  bh:∀i,-9223372036854775808<=H i/\H i<=9223372036854775807
  bn:∀i,-9223372036854775808<=N i/\N i<=9223372036854775807
theorem DAt.below{w w':World}{v:Value}{n:Int}{W H N:Int->Int}(h:DAt w v n W H N)(hb:Below w.heap.size w w'):DAt w' v n W H N:=⟨h.row.below hb,h.bw,h.bh,h.bn⟩
theorem DAt.of{w:World}{v:Value}{c:Int->Value}(h:Row w v 3 n c)(e:∀i,0<=i->i<n->c (3*i)= .int .i64 (W i)/\c (3*i+1)= .int .i64 (H i)/\c (3*i+2)= .int .i64 (N i))
    (bw:∀i,-9223372036854775808<=W i/\W i<=9223372036854775807) (bh:∀i,-9223372036854775808<=H i/\H i<=9223372036854775807) (bn:∀i,-9223372036854775808<=N i/\N i<=9223372036854775807):DAt w v n W H N:=
  ⟨h.congr fun k k0 k1=>by
    obtain⟨e0,e1,e2⟩:=e (k/3) (by omega) (by omega)
    unfold ZM
    by_cases h0:k%3=0
    · rw [if_pos h0,<-e0];congr 1;omega
    · rw [if_neg h0]
      by_cases h1:k%3=1
      · rw [if_pos h1,<-e1];congr 1;omega
      · rw [if_neg h1,<-e2];congr 1;omega,bw,bh,bn⟩
theorem To(W H N:Int->Int)(n a b c:Int):cat (n*3) (ZM W H N) (ZM (fun _=>a) (fun _=>b) (fun _=>c))=ZM (snoc W n a) (snoc H n b) (snoc N n c):=by
  funext k
  unfold cat ZM snoc
  by_cases h:k<n*3
  · have:k/3<n:=by omega
    simp only [if_pos h,if_pos this]
  · have:¬k/3<n:=by omega
    have e:(k-n*3)%3=k%3:=by omega
    simp only [if_neg h,if_neg this,e]
end Go.Proofs.Gw
namespace Go.Proofs.Gw
open Go Go.RowKit
structure Sht where
  w:Int
  h:Int
  kf:Int
structure Dem where
  n:Int
  W:Int->Int
  H:Int->Int
  N:Int->Int
structure Crt where
  a:Int
  p:Int
  b:Int
  q:Int
def Dem.each(d:Dem)(i:Int):Prop:=1<=d.W i/\d.W i<=2000/\1<=d.H i/\d.H i<=2000/\0<=d.N i/\d.N i<=1000
structure DOk (d:Dem) (s:Sht):Prop where
  few:d.n<=20
  w1:1<=s.w
  w2:s.w<=2000
  h1:1<=s.h
  h2:s.h<=2000
  k1:0<=s.kf
  k2:s.kf<=50
  all:∀i,0<=i->i<d.n->d.each i
def Dem.great(d:Dem)(s:Sht)(i:Int):Prop:=0<d.N i/\(s.w<d.W i\/s.h<d.H i)
def Vd(d:Dem)(s:Sht):Prop:=∃i,0<=i/\i<d.n/\d.great s i
def Crt.ok(x:Crt)(s:Sht):Prop:=okF x.a x.p (s.w+s.kf)/\okF x.b x.q (s.h+s.kf)
def Crt.f(x:Crt)(s:Sht)(n:Int):Int:=dfv x.a x.p n (s.w+s.kf)
def Crt.g(x:Crt)(s:Sht)(n:Int):Int:=dfv x.b x.q n (s.h+s.kf)
def Crt.term(x:Crt)(d:Dem)(s:Sht)(i:Int):Int:=d.N i*x.f s (d.W i+s.kf)*x.g s (d.H i+s.kf)
def Crt.top(x:Crt)(s:Sht):Int:=x.f s (s.w+s.kf)*x.g s (s.h+s.kf)
def Crt.sum(x:Crt)(d:Dem)(s:Sht)(n:Nat):Int:=Zh (x.term d s) n
def Crt.val(x:Crt)(d:Dem)(s:Sht):Int:=(x.sum d s d.n.toNat+x.top s-1).tdiv (x.top s)
def ValueR(x:Crt)(d:Dem)(s:Sht)(a e:Int):Prop:=
  (¬(DOk d s/\x.ok s)/\a=0/\e=1)\/(DOk d s/\x.ok s/\Vd d s/\a=0/\e=19)\/(DOk d s/\x.ok s/\¬Vd d s/\a=x.val d s/\e=0)
theorem ValueR.same{x:Crt}{d:Dem}{s:Sht}{a e a' e':Int}(h:ValueR x d s a e)(h':ValueR x d s a' e'):a=a'/\e=e':=by
  rcases h with⟨a1,a2,a3⟩|⟨a1,a2,a3,a4,a5⟩|⟨a1,a2,a3,a4,a5⟩<;>rcases h' with⟨b1,b2,b3⟩|⟨b1,b2,b3,b4,b5⟩|⟨b1,b2,b3,b4,b5⟩<;>first
    |omega
    |exact absurd ⟨b1,b2⟩ a1
    |exact absurd ⟨a1,a2⟩ b1
    |exact absurd a3 b3
    |exact absurd b3 a3
end Go.Proofs.Gw
namespace Go.Proofs.Gw
open Go Go.RowKit
structure FL (l:List (Int×Int)) (n:Int) (K A:Int->Int):Prop where
  len:(l.length:Int)=n
  get:∀(k:Nat) x,l[k]? =some x->K k=x.1/\A k=x.2
theorem FL.snoc {l:List (Int×Int)} {n:Int} {K A:Int->Int} (h:FL l n K A) (a b:Int):FL (l++ [(a,b)]) (n+1) (snoc K n a) (snoc A n b):=by
  refine⟨by simp [<-h.len],fun k x hx=> ?_⟩
  have hl:=h.len
  rw [List.getElem?_append] at hx
  by_cases hk:k<l.length
  · rw [if_pos hk] at hx
    rw [Zl (by omega),Zl (by omega)];exact h.get k x hx
  · rw [if_neg hk] at hx
    rw [Zk (by omega),Zk (by omega)]
    have:k-l.length=0:=by
      rcases Nat.eq_zero_or_pos (k-l.length) with h|h
      · exact h
      · obtain⟨q,hq⟩:∃q,k-l.length=q+1:=⟨k-l.length-1,by omega⟩
        rw [hq] at hx;simp at hx
    rw [this] at hx
    simp at hx
    subst hx;exact⟨rfl,rfl⟩
theorem FL.at{l:List (Int×Int)}{n:Int}{K A:Int->Int}(h:FL l n K A){k:Int}(h0:0<=k)(h1:k<n):l[k.toNat]? =some (K k,A k):=by
  have hl:=h.len
  have hk:k.toNat<l.length:=by omega
  have:=h.get k.toNat _ (List.getElem?_eq_getElem hk)
  rw [Int.toNat_of_nonneg h0] at this
  rw [List.getElem?_eq_getElem hk,this.1,this.2]
theorem FL.congr{l m:List (Int×Int)}{n:Int}{K A:Int->Int}(h:FL l n K A)(e:l=m):FL m n K A:=e▸h
def base(k:Nat):List (Int×Int):=(0,0)::(List.range k).map fun i:Nat=>(1,(i:Int)+1)
def CandL(S:Int->Prop)(l:List (Int×Int)):Prop:=∃m:List Int,l=base 5++m.map (fun a=>((2:Int),a))/\m.Pairwise (· < ·)/\∀a,a∈m↔S a
theorem CandL.same{S:Int->Prop}{l l':List (Int×Int)}(h:CandL S l)(h':CandL S l'):l=l':=by
  obtain⟨m,rfl,h1,h2⟩:=h
  obtain⟨m',rfl,h3,h4⟩:=h'
  rw [Uh h1 h3 fun a=>(h2 a).trans (h4 a).symm]
theorem CandL.congr{S S':Int->Prop}{l:List (Int×Int)}(h:CandL S l)(e:∀a,S a↔S' a):CandL S' l:=by
  have:S=S':=funext fun a=>propext (e a)
  exact this▸h
theorem CandL.start:CandL (fun _=>False) (base 5):=⟨[],by simp,.nil,by simp⟩
theorem CandL.snoc{S:Int->Prop}{l:List (Int×Int)}(h:CandL S l){x:Int}(hx:∀a,S a->a<x):CandL (fun a=>S a\/a=x) (l++ [(2,x)]):=by
  obtain⟨m,rfl,h1,h2⟩:=h
  refine⟨m++ [x],by simp,List.pairwise_append.2 ⟨h1,List.pairwise_singleton _ _,fun a ha b hb=> ?_⟩,fun a=> ?_⟩
  · rw [List.mem_singleton] at hb;subst hb;exact hx a ((h2 a).1 ha)
  · rw [List.mem_append,List.mem_singleton,h2]
theorem CandL.len{S:Int->Prop}{l:List (Int×Int)}(h:CandL S l):6<=l.length/\l[0]? =some (0,0):=by
  obtain⟨m,rfl,_⟩:=h
  exact⟨by simp [base],rfl⟩
theorem CandL.ok{S:Int->Prop}{l:List (Int×Int)}(h:CandL S l){c:Int}(hS:∀a,S a->1<=a/\a<=c.tdiv 2){k:Nat}{x:Int×Int}(hx:l[k]? =some x):okF x.1 x.2 c:=by
  obtain⟨m,rfl,_,h2⟩:=h
  have:=List.mem_of_getElem? hx
  rcases List.mem_append.1 this with h|h
  · simp only [base,List.mem_cons,List.mem_map,List.mem_range] at h
    rcases h with rfl|⟨i,hi,rfl⟩
    · exact .inl ⟨rfl,rfl⟩
    · exact .inr (.inl ⟨rfl,by dsimp only;omega,by dsimp only;omega⟩)
  · obtain⟨a,ha,rfl⟩:=List.mem_map.1 h
    exact .inr (.inr ⟨rfl,hS a ((h2 a).1 ha)⟩)
noncomputable def V7(S:Int->Prop):List (Int×Int):=by
  classical exact if h:∃l,CandL S l then Classical.choose h else []
theorem CandL.eq{S:Int->Prop}{l:List (Int×Int)}(h:CandL S l):l=V7 S/\CandL S (V7 S):=by
  have h2:CandL S (V7 S):=by
    unfold V7
    rw [dif_pos ⟨l,h⟩]
    exact Classical.choose_spec (p:=CandL S) ⟨l,h⟩
  exact⟨h.same h2,h2⟩
def Kept(f g:Int->Int)(n:Int):Prop:=∀a,1<=a->((∃k,0<=k/\k<n/\g k=a)↔∃k,0<=k/\k<n/\f k=a)
theorem Kept.refl(f:Int->Int)(n:Int):Kept f f n:=fun _ _=>Iff.rfl
theorem Kept.trans{f g k:Int->Int}{n:Int}(h:Kept f g n)(h2:Kept g k n):Kept f k n:=fun a ha=>(h2 a ha).trans (h a ha)
def ZgR(d:Dem)(W:Int->Int)(kf i:Int):Int->Prop:=fun a=>∃k,0<=k/\k<i/\0<d.N k/\W k+kf=a
def SzInv(f:Int->Int)(m:Int)(d:Dem)(W:Int->Int)(kf i:Int):Prop:=∀a,(∃k,0<=k/\k<m/\f k=a)↔ZgR d W kf i a
theorem SzInv.start(f:Int->Int)(d:Dem)(W:Int->Int)(kf:Int):SzInv f 0 d W kf 0:=fun a=>⟨fun⟨k,h0,h1,_⟩=>by omega,fun⟨k,h0,h1,_⟩=>by omega⟩
theorem SzInv.more{f:Int->Int}{m:Int}{d:Dem}{W:Int->Int}{kf i:Int}(h:SzInv f m d W kf i)(hm:0<=m)(hi:0<=i)(hN:0<d.N i):SzInv (snoc f m (W i+kf)) (m+1) d W kf (i+1):=fun a=>by
  constructor
  · rintro⟨k,k0,k1,e⟩
    by_cases hk:k<m
    · rw [Zl hk] at e
      obtain⟨j,j0,j1,j2⟩:=(h a).1 ⟨k,k0,hk,e⟩
      exact⟨j,j0,by omega,j2⟩
    · rw [Zk hk] at e
      exact⟨i,hi,by omega,hN,e⟩
  · rintro⟨j,j0,j1,j2,e⟩
    by_cases hj:j=i
    · subst hj;exact⟨m,hm,by omega,by rw [Zk (by omega)];exact e⟩
    · obtain⟨k,k0,k1,e'⟩:=(h a).2 ⟨j,j0,by omega,j2,e⟩
      exact⟨k,k0,by omega,by rw [Zl k1];exact e'⟩
def ZcV(d:Dem)(W:Int->Int)(kf c:Int):Int->Prop:=fun a=>1<=a/\a<=c.tdiv 2/\ZgR d W kf d.n a
def VV(d:Dem)(s:Sht)(x y:Int×Int):Int:=Crt.val ⟨x.1,x.2,y.1,y.2⟩ d s
noncomputable def LA(d:Dem)(s:Sht):List (Int×Int):=V7 (ZcV d d.W s.kf (s.w+s.kf))
noncomputable def LB(d:Dem)(s:Sht):List (Int×Int):=V7 (ZcV d d.H s.kf (s.h+s.kf))
theorem ValueR.val{x:Crt}{d:Dem}{s:Sht}{a e:Int}(h:ValueR x d s a e)(hk:DOk d s)(hx:x.ok s)(hg:¬Vd d s):a=x.val d s:=by
  rcases h with⟨a1,_⟩|⟨_,_,a1,_⟩|⟨_,_,_,a1,_⟩
  · exact absurd ⟨hk,hx⟩ a1
  · exact absurd a1 hg
  · exact a1
def before(i j I J:Int):Prop:=i<I\/(i=I/\j<J)
structure Top (V:Int×Int->Int×Int->Int) (la lb:List (Int×Int)) (I J best:Int) (x y:Int×Int) (i0 j0:Nat):Prop where
  x0:la[i0]? =some x
  y0:lb[j0]? =some y
  at0:before i0 j0 I J
  val:best=V x y
  le:∀(i j:Nat) a b,la[i]? =some a->lb[j]? =some b->before i j I J->V a b<=best
  lt:∀(i j:Nat) a b,la[i]? =some a->lb[j]? =some b->before i j i0 j0->V a b<best
def Best1(V:Int×Int->Int×Int->Int)(la lb:List (Int×Int))(I J best:Int)(x y:Int×Int):Prop:=
  (I=0/\J=0/\(best= -1\/(best=V x y/\la[0]? =some x/\lb[0]? =some y)))\/∃i0 j0,Top V la lb I J best x y i0 j0
def BestOf(V:Int×Int->Int×Int->Int)(la lb:List (Int×Int))(best:Int)(x y:Int×Int):Prop:=∃i0 j0,Top V la lb la.length 0 best x y i0 j0
section
variable {V:Int×Int->Int×Int->Int} {la lb:List (Int×Int)} {I J best:Int} {x y a b:Int×Int}
theorem Zav{i j:Nat}{I J:Int}(h:before i j I (J+1)):before i j I J\/((i:Int)=I/\(j:Int)=J):=by
  unfold before at*;omega
theorem Best1.more(h:Best1 V la lb I J best x y)(hI:0<=I)(hJ:0<=J)(ha:la[I.toNat]? =some a)(hb:lb[J.toNat]? =some b)(hv:best<V a b):Best1 V la lb I (J+1) (V a b) a b:=by
  refine .inr ⟨I.toNat,J.toNat,ha,hb,by unfold before;omega,rfl,fun i j a' b' ha' hb' hbf=> ?_,fun i j a' b' ha' hb' hbf=> ?_⟩
  · rcases Zav hbf with hbf|⟨e1,e2⟩
    · rcases h with⟨rfl,rfl,_⟩|⟨i0,j0,h⟩
      · unfold before at hbf;omega
      · have:=h.le i j a' b' ha' hb' hbf;omega
    · have e1':i=I.toNat:=by omega
      have e2':j=J.toNat:=by omega
      subst e1';subst e2'
      rw [ha] at ha';rw [hb] at hb'
      cases ha';cases hb';exact Int.le_refl _
  · rw [Int.toNat_of_nonneg hI,Int.toNat_of_nonneg hJ] at hbf
    rcases h with⟨rfl,rfl,_⟩|⟨i0,j0,h⟩
    · unfold before at hbf;omega
    · have:=h.le i j a' b' ha' hb' hbf;omega
theorem Best1.row(h:Best1 V la lb I lb.length best x y)(hl:1<=lb.length):Best1 V la lb (I+1) 0 best x y:=by
  rcases h with⟨_,h,_⟩|⟨i0,j0,h⟩
  · omega
  · refine .inr ⟨i0,j0,h.x0,h.y0,?_,h.val,fun i j a' b' ha' hb' hbf=>h.le i j a' b' ha' hb' ?_,h.lt⟩
    · have:=h.at0;unfold before at*;omega
    · have:=(List.getElem?_eq_some_iff.1 hb').1
      unfold before at*;omega
theorem Best1.fin(h:Best1 V la lb la.length 0 best x y)(hl:1<=la.length):BestOf V la lb best x y:=by
  rcases h with⟨h,_⟩|h
  · omega
  · exact h
theorem BestOf.same{best':Int}{x' y':Int×Int}(h:BestOf V la lb best x y)(h':BestOf V la lb best' x' y'):best=best'/\x=x'/\y=y':=by
  obtain⟨i0,j0,h⟩:=h
  obtain⟨i1,j1,h'⟩:=h'
  have hi0:=(List.getElem?_eq_some_iff.1 h.x0).1
  have hi1:=(List.getElem?_eq_some_iff.1 h'.x0).1
  have e:best=best':=by
    have h1:=h.le i1 j1 x' y' h'.x0 h'.y0 (by unfold before;omega)
    have h2:=h'.le i0 j0 x y h.x0 h.y0 (by unfold before;omega)
    have h3:=h.val;have h4:=h'.val;omega
  have ne1:¬before i0 j0 i1 j1:=fun hb=>by
    have:=h'.lt i0 j0 x y h.x0 h.y0 hb;have:=h.val;omega
  have ne2:¬before i1 j1 i0 j0:=fun hb=>by
    have:=h.lt i1 j1 x' y' h'.x0 h'.y0 hb;have:=h'.val;omega
  have e1:i0=i1:=by unfold before at*;omega
  have e2:j0=j1:=by unfold before at*;omega
  subst e1;subst e2
  have ex:=h.x0.symm.trans h'.x0
  have ey:=h.y0.symm.trans h'.y0
  exact⟨e,Option.some.inj ex,Option.some.inj ey⟩
theorem BestOf.is(h:BestOf V la lb best x y):best=V x y/\∃i j:Nat,la[i]? =some x/\lb[j]? =some y:=by
  obtain⟨i0,j0,h⟩:=h
  exact⟨h.val,i0,j0,h.x0,h.y0⟩
end
def BestR (d:Dem) (s:Sht) (a:Int) (x y:Int×Int) (e:Int):Prop:=
  (¬DOk d s/\a=0/\x=(0,0)/\y=(0,0)/\e=1)\/(DOk d s/\Vd d s/\a=0/\x=(0,0)/\y=(0,0)/\e=19)\/
    (DOk d s/\¬Vd d s/\e=0/\CandL (ZcV d d.W s.kf (s.w+s.kf)) (LA d s)/\CandL (ZcV d d.H s.kf (s.h+s.kf)) (LB d s)/\BestOf (VV d s) (LA d s) (LB d s) a x y)
theorem BestR.same{d:Dem}{s:Sht}{a a' e e':Int}{x y x' y':Int×Int}(h:BestR d s a x y e)(h':BestR d s a' x' y' e'):a=a'/\e=e'/\x=x'/\y=y':=by
  rcases h with⟨a1,a2,a3,a4,a5⟩|⟨a1,a2,a3,a4,a5,a6⟩|⟨a1,a2,a3,_,_,a4⟩<;>rcases h' with⟨b1,b2,b3,b4,b5⟩|⟨b1,b2,b3,b4,b5,b6⟩|⟨b1,b2,b3,_,_,b4⟩<;>first
    |contradiction
    |exact⟨by omega,by omega,by rw [a3,b3],by rw [a4,b4]⟩
    |exact⟨by omega,by omega,by rw [a4,b4],by rw [a5,b5]⟩
    |exact⟨(a4.same b4).1,by omega,(a4.same b4).2⟩
end Go.Proofs.Gw
namespace Go.Proofs.Gw
open Go Go.RowKit
variable {a c e k kind x:Int}
structure DMore (d d':Dem):Prop where
  n:d'.n=d.n
  W:∀i,0<=i->i<d.n->d.W i<=d'.W i
  H:∀i,0<=i->i<d.n->d.H i<=d'.H i
  N:∀i,0<=i->i<d.n->d.N i<=d'.N i
theorem CandL.one{S:Int->Prop}{l:List (Int×Int)}(h:CandL S l):l[1]? =some (1,1):=by
  obtain⟨m,rfl,_⟩:=h
  rfl
theorem BestR.ok{d:Dem}{s:Sht}{x y:Int×Int}(h:BestR d s a x y e)(he:e=0):DOk d s/\¬Vd d s/\CandL (ZcV d d.W s.kf (s.w+s.kf)) (LA d s)/\CandL (ZcV d d.H s.kf (s.h+s.kf)) (LB d s)/\BestOf (VV d s) (LA d s) (LB d s) a x y:=by
  rcases h with⟨_,_,_,_,h⟩|⟨_,_,_,_,_,h⟩|⟨h1,h2,_,h3,h4,h5⟩
  · omega
  · omega
  · exact⟨h1,h2,h3,h4,h5⟩
theorem BestR.err{d:Dem}{s:Sht}{x y:Int×Int}(h:BestR d s a x y e)(he:e≠0):a=0:=by
  rcases h with⟨_,h,_⟩|⟨_,_,h,_⟩|⟨h1,h2,h,_⟩
  · exact h
  · exact h
  · exact absurd h he
theorem ValueR.ok{x:Crt}{d:Dem}{s:Sht}{a e:Int}(h:ValueR x d s a e)(he:e=0):DOk d s/\x.ok s/\¬Vd d s/\a=x.val d s:=by
  rcases h with⟨_,_,h⟩|⟨_,_,_,_,h⟩|⟨h1,h2,h3,h4,_⟩
  · omega
  · omega
  · exact⟨h1,h2,h3,h4⟩
theorem ValueR.err{x:Crt}{d:Dem}{s:Sht}(h:ValueR x d s a e)(he:e≠0):a=0:=by
  rcases h with⟨_,h,_⟩|⟨_,_,_,h,_⟩|⟨_,_,_,_,h⟩
  · exact h
  · exact h
  · exact absurd h he
theorem ApplyR.ok(h:ApplyR kind k x c a e)(he:e=0):okF kind k c/\a=dfv kind k x c:=by
  rcases h with⟨_,_,h1,_,_,h2,_⟩|⟨_,_,h⟩
  · exact⟨h1,h2⟩
  · omega
theorem ApplyR.err(h:ApplyR kind k x c a e)(he:e≠0):a=0:=by
  rcases h with⟨_,_,_,_,_,_,h⟩|⟨_,h,_⟩
  · exact absurd h he
  · exact h
theorem ApplyR.is(h:ApplyR kind k x c a e)(h1:1<=c)(h2:c<=4000)(h3:okF kind k c)(h4:0<=x)(h5:x<=c):a=dfv kind k x c/\e=0:=by
  rcases h with⟨_,_,_,_,_,a6,a7⟩|⟨a1,_⟩
  · exact⟨a6,a7⟩
  · exact absurd ⟨h1,h2,h3,h4,h5⟩ a1
end Go.Proofs.Gw
namespace Go.Proofs.YtopmifmfecfaaaaGreat
open Go Go.RowKit Go.Proofs.Gw
variable {c cap i j n:Int} {vI:Value}
theorem Ziy:Zc Tryz.prog 114=true:=by kernel_rfl
theorem Zix:Zc Tryz.prog 115=true:=by kernel_rfl
theorem Zh9:Zc Tryz.prog 151=true:=by kernel_rfl
theorem Zh8:Zc Tryz.prog 152=true:=by kernel_rfl
theorem Zh7:Zc Tryz.prog 153=true:=by kernel_rfl
theorem ZhT:Zc Tryz.prog 168=true:=by kernel_rfl
theorem V5:Zc Tryz.prog 169=true:=by kernel_rfl
theorem ZaZ:Z0 Tryz.prog 125=some (.agg #[.int .i64 0,.int .i64 0,.int .i64 0],3,24):=by kernel_rfl
theorem fd_125_0:Zz Tryz.prog 125 0=some 0:=by kernel_rfl
theorem fd_125_1:Zz Tryz.prog 125 1=some 1:=by kernel_rfl
theorem fd_125_2:Zz Tryz.prog 125 2=some 2:=by kernel_rfl
theorem XB:ZJ Tryz.prog 123=some (125,3):=by kernel_rfl
theorem Ry:ZF Tryz.prog 125=some 3:=by kernel_rfl
theorem Zkh{a b:Int}(w0:World):
    Calls Tryz.prog 151 [.agg #[.int .i64 a,.int .i64 b,.int .i64 c]].toArray w0 fun e w=>∃v,e= .returned v/\v=B (¬Ys a b c)/\Sat w0 w []:=by
  refine Zm Tryz.func151 Tryz.ntmps151 fun w hS=> ?_
  refine zsr<|zla (xbx (cs:= [_,_,_]) hS) ?_;rintro _ w ⟨g1,rfl,hS⟩
  refine(zP)<|zlz<|(zV (xfb 0 fd_125_0))<|(zV (xlb 0 pl_3 hS))<|(zP)<|(zP)<|zlb 6 ?_ ?_<;>intro hc;rotate_left
  refine(zV (xfb 0 fd_125_0))<|(zV (xlb 0 pl_3 hS))<|(zP)<|(zP)<|(zP)<|zlb 11 ?_ ?_<;>intro hc;rotate_left
  refine(zV (xfb 1 fd_125_1))<|(zV (xlb 0 pl_3 hS))<|(zP)<|(zP)<|(zP)<|zlb 16 ?_ ?_<;>intro hc;rotate_left
  refine(zV (xfb 1 fd_125_1))<|(zV (xlb 0 pl_3 hS))<|(zP)<|(zP)<|(zP)<|zlb 21 ?_ ?_<;>intro hc;rotate_left
  refine(zV (xfb 2 fd_125_2))<|(zV (xlb 0 pl_3 hS))<|(zP)<|(zP)<|(zP)<|zlb 26 ?_ ?_<;>intro hc;rotate_left
  refine(zV (xfb 2 fd_125_2))<|(zV (xlb 0 pl_3 hS))<|(zP)<|(zP)<|(zP)<|zx1<|zf1 ⟨_,rfl,?_⟩
  exact⟨ZA (by unfold Ys;omega),hS.nl⟩
  all_goals
   refine zOps ?_
   refine zx1<|zf1 ⟨_,rfl,?_⟩
   exact⟨ZU (by unfold Ys;omega),hS.nl⟩
theorem ZeS{t:Its}(w0:World)(hI:Row w0 vI 3 t.n (ZM t.S t.V t.M)):
    Calls Tryz.prog 168 [vI,.func (.func 151) #[] #[]].toArray w0 fun e w=>∃v,e= .returned v/\∃r:Int,v= .int .i64 r/\((r= -1/\∀k,0<=k->k<t.n->¬(¬Ys (t.S k) (t.V k) (t.M k)))\/(0<=r/\r<t.n/\(¬Ys (t.S r) (t.V r) (t.M r))))/\Sat w0 w []:=by
  have hn:=hI.slh.n0;have hn1:=hI.slh.n1
  refine Zm Tryz.func168 Tryz.ntmps168 fun w hS=> ?_
  refine zsr<|(zP)<|zx5<|(zP)<|(zV (xln XB hI.slh))<|(zP)<|zx6<|zlp (fun mm M w=>∃(i:Int),mm=((t.n-i).toNat)/\(0<=i)/\(i<=t.n)/\(∀k,0<=k->k<i->¬(¬Ys (t.S k) (t.V k) (t.M k)))/\M= [(0,vI),(1,.func (.func 151) #[] #[]),(7,.int .i64 t.n),(8,.int .i64 i)]/\Sat w0 w []) ⟨0,rfl,(by omega),(by omega),?_,rfl,hS⟩ ?_
  ·
   intro k h0 h1;omega
  clear hS w
  rintro mm M w ⟨i,rfl,h0,h1,qa,rfl,hS⟩
  refine zsr<|(zP)<|zx7<|Ze ?_ ?_<;>intro hc
  ·
   refine zx3<|(zP)<|(zP)<|zlz<|(zP)<|(zP)<|(zP)<|(zV (xix (kk:=3*i) XB hI.slh))<|(zV (xlw (cs:= [.int .i64 (t.S i),.int .i64 (t.V i),.int .i64 (t.M i)]) Ry (hI.below hS.below) (Xx (k:=3*i) (i:=i) t.S t.V t.M (by omega))))<|zlc (xc0 Zh9) (Zkh (a:=(t.S i)) (b:=(t.V i)) (c:=(t.M i)) w) ?_;rintro _ w ⟨rfl,hS'⟩
   replace hS:=hS.cmp hS';clear hS'
   refine zlt<|Ze ?_ ?_<;>intro hc
   ·
    refine zsr<|(zP)<|(zP)<|zx2<|zf1 ⟨_,rfl,?_⟩
    exact⟨i,rfl,.inr ⟨by omega,by omega,‹¬Ys (t.S i) (t.V i) (t.M i)›⟩,hS⟩
   refine zx4<|(zV (Zf (r:=i+1)))<|(zP)<|zln<|zlq ⟨i+1,rfl,(by omega),(by omega),?_,rfl,hS⟩
   ·
    intro k h0' h1';rcases Int.lt_or_eq_of_le (show k<=i by omega) with hk|hk;exact qa k h0' hk;rw [hk];assumption
  refine zx8<|(zP)<|zx1<|zf1 ⟨_,rfl,?_⟩
  exact⟨-1,rfl,.inl ⟨rfl,fun k h0 h1=>qa k h0 (by omega)⟩,hS⟩
theorem ZeY{t:Its}(w0:World)(hI:Row w0 vI 3 t.n (ZM t.S t.V t.M)):
    Calls Tryz.prog 152 [vI,.func (.func 151) #[] #[]].toArray w0 fun e w=>∃v,e= .returned v/\v=B (∃k,0<=k/\k<t.n/\(¬Ys (t.S k) (t.V k) (t.M k)))/\Sat w0 w []:=by
  refine Zm Tryz.func152 Tryz.ntmps152 fun w hS=> ?_
  refine zsr<|(zP)<|zlz<|(zP)<|(zP)<|zlc (xc0 ZhT) (ZeS w (hI.below hS.below)) ?_;rintro _ w ⟨r1,rfl,hr1,hS'⟩
  replace hS:=hS.cmp hS';clear hS'
  refine(zP)<|(zP)<|zx1<|zf1 ⟨_,rfl,?_⟩
  exact⟨ZA (by
   rcases hr1 with⟨h1,h2⟩|⟨h1,h2,h3⟩
   · exact⟨fun h=>by omega,fun⟨k,h4,h5,h6⟩=>absurd h6 (h2 k h4 h5)⟩
   · exact⟨fun _=>⟨_,h1,h2,h3⟩,fun _=>h1⟩),hS⟩
theorem ZeP{t:Its}(w0:World)(hI:Row w0 vI 3 t.n (ZM t.S t.V t.M)):
    Calls Tryz.prog 114 [vI,.int .i64 cap].toArray w0 fun e w=>∃v,e= .returned v/\v=B (t.Ok cap)/\Sat w0 w []:=by
  have hn:=hI.slh.n0
  refine Zm Tryz.func114 Tryz.ntmps114 fun w hS=> ?_
  refine zsr<|(zP)<|zlz<|(zP)<|zlz<|(zP)<|(zV (xln XB hI.slh))<|(zP)<|(zP)<|zlb 9 ?_ ?_<;>intro hc
  ·
   refine zs4 ?_
   refine zlb 13 ?_ ?_<;>intro hc
   ·
    refine zs4 ?_
    refine zlb 17 ?_ ?_<;>intro hc
    ·
     refine(zP)<|(zP)<|zlc (xc0 Zh8) (ZeY (t:=t) w (hI.below hS.below)) ?_;rintro _ w ⟨rfl,hS'⟩
     replace hS:=hS.cmp hS';clear hS'
     refine(zP)<|(zP)<|(zP)<|zx1<|zf1 ⟨_,rfl,?_⟩
     exact⟨ZA (by exact⟨fun hx=>⟨by omega,by omega,by omega,fun k k0 k1=>Classical.not_not.1 fun hh=>hx ⟨k,k0,k1,hh⟩⟩,fun hok ⟨k,k0,k1,hh⟩=>hh (hok.all k k0 k1)⟩),hS⟩
    iterate 4 refine zlo ?_
    refine(zP)<|(zP)<|zx1<|zf1 ⟨_,rfl,?_⟩
    exact⟨false_B (by rintro⟨h1,h2,h3,h4⟩;omega),hS⟩
   refine(zO)<|(zO)<|zs2 ?_
   iterate 4 refine zlo ?_
   refine(zP)<|(zP)<|zx1<|zf1 ⟨_,rfl,?_⟩
   exact⟨false_B (by rintro⟨h1,h2,h3,h4⟩;omega),hS⟩
  refine(zO)<|(zO)<|(zP)<|(zP)<|(zO)<|zlo ?_
  refine zs2 ?_
  iterate 4 refine zlo ?_
  refine(zP)<|(zP)<|zx1<|zf1 ⟨_,rfl,?_⟩
  exact⟨false_B (by rintro⟨h1,h2,h3,h4⟩;omega),hS⟩
theorem V8{vN:Value}{s y m r:Int}{T:Int->Int}{gn gr gx:Nat}{k:Int}(w0:World)(hGn:(Ent.blk gn [vN]).holds w0)(hGr:(Ent.blk gr [.int .i64 r]).holds w0)(hGx:(Ent.blk gx [.int .i64 s,.int .i64 y,.int .i64 m]).holds w0)(hN:Row w0 vN 1 n (ints T))(hTB:∀c,0<=c->c<n->0<=T c/\T c<=4398046511104)(hs:1<=s)(hn4:n<=4001)(hy:0<=y/\y<=1073741824)(r0:0<=r)(k0:0<=k)(hkn:r+k*s<n):
    Calls Tryz.prog 169 [.int .i64 k,.pointer (some ⟨gn,0,none⟩),.pointer (some ⟨gr,0,none⟩),.pointer (some ⟨gx,0,none⟩)].toArray w0 fun e w=>∃v,e= .returned v/\v= .int .i64 (T (r+k*s)-k*y)/\Sat w0 w []:=by
  have hn1:=hN.slh.n1
  have fE:=Zdn k0 hs
  have hjs:=T1 hs r0 k0 (Int.le_refl _) hkn
  have hjy:=XU k0 (by omega) hy.1 hy.2
  have htk:=hTB (r+k*s) (by omega) (by omega)
  refine Zm Tryz.func169 Tryz.ntmps169 fun w hS=> ?_
  refine zsr<|(zP)<|zx7<|zdst [] [] 1000 mx_ hS ?_;clear hS;intro w hS
  refine(zDl 0 (fun w hS=>(xlf pl_22 (Ent.holds.cell hGn (o:=0) rfl) hS)))<|(zDl 1 (fun w hS=>(xlf pl_3 (Ent.holds.cell hGr (o:=0) rfl) hS)))<|(zDw 2 xmv)<|(zDw 3 (xfb 0 fd_125_0))<|(zDl 4 (fun w hS=>(xlf pl_3 (Ent.holds.cell hGx (o:=0) rfl) hS)))<|(zDw 5 (Z4 (r:=(k*s)) (e:=rfl)))<|(zDw 6 (Zf (r:=r+(k*s))))<|(zDw 7 (xix (kk:=r+(k*s)) Zb hN.slh))<|(zDl 8 (fun w hS=>(xlr (u:= .int .i64 (T (r+(k*s)))) pl_3 (hN.below hS.below))))<|(zDw 9 xmv)<|(zDw 10 (xfb 1 fd_125_1))<|(zDl 11 (fun w hS=>(xlf pl_3 (Ent.holds.cell hGx (o:=1) rfl) hS)))<|(zDw 12 (Z4 (r:=(k*y)) (e:=rfl)))<|(zDw 13 (ZD (r:=(T (r+(k*s)))-(k*y))))<|zDrv 14 xas ?_
  refine zdd<|ztn<|zrt<|zf1 ⟨_,rfl,?_⟩
  exact⟨rfl,hS⟩
theorem Zgb{vN:Value}{s y m:Int}{T:Int->Int}(w0:World)(hN:Row w0 vN 1 n (ints T))(hTB:∀c,0<=c->c<n->0<=T c/\T c<=4398046511104)(hs:1<=s)(hs4:s<=4000)(hn4:n<=4001)(hy:0<=y/\y<=1073741824)(hm:0<=m/\m<=1000):
    Calls Tryz.prog 153 [.agg #[.int .i64 s,.int .i64 y,.int .i64 m],vN].toArray w0 fun e w=>∃v,e= .returned v/\∃r,v=r/\Slh r n/\Sat w0 w [.own r 1 3 n (ints (R T s y m.toNat))]:=by
  have hn0:=hN.slh.n0
  refine Zm Tryz.func153 Tryz.ntmps153 fun w hS=> ?_
  refine zsr<|zla (xbx (cs:= [_,_,_]) hS) ?_;rintro _ w ⟨g1,rfl,hS⟩
  refine zla (xbx (cs:= [_]) hS (hc:=Slh.cells hN.slh)) ?_;rintro _ w ⟨g2,rfl,hS⟩
  refine(zP)<|zlz<|(zV (xlb 1 pl_22 hS))<|(zV (xln Zb hN.slh))<|zla (xmk Zb Zn hS) ?_;rintro v1 w ⟨hS,hv1⟩
  refine(zP)<|zx5<|(zV (xfb 0 fd_125_0))<|(zV (xlb 0 pl_3 hS))<|(zV (xlb 1 pl_22 hS))<|(zV (xln Zb hN.slh))<|(zV (ZaH (r:=(min s n))))<|(zP)<|zx6<|zlp (fun mm M w=>∃(r:Int) (g:Int->Int),mm=((min s n-r).toNat)/\(0<=r)/\(r<=min s n)/\(∀c,0<=c->c<n->c%s<r->g c=R T s y m.toNat c)/\M= [(2,.pointer (some ⟨g1,0,none⟩)),(3,.pointer (some ⟨g2,0,none⟩)),(4,.slice none 0 0),(5,v1),(17,.int .i64 (min s n)),(18,.int .i64 r)]/\Sat w0 w [.blk g1 [.int .i64 s,.int .i64 y,.int .i64 m],.blk g2 [vN],.own v1 1 3 n (ints g)]) ⟨0,(fun _=>0),rfl,(by omega),(by omega),?_,rfl,hS⟩ ?_
  ·
   intro c c0 c1 c2;have:=Int.emod_nonneg c (show s≠0 by omega);omega
  clear hS w
  rintro mm M w ⟨r,g,rfl,r0,r1,hg,rfl,hS⟩
  refine zsr<|(zP)<|zx7<|Ze ?_ ?_<;>intro hc
  ·
   refine zx3<|(zP)<|zla (xal (cs:= [_]) Zn hS) ?_;rintro _ w ⟨g3,rfl,hS⟩
   refine zle (xsb 3 pl_3 hS) ?_;clear hS;rintro w hS
   refine zlz<|(zP)<|zlz<|(zV xmf)<|(zP)<|zlz<|(zP)<|zx6 ?_
   replace hS:=hS.dqnil 3 (fun _=>0)
   refine zlp (fun mm M w=>∃(q:Int) (k:Int) (gg2:Int->Int) (wq:Value) (fq:Int->Int),mm=((n-k).toNat)/\(0<=k)/\(k<=n)/\(DQ (fun j=>T (r+j*s)-j*y) m k q fq)/\(LY T s y m n r k gg2)/\(Slh wq q)/\M= [(2,.pointer (some ⟨g1,0,none⟩)),(3,.pointer (some ⟨g2,0,none⟩)),(4,.slice none 0 0),(5,v1),(6,.pointer (some ⟨g3,0,none⟩)),(7,wq),(8,.func (.func 169) #[] #[.pointer (some ⟨g2,0,none⟩),.pointer (some ⟨g3,0,none⟩),.pointer (some ⟨g1,0,none⟩)]),(9,.int .i64 k),(17,.int .i64 (min s n)),(18,.int .i64 r)]/\Sat w0 w [.blk g1 [.int .i64 s,.int .i64 y,.int .i64 m],.blk g2 [vN],.own v1 1 3 n (ints gg2),.blk g3 [.int .i64 r],.sem (Frame.dq 3 wq q fq)]) ⟨0,0,g,(.slice none 0 0),(fun _=>0),rfl,(by omega),(by omega),?_,?_,?_,rfl,hS⟩ ?_
   ·
    exact DQ.start _ _ _
   ·
    exact LY.start T hg
   ·
    exact slh_nil
   clear hS w
   rintro mm M w ⟨q,k,gg2,wq,fq,rfl,k0,k1,hdq,hLY,hwq,rfl,hS⟩
   refine zx11<|(zV (xlb 3 pl_3 hS))<|(zP)<|(zV (xfb 0 fd_125_0))<|(zV (xlb 0 pl_3 hS))<|zlv (Z4 (r:=(k*s)) (e:=rfl) (hr:=(by have h1:=Int.mul_nonneg k0 (show 0<=s by omega);have h2:=Int.mul_le_mul (show k<=4001 by omega) hs4 (by omega) (show 0<=(4001:Int) by omega);unfold I64;omega))) ?_
   have fE:=Zdn k0 hs
   have jd:0<=k*s/\k*s<=16008000:=by have h1:=Int.mul_nonneg k0 (show 0<=s by omega);have h2:=Int.mul_le_mul (show k<=4001 by omega) hs4 (by omega) (show 0<=(4001:Int) by omega);omega
   refine(zV (Zf (r:=r+(k*s))))<|(zV (xlb 1 pl_22 hS))<|(zV (xln Zb hN.slh))<|(zP)<|zlt<|Ze ?_ ?_<;>intro hc
   ·
    refine zsk<|ztn<|zsq<|zbk<|zsq<|zbk ?_
    have fN:=hdq.p
    refine zlp (fun mm M w=>∃(q3:Int) (wp:Value),mm=q3.toNat/\(DQp (fun j=>T (r+j*s)-j*y) m k q3 fq)/\(q3<=k)/\(Slh wp q3)/\M= [(2,.pointer (some ⟨g1,0,none⟩)),(3,.pointer (some ⟨g2,0,none⟩)),(4,.slice none 0 0),(5,v1),(6,.pointer (some ⟨g3,0,none⟩)),(7,wp),(8,.func (.func 169) #[] #[.pointer (some ⟨g2,0,none⟩),.pointer (some ⟨g3,0,none⟩),.pointer (some ⟨g1,0,none⟩)]),(9,.int .i64 k),(17,.int .i64 (min s n)),(18,.int .i64 r)]/\Sat w0 w [.blk g1 [.int .i64 s,.int .i64 y,.int .i64 m],.blk g2 [vN],.own v1 1 3 n (ints gg2),.blk g3 [.int .i64 r],.sem (Frame.dq 3 wp q3 fq)]) ⟨q,wq,rfl,?_,?_,?_,rfl,hS⟩ ?_
    ·
     exact fN
    ·
     exact hdq.len k0
    ·
     exact hwq
    clear hS w
    rintro mm M w ⟨q3,wp,rfl,hdp,hqk,hwp,rfl,hS⟩
    have gQ:=hdp.q0
    refine zx11<|(zP)<|(zV (xln Zb hwp))<|(zP)<|(zP)<|zlb 36 ?_ ?_<;>intro hc
    ·
     refine(zP)<|(zP)<|(zP)<|(zV (xln Zb hwp))<|(zV (ZD (r:=q3-1)))<|(zV (xix (kk:=q3-1) Zb hwp))<|zlv (xlr (u:= .int .i64 (fq (q3-1))) pl_3 (Frame.dq.row (hS.dqOf 4 rfl))) ?_
     have hq9:=hdp.rng (q3-1) (by omega) (by omega)
     have je:=T1 hs r0 (show 0<=fq (q3-1) by omega) (show fq (q3-1)<=k by omega) (show r+k*s<n by omega)
     refine zlc (xcc (vs:= [_]) V5) (V8 (k:=(fq (q3-1))) (n:=n) (T:=T) w (hS.holds _ (List.mem_of_getElem? (i:=1) rfl)) (hS.holds _ (List.mem_of_getElem? (i:=3) rfl)) (hS.holds _ (List.mem_of_getElem? (i:=0) rfl)) (hN.below hS.below) hTB hs hn4 hy (by omega) (by omega) (by omega)) ?_;rintro _ w ⟨rfl,hS'⟩
     replace hS:=hS.cmp hS';clear hS'
     refine(zP)<|(zP)<|zlc (xcc (vs:= [_]) V5) (V8 (k:=k) (n:=n) (T:=T) w (hS.holds _ (List.mem_of_getElem? (i:=1) rfl)) (hS.holds _ (List.mem_of_getElem? (i:=3) rfl)) (hS.holds _ (List.mem_of_getElem? (i:=0) rfl)) (hN.below hS.below) hTB hs hn4 hy (by omega) (by omega) (by omega)) ?_;rintro _ w ⟨rfl,hS'⟩
     replace hS:=hS.cmp hS';clear hS'
     refine(zP)<|(zP)<|zlt<|Ze ?_ ?_<;>intro hc
     ·
      refine zsk<|ztn<|zbk<|zrg<|(zP)<|(zP)<|(zV (xln Zb hwp))<|(zV (ZD (r:=q3-1)))<|zlv (ZcZ (i:=q3-1) (q3-1).toNat Zb hwp (Frame.dq.roomy (hS.dqOf 4 rfl))) ?_
      have eE:=(Zcz (e:=q3-1) hwp (by omega) (by omega))
      replace hS:=hS.dqpre (n:=q3) 4 (q3-1).toNat (by omega)
      replace hS:=hS.dqn 4 (by omega:((q3-1).toNat:Int)=q3-1)
      refine(zP)<|zln<|zbn<|zlq ⟨q3-1,(RG wp (q3-1).toNat),rfl,?_,?_,?_,rfl,hS⟩
      ·
       exact hdp.pop (by omega) (by show T _-_<=T _-_;omega)
      ·
       omega
      ·
       exact eE
     refine zx8<|(zP)<|(zP)<|zla (xli (n:=1) (len:=1) (pv:= [(0,.int .i64 k)]) (cs:= [.int .i64 k]) (c:=ints (fun _=>k)) Zb Zn hS) ?_;rintro v2 w ⟨hS,hv2⟩
     refine zla (Zjj 4 Zb Zn hS (hS.rowN 5 rfl)) ?_;rintro v3 w ⟨hS,hv3⟩
     have hda:=hdp.push k0 hm.1 (by show _<=_\/T _-_<T _-_;omega)
     have hdr:=hda.rng 0 (by omega) (by omega)
     refine(zP)<|zlt<|zsq<|zsq<|zdst [0,1,2,3,4,5] [0,1,2,3,4,5] 1000 mx_ hS ?_;clear hS;intro w hS
     refine(zDw 0 xmv)<|(zDw 1 (xix (kk:=0) Zb hv3))<|(zDl 2 (fun w hS=>(xlr (u:= .int .i64 ((snoc fq q3 k) 0)) pl_3 (Frame.dq.row (hS.dqOf 4 rfl)))))<|(zDw 3 xmv)<|(zDw 4 (xfb 2 fd_125_2))<|(zDl 5 (fun w hS=>(xlb 0 pl_3 hS)))<|(zDw 6 (ZD (r:=k-m)))<|(zDw 7 ZZ)<|zdd<|ztn ?_
     refine Ze ?_ ?_<;>intro hc
     ·
      refine zrg<|zlv xmv ?_
      have hdm:=hda.more hm.1 (by omega)
      refine Tx rfl rfl rfl (YX (q:=1) rfl Zb rfl rfl rfl hv3 rfl (by omega) (by omega)) ?_
      have co:=(Rc (m:=q3) hv3 (Frame.dq.roomy (hS.dqOf 4 rfl)) (by omega) (by omega))
      replace hS:=hS.dqsuf (n:=q3+1) 4 1 (by omega)
      replace hS:=hS.dqn 4 (by omega:(q3+1-((1:Nat):Int):Int)=q3)
      replace hS:Sat w0 w [.blk g1 [.int .i64 s,.int .i64 y,.int .i64 m],.blk g2 [vN],.own v1 1 3 n (ints gg2),.blk g3 [.int .i64 r],.sem (Frame.dq 3 (Xz v3 1) q3 (fun z9=>(snoc fq q3 k) (z9+1))),.own v2 1 3 1 (ints (fun _=>k))]:=hS
      refine(zP)<|zlt<|zdst [0,1,2,3,4,5] [0,1,3,4,5] 18 mx_ hS ?_;clear hS;intro w hS
      refine zDrv 0 xmv ?_
      have zg:DQ (fun j=>T (r+j*s)-j*y) m (k+1) (q3) ((fun z9=>(snoc fq q3 k) (z9+1))):=hda.drop k0 hm.1 (by omega)
      have xd:=zg.best k0 hm.1
      have hb2:max 0 (k-m)<=((fun z9=>(snoc fq q3 k) (z9+1))) 0:=xd.2.1
      have hb3:((fun z9=>(snoc fq q3 k) (z9+1))) 0<=k:=xd.2.2.1
      have db:=T1 hs r0 (show 0<=((fun z9=>(snoc fq q3 k) (z9+1))) 0 by omega) hb3 (show r+k*s<n by omega)
      have c9:=XU k0 (by omega) hy.1 hy.2
      have da:=XU (show 0<=((fun z9=>(snoc fq q3 k) (z9+1))) 0 by omega) (by omega) hy.1 hy.2
      have cM:=hTB (r+((fun z9=>(snoc fq q3 k) (z9+1))) 0*s) (by omega) (by omega)
      refine(zDl 1 (fun w hS=>(xlb 2 pl_3 hS)))<|(zDw 2 xmv)<|(zDw 3 (xfb 0 fd_125_0))<|(zDl 4 (fun w hS=>(xlb 0 pl_3 hS)))<|(zDw 5 (Z4 (r:=(k*s)) (e:=rfl)))<|(zDw 6 (Zf (r:=r+(k*s))))<|(zDw 7 xmv)<|(zDw 8 xmv)<|(zDw 9 (xix (kk:=0) Zb co))<|(zDl 10 (fun w hS=>(xlr (u:= .int .i64 ((fun z9=>(snoc fq q3 k) (z9+1)) 0)) pl_3 (Frame.dq.row (hS.dqOf 3 rfl)))))<|(zDw 12 xmv)<|(zDw 13 (xfb 1 fd_125_1))<|(zDl 14 (fun w hS=>(xlb 0 pl_3 hS)))<|(zDw 15 (Z4 (r:=(k*y)) (e:=rfl)))<|zdc 11 (xcc (vs:= [_]) V5) (V8 (k:=((fun z9=>(snoc fq q3 k) (z9+1)) 0)) (n:=n) (T:=T) w (hS.holds _ (List.mem_of_getElem? (i:=1) rfl)) (hS.holds _ (List.mem_of_getElem? (i:=3) rfl)) (hS.holds _ (List.mem_of_getElem? (i:=0) rfl)) (hN.below hS.below) hTB hs hn4 hy (by omega) (by omega) (by omega)) ?_;rintro _ w ⟨rfl,hS'⟩
      replace hS:=hS.cmp hS';clear hS'
      refine⟨⟨fun _=>hS,hS.pk [0,1,3,4,5]⟩,?_⟩
      refine(zDw 16 (Zf (r:=(T (r+((fun z9=>(snoc fq q3 k) (z9+1)) 0)*s)-((fun z9=>(snoc fq q3 k) (z9+1)) 0)*y)+(k*y))))<|(zDw 17 (xix (kk:=r+(k*s)) Zb hv1))<|zde 18 (xso 2 pl_3 hS (ZE _ _ _)) ?_;clear hS;rintro w hS
      refine⟨⟨fun h=>absurd h (by decide),hS.pk [0,1,3,4,5]⟩,?_⟩
      refine zdd<|zbn<|ztn<|zrg ?_
      refine(zP)<|(zV (Zf (r:=k+1)))<|(zP)<|zln<|zlq ⟨q3,k+1,(upd gg2 (r+(k*s)) ((T (r+((fun z9=>(snoc fq q3 k) (z9+1)) 0)*s)-((fun z9=>(snoc fq q3 k) (z9+1)) 0)*y)+(k*y))),(Xz v3 1),(fun z9=>(snoc fq q3 k) (z9+1)),rfl,(by omega),(by omega),?_,?_,?_,rfl,hS.pk [0,1,2,3,4]⟩
      ·
       exact zg
      ·
       exact hLY.step hs r0 (by omega) k0 (UG hs hm.1 r0 (by omega) k0 xd.2.1 xd.2.2.1 (fun j j0 j1=>xd.2.2.2 j j0 j1))
      ·
       exact co
     refine zsk<|ztn<|zdst [0,1,2,3,4,5] [0,1,3,4,5] 18 mx_ hS ?_;clear hS;intro w hS
     refine zDrv 0 xmv ?_
     have zg:DQ (fun j=>T (r+j*s)-j*y) m (k+1) (q3+1) ((snoc fq q3 k)):=hda.keep k0 (by omega)
     have xd:=zg.best k0 hm.1
     have hb2:max 0 (k-m)<=((snoc fq q3 k)) 0:=xd.2.1
     have hb3:((snoc fq q3 k)) 0<=k:=xd.2.2.1
     have db:=T1 hs r0 (show 0<=((snoc fq q3 k)) 0 by omega) hb3 (show r+k*s<n by omega)
     have c9:=XU k0 (by omega) hy.1 hy.2
     have da:=XU (show 0<=((snoc fq q3 k)) 0 by omega) (by omega) hy.1 hy.2
     have cM:=hTB (r+((snoc fq q3 k)) 0*s) (by omega) (by omega)
     refine(zDl 1 (fun w hS=>(xlb 2 pl_3 hS)))<|(zDw 2 xmv)<|(zDw 3 (xfb 0 fd_125_0))<|(zDl 4 (fun w hS=>(xlb 0 pl_3 hS)))<|(zDw 5 (Z4 (r:=(k*s)) (e:=rfl)))<|(zDw 6 (Zf (r:=r+(k*s))))<|(zDw 7 xmv)<|(zDw 8 xmv)<|(zDw 9 (xix (kk:=0) Zb hv3))<|(zDl 10 (fun w hS=>(xlr (u:= .int .i64 ((snoc fq q3 k) 0)) pl_3 (Frame.dq.row (hS.dqOf 3 rfl)))))<|(zDw 12 xmv)<|(zDw 13 (xfb 1 fd_125_1))<|(zDl 14 (fun w hS=>(xlb 0 pl_3 hS)))<|(zDw 15 (Z4 (r:=(k*y)) (e:=rfl)))<|zdc 11 (xcc (vs:= [_]) V5) (V8 (k:=((snoc fq q3 k) 0)) (n:=n) (T:=T) w (hS.holds _ (List.mem_of_getElem? (i:=1) rfl)) (hS.holds _ (List.mem_of_getElem? (i:=3) rfl)) (hS.holds _ (List.mem_of_getElem? (i:=0) rfl)) (hN.below hS.below) hTB hs hn4 hy (by omega) (by omega) (by omega)) ?_;rintro _ w ⟨rfl,hS'⟩
     replace hS:=hS.cmp hS';clear hS'
     refine⟨⟨fun _=>hS,hS.pk [0,1,3,4,5]⟩,?_⟩
     refine(zDw 16 (Zf (r:=(T (r+((snoc fq q3 k) 0)*s)-((snoc fq q3 k) 0)*y)+(k*y))))<|(zDw 17 (xix (kk:=r+(k*s)) Zb hv1))<|zde 18 (xso 2 pl_3 hS (ZE _ _ _)) ?_;clear hS;rintro w hS
     refine⟨⟨fun h=>absurd h (by decide),hS.pk [0,1,3,4,5]⟩,?_⟩
     refine zdd<|zbn<|ztn<|zrg ?_
     refine(zP)<|(zV (Zf (r:=k+1)))<|(zP)<|zln<|zlq ⟨q3+1,k+1,(upd gg2 (r+(k*s)) ((T (r+((snoc fq q3 k) 0)*s)-((snoc fq q3 k) 0)*y)+(k*y))),v3,(snoc fq q3 k),rfl,(by omega),(by omega),?_,?_,?_,rfl,hS.pk [0,1,2,3,4]⟩
     ·
      exact zg
     ·
      exact hLY.step hs r0 (by omega) k0 (UG hs hm.1 r0 (by omega) k0 xd.2.1 xd.2.2.1 (fun j j0 j1=>xd.2.2.2 j j0 j1))
     ·
      exact hv3
    iterate 12 refine zlo ?_
    refine(zP)<|zlt<|zcf<|zxt<|ztx<|ztx<|zbh<|ztn<|zsr ?_
    refine(zP)<|(zP)<|zla (xli (n:=1) (len:=1) (pv:= [(0,.int .i64 k)]) (cs:= [.int .i64 k]) (c:=ints (fun _=>k)) Zb Zn hS) ?_;rintro v4 w ⟨hS,hv4⟩
    refine zla (Zjj 4 Zb Zn hS (hS.rowN 5 rfl)) ?_;rintro v5 w ⟨hS,hv5⟩
    have hda:=hdp.push k0 hm.1 (by show _<=_\/T _-_<T _-_;omega)
    have hdr:=hda.rng 0 (by omega) (by omega)
    refine(zP)<|zlt<|zsq<|zsq<|zdst [0,1,2,3,4,5] [0,1,2,3,4,5] 1000 mx_ hS ?_;clear hS;intro w hS
    refine(zDw 0 xmv)<|(zDw 1 (xix (kk:=0) Zb hv5))<|(zDl 2 (fun w hS=>(xlr (u:= .int .i64 ((snoc fq q3 k) 0)) pl_3 (Frame.dq.row (hS.dqOf 4 rfl)))))<|(zDw 3 xmv)<|(zDw 4 (xfb 2 fd_125_2))<|(zDl 5 (fun w hS=>(xlb 0 pl_3 hS)))<|(zDw 6 (ZD (r:=k-m)))<|(zDw 7 ZZ)<|zdd<|ztn ?_
    refine Ze ?_ ?_<;>intro hc
    ·
     refine zrg<|zlv xmv ?_
     have hdm:=hda.more hm.1 (by omega)
     refine Tx rfl rfl rfl (YX (q:=1) rfl Zb rfl rfl rfl hv5 rfl (by omega) (by omega)) ?_
     have cn:=(Rc (m:=q3) hv5 (Frame.dq.roomy (hS.dqOf 4 rfl)) (by omega) (by omega))
     replace hS:=hS.dqsuf (n:=q3+1) 4 1 (by omega)
     replace hS:=hS.dqn 4 (by omega:(q3+1-((1:Nat):Int):Int)=q3)
     replace hS:Sat w0 w [.blk g1 [.int .i64 s,.int .i64 y,.int .i64 m],.blk g2 [vN],.own v1 1 3 n (ints gg2),.blk g3 [.int .i64 r],.sem (Frame.dq 3 (Xz v5 1) q3 (fun z9=>(snoc fq q3 k) (z9+1))),.own v4 1 3 1 (ints (fun _=>k))]:=hS
     refine(zP)<|zlt<|zdst [0,1,2,3,4,5] [0,1,3,4,5] 18 mx_ hS ?_;clear hS;intro w hS
     refine zDrv 0 xmv ?_
     have zg:DQ (fun j=>T (r+j*s)-j*y) m (k+1) (q3) ((fun z9=>(snoc fq q3 k) (z9+1))):=hda.drop k0 hm.1 (by omega)
     have xd:=zg.best k0 hm.1
     have hb2:max 0 (k-m)<=((fun z9=>(snoc fq q3 k) (z9+1))) 0:=xd.2.1
     have hb3:((fun z9=>(snoc fq q3 k) (z9+1))) 0<=k:=xd.2.2.1
     have db:=T1 hs r0 (show 0<=((fun z9=>(snoc fq q3 k) (z9+1))) 0 by omega) hb3 (show r+k*s<n by omega)
     have c9:=XU k0 (by omega) hy.1 hy.2
     have da:=XU (show 0<=((fun z9=>(snoc fq q3 k) (z9+1))) 0 by omega) (by omega) hy.1 hy.2
     have cM:=hTB (r+((fun z9=>(snoc fq q3 k) (z9+1))) 0*s) (by omega) (by omega)
     refine(zDl 1 (fun w hS=>(xlb 2 pl_3 hS)))<|(zDw 2 xmv)<|(zDw 3 (xfb 0 fd_125_0))<|(zDl 4 (fun w hS=>(xlb 0 pl_3 hS)))<|(zDw 5 (Z4 (r:=(k*s)) (e:=rfl)))<|(zDw 6 (Zf (r:=r+(k*s))))<|(zDw 7 xmv)<|(zDw 8 xmv)<|(zDw 9 (xix (kk:=0) Zb cn))<|(zDl 10 (fun w hS=>(xlr (u:= .int .i64 ((fun z9=>(snoc fq q3 k) (z9+1)) 0)) pl_3 (Frame.dq.row (hS.dqOf 3 rfl)))))<|(zDw 12 xmv)<|(zDw 13 (xfb 1 fd_125_1))<|(zDl 14 (fun w hS=>(xlb 0 pl_3 hS)))<|(zDw 15 (Z4 (r:=(k*y)) (e:=rfl)))<|zdc 11 (xcc (vs:= [_]) V5) (V8 (k:=((fun z9=>(snoc fq q3 k) (z9+1)) 0)) (n:=n) (T:=T) w (hS.holds _ (List.mem_of_getElem? (i:=1) rfl)) (hS.holds _ (List.mem_of_getElem? (i:=3) rfl)) (hS.holds _ (List.mem_of_getElem? (i:=0) rfl)) (hN.below hS.below) hTB hs hn4 hy (by omega) (by omega) (by omega)) ?_;rintro _ w ⟨rfl,hS'⟩
     replace hS:=hS.cmp hS';clear hS'
     refine⟨⟨fun _=>hS,hS.pk [0,1,3,4,5]⟩,?_⟩
     refine(zDw 16 (Zf (r:=(T (r+((fun z9=>(snoc fq q3 k) (z9+1)) 0)*s)-((fun z9=>(snoc fq q3 k) (z9+1)) 0)*y)+(k*y))))<|(zDw 17 (xix (kk:=r+(k*s)) Zb hv1))<|zde 18 (xso 2 pl_3 hS (ZE _ _ _)) ?_;clear hS;rintro w hS
     refine⟨⟨fun h=>absurd h (by decide),hS.pk [0,1,3,4,5]⟩,?_⟩
     refine zdd<|zbn<|ztn<|zrg ?_
     refine(zP)<|(zV (Zf (r:=k+1)))<|(zP)<|zln<|zlq ⟨q3,k+1,(upd gg2 (r+(k*s)) ((T (r+((fun z9=>(snoc fq q3 k) (z9+1)) 0)*s)-((fun z9=>(snoc fq q3 k) (z9+1)) 0)*y)+(k*y))),(Xz v5 1),(fun z9=>(snoc fq q3 k) (z9+1)),rfl,(by omega),(by omega),?_,?_,?_,rfl,hS.pk [0,1,2,3,4]⟩
     ·
      exact zg
     ·
      exact hLY.step hs r0 (by omega) k0 (UG hs hm.1 r0 (by omega) k0 xd.2.1 xd.2.2.1 (fun j j0 j1=>xd.2.2.2 j j0 j1))
     ·
      exact cn
    refine zsk<|ztn<|zdst [0,1,2,3,4,5] [0,1,3,4,5] 18 mx_ hS ?_;clear hS;intro w hS
    refine zDrv 0 xmv ?_
    have zg:DQ (fun j=>T (r+j*s)-j*y) m (k+1) (q3+1) ((snoc fq q3 k)):=hda.keep k0 (by omega)
    have xd:=zg.best k0 hm.1
    have hb2:max 0 (k-m)<=((snoc fq q3 k)) 0:=xd.2.1
    have hb3:((snoc fq q3 k)) 0<=k:=xd.2.2.1
    have db:=T1 hs r0 (show 0<=((snoc fq q3 k)) 0 by omega) hb3 (show r+k*s<n by omega)
    have c9:=XU k0 (by omega) hy.1 hy.2
    have da:=XU (show 0<=((snoc fq q3 k)) 0 by omega) (by omega) hy.1 hy.2
    have cM:=hTB (r+((snoc fq q3 k)) 0*s) (by omega) (by omega)
    refine(zDl 1 (fun w hS=>(xlb 2 pl_3 hS)))<|(zDw 2 xmv)<|(zDw 3 (xfb 0 fd_125_0))<|(zDl 4 (fun w hS=>(xlb 0 pl_3 hS)))<|(zDw 5 (Z4 (r:=(k*s)) (e:=rfl)))<|(zDw 6 (Zf (r:=r+(k*s))))<|(zDw 7 xmv)<|(zDw 8 xmv)<|(zDw 9 (xix (kk:=0) Zb hv5))<|(zDl 10 (fun w hS=>(xlr (u:= .int .i64 ((snoc fq q3 k) 0)) pl_3 (Frame.dq.row (hS.dqOf 3 rfl)))))<|(zDw 12 xmv)<|(zDw 13 (xfb 1 fd_125_1))<|(zDl 14 (fun w hS=>(xlb 0 pl_3 hS)))<|(zDw 15 (Z4 (r:=(k*y)) (e:=rfl)))<|zdc 11 (xcc (vs:= [_]) V5) (V8 (k:=((snoc fq q3 k) 0)) (n:=n) (T:=T) w (hS.holds _ (List.mem_of_getElem? (i:=1) rfl)) (hS.holds _ (List.mem_of_getElem? (i:=3) rfl)) (hS.holds _ (List.mem_of_getElem? (i:=0) rfl)) (hN.below hS.below) hTB hs hn4 hy (by omega) (by omega) (by omega)) ?_;rintro _ w ⟨rfl,hS'⟩
    replace hS:=hS.cmp hS';clear hS'
    refine⟨⟨fun _=>hS,hS.pk [0,1,3,4,5]⟩,?_⟩
    refine(zDw 16 (Zf (r:=(T (r+((snoc fq q3 k) 0)*s)-((snoc fq q3 k) 0)*y)+(k*y))))<|(zDw 17 (xix (kk:=r+(k*s)) Zb hv1))<|zde 18 (xso 2 pl_3 hS (ZE _ _ _)) ?_;clear hS;rintro w hS
    refine⟨⟨fun h=>absurd h (by decide),hS.pk [0,1,3,4,5]⟩,?_⟩
    refine zdd<|zbn<|ztn<|zrg ?_
    refine(zP)<|(zV (Zf (r:=k+1)))<|(zP)<|zln<|zlq ⟨q3+1,k+1,(upd gg2 (r+(k*s)) ((T (r+((snoc fq q3 k) 0)*s)-((snoc fq q3 k) 0)*y)+(k*y))),v5,(snoc fq q3 k),rfl,(by omega),(by omega),?_,?_,?_,rfl,hS.pk [0,1,2,3,4]⟩
    ·
     exact zg
    ·
     exact hLY.step hs r0 (by omega) k0 (UG hs hm.1 r0 (by omega) k0 xd.2.1 xd.2.2.1 (fun j j0 j1=>xd.2.2.2 j j0 j1))
    ·
     exact hv5
   refine zx21<|(zV (Zf (r:=r+1)))<|(zP)<|zln<|zlq ⟨r+1,gg2,rfl,(by omega),(by omega),?_,rfl,hS.pk [0,1,2]⟩
   ·
    exact hLY.fin (by omega)
  refine zx8<|(zP)<|(zP)<|zx1<|zf1 ⟨_,rfl,?_⟩
  obtain⟨hs1,hs2⟩:r=min s n/\r<=n:=by omega
  replace hS:=hS.recont 2 rfl (d:=ints (R T s y m.toNat)) (fun c c0 c1=>by
    unfold ints;rw [hg c c0 (by omega) (by rcases Int.lt_or_le c s with h1|h1;rw [Int.emod_eq_of_lt c0 h1];omega;have:=Int.emod_lt_of_pos c (show 0<s by omega);omega)])
  exact⟨_,rfl,hv1,hS.pk [2]⟩
theorem Sat.revrows{w w0:World}{l:List Ent}{E:TypeId}{vv:Int->Value}{ln:Int->Int}{f:Int->Int->Int}(i:Nat)(h:Sat w0 w l)(hi:l[i]? =some (.sem (Frame.rows E n vv ln f))):Sat w0 w (l.set i (.sem (Frame.rows E n (fun k=>vv (n-1-k)) (fun k=>ln (n-1-k)) (fun k=>f (n-1-k))))):=
  h.resem i hi (fun⟨h1,h2⟩=>⟨fun k k0 k1=>h1 (n-1-k) (by omega) (by omega),fun a b a0 a1 b0 b1 hab=>h2 (n-1-a) (n-1-b) (by omega) (by omega) (by omega) (by omega) (by omega)⟩) fun g ⟨k,k0,k1,hk⟩=>⟨n-1-k,by omega,by omega,hk⟩
theorem Zg0{w:World}{v:Value}{f g:Int->Int}(h:Row w v 1 n (ints f))(e:f=g):Row w v 1 n (ints g):=e▸h
theorem ZeO{t:Its}(w0:World)(hI:Row w0 vI 3 t.n (ZM t.S t.V t.M))(hk:t.Ok cap):
    Calls Tryz.prog 115 [vI,.int .i64 cap].toArray w0 fun e w=>∃v,e= .returned v/\∃r vv,v=r/\Slh r (t.n+1)/\Sat w0 w [.own r 1 22 (t.n+1) vv,.sem (Frame.rows 3 (t.n+1) vv (fun _=>cap+1) (KI t))]:=by
  have hn:=hI.slh.n0
  have hk1:=hk.n;have hk2:=hk.c0;have hk3:=hk.c1
  refine Zm Tryz.func115 Tryz.ntmps115 fun w hS=> ?_
  refine zsr<|(zP)<|zlz<|(zP)<|(zV (xln XB hI.slh))<|(zV (Zf (r:=t.n+1)))<|zla (xmk Zi Ya hS) ?_;rintro v1 w ⟨hS,hv1⟩
  refine(zP)<|zlz<|(zP)<|(zP)<|(zV (xln XB hI.slh))<|(zP)<|(zV (Zf (r:=cap+1)))<|zla (xmk Zb Zn hS) ?_;rintro v2 w ⟨hS,hv2⟩
  refine(zV (xix (kk:=t.n) Zi hv1))<|zle (xso 0 pl_22 hS rfl (hv:=hv2.one)) ?_;clear hS;rintro w hS
  refine zx5<|(zP)<|(zV (xln XB hI.slh))<|(zV (ZD (r:=t.n-1)))<|(zP)<|zx6 ?_
  replace hS:=hS.addrows 3 (fun _=>Value.slice none 0 0) (fun _=>cap+1) (fun j=>KI t (t.n-j))
  have yw:=fun k (k0:0<=k) (k1:k<0)=>hS.slhIn 2 rfl k0 k1
  replace hS:=Sat.merge2 (l1:= [_]) (l2:= []) (l3:= []) hS (by omega)
  have qN:=fun k (k0:0<=k) (k1:k<1)=>hS.slhIn 1 rfl k0 k1
  replace hS:=hS.rerows (vv':=gsn (fun _=>Value.slice none 0 0) 0 v2) (ln':=fun _=>cap+1) (f':=fun j=>KI t (t.n-j)) 1 rfl (fun k k0 k1=>by
    by_cases e:k<0
    · exact⟨rfl,Zs e,fun j _ _=>by rw [Zs e]⟩
    · have hk9:k=0:=by omega
      refine⟨rfl,Zr e,fun j _ _=> ?_⟩
      rw [Zr e,hk9];rw [show t.n-(0:Int)=t.n by omega,Zbl])
  have dS:=fun k (k0:0<=k) (k1:k<1)=>hS.slhIn 1 rfl k0 k1
  refine zlp (fun mm M w=>∃(nC:Int) (wv:Int->Value) (rv:Int->Value) (i:Int),mm=((i+1).toNat)/\(-1<=i)/\(i<=t.n-1)/\(nC=t.n-i)/\(∀j,0<=j->j<nC->wv (t.n-j)=rv j)/\M= [(0,vI),(4,.slice none 0 0),(5,v1),(6,.int .i64 i)]/\Sat w0 w [.own v1 1 22 (t.n+1) wv,.sem (Frame.rows 3 nC rv (fun _=>cap+1) (fun j=>KI t (t.n-j)))]) ⟨1,upd (fun _=> .slice none 0 0) t.n (v2),gsn (fun _=>Value.slice none 0 0) 0 v2,(t.n-1),rfl,(by omega),(by omega),(by omega),?_,rfl,hS⟩ ?_
  ·
   intro j j0 j1;obtain rfl:j=0:=by omega
   rw [show t.n-(0:Int)=t.n by omega,gu_self,Zr (by omega)]
  clear hS w
  rintro mm M w ⟨nC,wv,rv,i,rfl,i0,i1,hnC,hwv,rfl,hS⟩
  have xe:=fun k (k0:0<=k) (k1:k<nC)=>hS.slhIn 1 rfl k0 k1
  refine zx11<|(zP)<|(zP)<|zlt<|Ze ?_ ?_<;>intro hc
  ·
   refine zx38<|zdst [0,1] [1] 13 mx_ hS ?_;clear hS;intro w hS
   refine(zDw 0 xmv)<|(zDw 1 xmv)<|(zDw 2 xmv)<|(zDw 3 xmv)<|(zDw 4 (xix (kk:=3*i) XB hI.slh))<|zdla 5 (fun w hS=>(xlw (cs:= [.int .i64 (t.S i),.int .i64 (t.V i),.int .i64 (t.M i)]) Ry (hI.below hS.below) (Xx (k:=3*i) (i:=i) t.S t.V t.M (by omega)))) ?_
   have hev:=hk.all i (by omega) (by omega);unfold Its.each Ys at hev
   refine(zDw 6 xmv)<|(zDw 7 xmv)<|(zDw 8 (Zf (r:=i+1)))<|(zDw 9 (xix (kk:=i+1) Zi hv1))<|zdl 10 (fun w hS=>(xlr (u:=(rv (t.n-i-1))) pl_22 (hS.rowN 0 rfl) (e:=(by have:=hwv (t.n-i-1) (by omega) (by omega);rwa [show t.n-(t.n-i-1)=i+1 by omega] at this)))) ?_
   refine zdc 11 (xc0 Zh7) (Zgb (n:=cap+1) (s:=(t.S i)) (y:=(t.V i)) (m:=(t.M i)) (T:=KI t (i+1)) w (Zg0 (hS.rowIn (k:=t.n-i-1) 1 rfl (by omega) (by omega)) (by show KI t (t.n-(t.n-i-1))=_;congr 1;omega)) (fun c c0 c1=>by have:=Xa hk (i:=i+1) (by omega) (by omega) c0;omega) (by omega) (by omega) (by omega) (by omega) (by omega)) ?_;rintro aR w ⟨_,rfl,cJ,hS'⟩
   replace hS:=(hS.comp hS').n3;clear hS'
   refine⟨⟨fun _=>hS.pk [0,1],hS.pk [1]⟩,?_⟩
   refine(zDw 12 (xix (kk:=i) Zi hv1))<|zde 13 (xso 0 pl_22 hS rfl (hv:=cJ.one)) ?_;clear hS;rintro w hS
   refine⟨⟨fun h=>absurd h (by decide),hS.pk [1]⟩,?_⟩
   refine zdd<|zbn<|ztn<|zrg ?_
   refine(zP)<|(zV (ZD (r:=i-1)))<|(zP)<|zln ?_
   replace hS:=Sat.merge (l1:= [_]) (l2:= []) (l3:= []) hS (by omega)
   have cU:=fun k (k0:0<=k) (k1:k<nC+1)=>hS.slhIn 1 rfl k0 k1
   replace hS:=hS.rerows (vv':=gsn rv nC aR) (ln':=fun _=>cap+1) (f':=fun j=>KI t (t.n-j)) 1 rfl (fun k k0 k1=>by
     by_cases e:k<nC
     · exact⟨rfl,Zs e,fun j _ _=>by rw [Zs e]⟩
     · have hk9:k=nC:=by omega
       refine⟨rfl,Zr e,fun j _ _=> ?_⟩
       rw [Zr e,hk9];rw [hnC,show t.n-(t.n-i)=i by omega,Kk t (i:=i) (by omega) (by omega)])
   have dR:=fun k (k0:0<=k) (k1:k<nC+1)=>hS.slhIn 1 rfl k0 k1
   refine zlq ⟨nC+1,upd wv i (aR),gsn rv nC aR,i-1,rfl,(by omega),(by omega),(by omega),?_,rfl,hS⟩
   ·
    intro j j0 j1;by_cases e:j=nC
    · rw [e,hnC,show t.n-(t.n-i)=i by omega,gu_self,Zr (by omega)]
    · rw [gu_ne (by omega),Zs (by omega)];exact hwv j j0 (by omega)
  refine zx8<|(zP)<|(zP)<|zx1<|zf1 ⟨_,rfl,?_⟩
  obtain rfl:i= -1:=by omega
  obtain rfl:nC=t.n+1:=by omega
  replace hS:=Sat.revrows 1 hS rfl
  replace hS:=hS.rerows (vv':=wv) (ln':=fun _=>cap+1) (f':=KI t) 1 rfl (fun k k0 k1=>⟨by rw [<-hwv _ (by omega) (by omega)];congr 1;omega,rfl,fun j _ _=>by show KI t (t.n-(t.n+1-1-k)) j=_;congr 1;omega⟩)
  exact⟨_,_,rfl,hv1,hS.pk [0,1]⟩
def ZgT(t:Its)(cap n:Int)(x:Int->Int)(val e:Int):Prop:=(¬t.Ok cap/\n=0/\val=0/\e=1)\/(t.Ok cap/\n=t.n/\KX t cap x t.n/\val=KI t 0 cap/\e=0)
theorem ZbI{t:Its}(hk:t.Ok cap)(i0:0<=i)(i1:i<t.n)(j0:0<=j)(j1:j<=c.tdiv (t.S i))(c0:0<=c):0<=j*t.S i/\j*t.S i<=c:=by
  have he:=hk.all i i0 i1
  unfold Its.each Ys at he
  have hq:=VY (a:=c) (b:=t.S i) c0 he.1
  have h1:=Int.mul_nonneg j0 (show 0<=t.S i by omega)
  have h2:=Int.mul_le_mul_of_nonneg_right j1 (show 0<=t.S i by omega)
  omega
theorem Zdq{t:Its}(hk:t.Ok cap)(i0:0<=i)(i1:i<t.n)(h:j*t.S i<=c)(c0:0<=c):j<=c.tdiv (t.S i):=by
  have he:=hk.all i i0 i1
  unfold Its.each Ys at he
  rw [Int.tdiv_eq_ediv_of_nonneg c0]
  exact(Int.le_ediv_iff_mul_le (by omega)).2 h
theorem Zdp{t:Its}(hk:t.Ok cap)(i0:0<=i)(i1:i<t.n)(j0:0<=j)(j1:j<=4001):0<=j*t.V i/\j*t.V i<=4296041037824:=by
  have he:=hk.all i i0 i1
  unfold Its.each Ys at he
  exact XU j0 j1 he.2.2.1 he.2.2.2.1
theorem ZeQ{t:Its}(w0:World)(hI:Row w0 vI 3 t.n (ZM t.S t.V t.M)):
    Calls Tryz.prog 80 [vI,.int .i64 cap].toArray w0 fun e w=>∃v,e= .returned v/\∃r n x val e,v= .tuple #[r,.int .i64 val,.int .i64 e]/\ZgT t cap n x val e/\Slh r n/\Sat w0 w [.own r 1 3 n (ints x)]:=by
  have hn:=hI.slh.n0
  refine Zm Tryz.func80 Tryz.ntmps80 fun w hS=> ?_
  refine zsr<|(zP)<|(zP)<|(zP)<|zx5<|(zP)<|(zP)<|zlc (xc0 Ziy) (ZeP (t:=t) (cap:=cap) w (hI.below hS.below)) ?_;rintro _ w ⟨rfl,hS'⟩
  replace hS:=hS.cmp hS';clear hS'
  refine(zP)<|zlt<|Ze ?_ ?_<;>intro hc
  ·
   refine zsr<|(zP)<|(zP)<|(zP)<|zx14<|zf3 ⟨_,rfl,?_⟩
   exact⟨_,0,fun _=>0,0,1,rfl,.inl ⟨‹¬t.Ok cap›,rfl,rfl,rfl⟩,slh_nil,(hS.addnil 1 3 (ints fun _=>0)).pk [0]⟩
  refine Z7<|zlv xmv ?_
  have hk:t.Ok cap:=by first|assumption|exact Classical.not_not.1 ‹_›
  refine(zP)<|zlc (xc0 Zix) (ZeO (t:=t) (cap:=cap) w (hI.below hS.below) hk) ?_;rintro xG w ⟨_,q7,rfl,xK,hS'⟩
  replace hS:=(hS.comp hS').n2;clear hS'
  have yn:=fun k (k0:0<=k) (k1:k<(t.n+1))=>hS.slhIn 1 rfl k0 k1
  refine(zP)<|zlz<|(zP)<|(zP)<|zx5<|(zP)<|(zV (xln XB hI.slh))<|(zP)<|zx6 ?_
  replace hS:=hS.addnil 1 3 (ints (fun _=>0))
  have hk1:=hk.n;have hk2:=hk.c0;have hk3:=hk.c1
  refine zlp (fun mm M w=>∃(nx:Int) (c:Int) (i:Int) (wx:Value) (fx:Int->Int),mm=((t.n-i).toNat)/\(0<=i)/\(i<=t.n)/\(nx=i)/\(0<=c)/\(c<=cap)/\(c=cap-KU t fx i.toNat)/\(KX t cap fx i)/\(Slh wx nx)/\M= [(1,.int .i64 cap),(4,wx),(5,.int .i64 0),(6,.int .i64 0),(7,xG),(8,.int .i64 c),(20,vI),(21,.int .i64 t.n),(22,.int .i64 i)]/\Sat w0 w [.own xG 1 22 (t.n+1) q7,.sem (Frame.rows 3 (t.n+1) q7 (fun _=>cap+1) (KI t)),.own wx 1 3 nx (ints fx)]) ⟨0,cap,0,(.slice none 0 0),(fun _=>0),rfl,(by omega),(by omega),(by omega),(by omega),(by omega),?_,?_,?_,rfl,hS⟩ ?_
  ·
   show cap=cap-0;omega
  ·
   intro k k0 k1;omega
  ·
   exact slh_nil
  clear hS w
  rintro mm M w ⟨nx,c,i,wx,fx,rfl,i0,i1,hnx,c0,c1,hcu,hkx,hwx,rfl,hS⟩
  refine zsr<|(zP)<|zx7<|Ze ?_ ?_<;>intro hc
  ·
   refine zx3<|(zP)<|(zV (xix (kk:=3*i) XB hI.slh))<|zlv (xlw (cs:= [.int .i64 (t.S i),.int .i64 (t.V i),.int .i64 (t.M i)]) Ry (hI.below hS.below) (Xx (k:=3*i) (i:=i) t.S t.V t.M (by omega))) ?_
   have hev:=hk.all i i0 (by omega);unfold Its.each Ys at hev
   obtain⟨j0,hj0,hj1,hj2,hj3⟩:=ZgU hk i0 (by omega:i<t.n) (c:=c) (by omega)
   have hjd:=Zdq hk i0 (by omega:i<t.n) hj2 (by omega)
   have hqf:=VY (a:=c) (b:=t.S i) (by omega) hev.1
   refine zla (xal (cs:= [_,_,_]) ZaZ hS) ?_;rintro _ w ⟨g1,rfl,hS⟩
   refine(zP)<|zle (xsw 3 Ry hS) ?_;clear hS;rintro w hS
   refine zx7<|zdst [0,1,2,3] [0,1,2,3] 1000 mx_ hS ?_;clear hS;intro w hS
   refine(zDw 0 (xfb 2 fd_125_2))<|(zDl 1 (fun w hS=>(xlb 3 pl_3 hS)))<|(zDw 2 xmv)<|(zDw 3 (xfb 0 fd_125_0))<|(zDl 4 (fun w hS=>(xlb 3 pl_3 hS)))<|(zDw 5 (Ut (r:=(Int.tdiv c (t.S i)))))<|(zDw 6 (ZaH (r:=(min (t.M i) (Int.tdiv c (t.S i))))))<|(zDw 7 xas)<|zdd<|ztn<|zsq<|zbk<|zlp (fun mm M w=>∃(n:Int),mm=((n-j0).toNat)/\(j0<=n)/\(n<=min (t.M i) (c.tdiv (t.S i)))/\(∀j,n<j->j<=t.M i->j*t.S i<=c->KI t (i+1) (c-j*t.S i)+j*t.V i≠KI t i c)/\M= [(1,.int .i64 cap),(4,wx),(5,.int .i64 0),(6,.int .i64 0),(7,xG),(8,.int .i64 c),(9,.int .i64 i),(10,.pointer (some ⟨g1,0,none⟩)),(11,.int .i64 n),(20,vI),(21,.int .i64 t.n),(22,.int .i64 i)]/\Sat w0 w [.own xG 1 22 (t.n+1) q7,.sem (Frame.rows 3 (t.n+1) q7 (fun _=>cap+1) (KI t)),.own wx 1 3 nx (ints fx),.blk g1 [.int .i64 (t.S i),.int .i64 (t.V i),.int .i64 (t.M i)]]) ⟨(min (t.M i) (c.tdiv (t.S i))),rfl,(by omega),(by omega),?_,rfl,hS⟩ ?_
   ·
    intro j h1 h2 h3;have:=Zdq hk i0 (by omega:i<t.n) h3 (by omega);omega
   clear hS w
   rintro mm M w ⟨n,rfl,hnj,hnm,qa,rfl,hS⟩
   refine zsq<|zsq<|zdst [0,1,2,3] [0,1,2,3] 1000 mx_ hS ?_;clear hS;intro w hS
   refine(zDw 0 xmv)<|(zDw 1 xmv)<|(zDw 2 (Zf (r:=i+1)))<|(zDw 3 (xix (kk:=i+1) Zi xK))<|(zDl 4 (fun w hS=>(xlr (u:=(q7 (i+1))) pl_22 (hS.rowN 0 rfl))))<|(zDw 5 xmv)<|zDrv 6 xmv ?_
   have hjs:=ZbI hk i0 (by omega:i<t.n) (show 0<=n by omega) (show n<=c.tdiv (t.S i) by omega) (by omega)
   have hjv:=Zdp hk i0 (by omega:i<t.n) (show 0<=n by omega) (by omega)
   have hkb:=Xa hk (i:=i+1) (by omega) (by omega) (c:=c-n*t.S i) (by omega)
   have hkc:=Xa hk (i:=i) (by omega) (by omega) (c:=c) (by omega)
   refine(zDw 7 (xfb 0 fd_125_0))<|(zDl 8 (fun w hS=>(xlb 3 pl_3 hS)))<|(zDw 9 (Z4 (r:=(n*(t.S i))) (e:=rfl)))<|(zDw 10 (ZD (r:=c-(n*(t.S i)))))<|(zDw 11 (xix (kk:=c-(n*(t.S i))) Zb (yn (i+1) (by omega) (by omega))))<|(zDl 12 (fun w hS=>(xlr (u:= .int .i64 ((KI t) (i+1) (c-(n*(t.S i))))) pl_3 (hS.rowIn (k:=i+1) 1 rfl (by omega) (by omega)))))<|(zDw 13 xmv)<|(zDw 14 (xfb 1 fd_125_1))<|(zDl 15 (fun w hS=>(xlb 3 pl_3 hS)))<|(zDw 16 (Z4 (r:=(n*(t.V i))) (e:=rfl)))<|(zDw 17 (Zf (r:=((KI t) (i+1) (c-(n*(t.S i))))+(n*(t.V i)))))<|(zDw 18 xmv)<|(zDw 19 xmv)<|(zDw 20 (xix (kk:=i) Zi xK))<|zdla 21 (fun w hS=>(xlr (u:=(q7 i)) pl_22 (hS.rowN 0 rfl))) ?_
   refine(zDw 22 xmv)<|(zDw 23 (xix (kk:=c) Zb (yn i (by omega) (by omega))))<|(zDl 24 (fun w hS=>(xlr (u:= .int .i64 ((KI t) i c)) pl_3 (hS.rowIn (k:=i) 1 rfl (by omega) (by omega)))))<|(zDw 25 YN)<|zdd<|ztn ?_
   refine Ze ?_ ?_<;>intro hc
   ·
    refine zsk<|ztn<|zbk<|zrg<|(zP)<|(zV (ZD (r:=n-1)))<|(zP)<|zln<|zbn ?_
    have hne:j0≠n:=fun hh=>by rw [hh] at hj3;omega
    refine zlq ⟨n-1,rfl,(by omega),(by omega),?_,rfl,hS⟩
    ·
     intro j h1 h2 h3;by_cases e:j=n
     · rw [e];assumption
     · exact qa j (by omega) h2 h3
   refine zx8<|zlv xmv ?_
   have hjs:=ZbI hk i0 (by omega:i<t.n) (show 0<=n by omega) (show n<=c.tdiv (t.S i) by omega) (by omega)
   have hjv:=Zdp hk i0 (by omega:i<t.n) (show 0<=n by omega) (by omega)
   have hkb:=Xa hk (i:=i+1) (by omega) (by omega) (c:=c-n*t.S i) (by omega)
   have hkc:=Xa hk (i:=i) (by omega) (by omega) (c:=c) (by omega)
   have hqe:KI t (i+1) (c-n*t.S i)+n*t.V i=KI t i c:=by omega
   refine(zP)<|zla (xli (n:=1) (len:=1) (pv:= [(0,.int .i64 n)]) (cs:= [.int .i64 n]) (c:=ints (fun _=>n)) Zb Zn hS) ?_;rintro v1 w ⟨hS,hv1⟩
   refine zla (xap 2 (r:=nx+1) Zb Zn hS (hS.rowN 4 rfl) (Z1 _ _ _)) ?_;rintro v2 w ⟨hS,hv2⟩
   refine(zP)<|zlt<|zrg<|(zP)<|(zP)<|(zV (xfb 0 fd_125_0))<|(zV (xlb 3 pl_3 hS))<|(zV (Z4 (r:=(n*(t.S i))) (e:=rfl)))<|(zV (ZD (r:=c-(n*(t.S i)))))<|(zP)<|zx10<|(zV (Zf (r:=i+1)))<|(zP)<|zln<|zlq ⟨nx+1,c-(n*(t.S i)),i+1,v2,(snoc fx nx n),rfl,(by omega),(by omega),(by omega),(by omega),(by omega),?_,?_,?_,rfl,hS.pk [0,1,2]⟩
   ·
    rw [hnx,Kj t fx n i0];omega
   ·
    rw [hnx];rw [hcu] at qa hjs hqe;exact KX.snoc hkx i0 (by omega) (by omega) (by omega) hqe (fun j j0 j1 j2=>qa j j0 j1 j2)
   ·
    exact hv2
  refine zxt<|ztx<|ztx<|zbh<|ztn<|zsq<|zdst [0,1,2] [0,1,2] 1000 mx_ hS ?_;clear hS;intro w hS
  refine(zDw 0 xmv)<|(zDw 1 xmv)<|zDrv 2 (xix (kk:=0) Zi xK) ?_
  have hk0:=Xa hk (i:=0) (by omega) (by omega) (c:=cap) (by omega)
  refine(zDl 3 (fun w hS=>(xlr (u:=(q7 0)) pl_22 (hS.rowN 0 rfl))))<|(zDw 4 xmv)<|(zDw 5 (xix (kk:=cap) Zb (yn 0 (by omega) (by omega))))<|(zDl 6 (fun w hS=>(xlr (u:= .int .i64 ((KI t) 0 cap)) pl_3 (hS.rowIn (k:=0) 1 rfl (by omega) (by omega)))))<|(zDw 7 xas)<|(zDw 8 xas)<|(zDw 9 xas)<|zdd<|ztn<|zrt<|zf3 ⟨_,rfl,?_⟩
  obtain rfl:i=t.n:=by omega
  subst hnx
  exact⟨_,_,_,_,0,rfl,.inr ⟨hk,rfl,hkx,rfl,rfl⟩,hwx,hS.pk [2]⟩
end Go.Proofs.YtopmifmfecfaaaaGreat
namespace Go.Proofs.Gw
open Go Go.RowKit
section
variable {P:Program} {L:List (Nat×Value)} {w w0:World} {o:Oper} {x y z:Operand} {T T':TypeId} {l:List Ent} {E:TypeId}
theorem Ug (g q:Nat) (E:TypeId):∀(vs:List Value) (k:Nat) (cur:List Value) (w:World),w.heap[g]? =some (.cells cur.toArray E (0,0))->q+k+vs.length<=cur.length->(∀v∈vs,v.oneCell'=true)->
    ∃w',(storeCells ⟨g,q,none⟩ vs k).run P w= .ok () w'/\w'.heap[g]? =some (.cells (cur.take (q+k)++vs++cur.drop (q+k+vs.length)).toArray E (0,0))/\(∀j,j≠g->w'.heap[j]? =w.heap[j]?)/\w'.tape=w.tape/\w'.os=w.os/\w'.output=w.output/\w'.heap.size=w.heap.size
  | [],k,cur,w,hg,hk,_=>⟨w,rfl,by simp [hg],fun _ _=>rfl,rfl,rfl,rfl,rfl⟩
  | v ::vs,k,cur,w,hg,hk,h1=>by
    simp only [List.length_cons] at hk
    have hv:=h1 v (by simp)
    have hlt:q+k<cur.length:=by omega
    have hc:w.cell? ⟨g,q+k,none⟩=some cur[q+k]:=by simp [World.cell?,hg,hlt]
    have hf:w.frozen? ⟨g,q+k,none⟩=false:=by simp [World.frozen?,hg]
    have hg':(w.setCell ⟨g,q+k,none⟩ v).heap[g]? =some (.cells (cur.set (q+k) v).toArray E (0,0)):=by simp [World.setCell,Array.getElem?_modify,hg]
    obtain⟨w',h2,h3,h4,h5,h6,h7,h8⟩:=Ug g q E vs (k+1) (cur.set (q+k) v) (w.setCell ⟨g,q+k,none⟩ v) hg' (by simp;omega) (fun u hu=>h1 u (by simp [hu]))
    refine⟨w',?_,?_,fun j hj=> ?_,h5,h6,h7,?_⟩
    · have e0:(⟨g,q,none⟩:Addr).add k=⟨g,q+k,none⟩:=by rw [Addr.add_eq _ rfl]
      simp only [storeCells,Sem.run_bind,e0]
      rw [run_store P w _ v _ hv,hc]
      simp only [hf]
      exact h2
    · rw [h3]
      congr 3
      have e1:(cur.set (q+k) v).take (q+(k+1))=cur.take (q+k)++ [v]:=by
        rw [show q+(k+1)=q+k+1 by omega,List.take_set,List.take_succ_eq_append_getElem hlt,List.set_append_right _ _ (by simp;omega)]
        simp [Nat.min_eq_left (Nat.le_of_lt hlt)]
      have e2:(cur.set (q+k) v).drop (q+(k+1)+vs.length)=cur.drop (q+k+(v::vs).length):=by
        rw [List.drop_set_of_lt (by omega)];congr 1;simp;omega
      rw [e1,e2];simp
    · rw [h4 j hj];exact Below.heap_setCell _ _ _ _ hj
    · rw [h8];simp [World.setCell]
theorem xsp(i:Nat){g q k:Nat}{cs ds es:List Value}(ht:ZF P T=some k)(hS:Sat w0 w l)(ho:o.op= .store T x y:=by exact rfl)(hi:l[i]? =some (.blk g cs):=by exact rfl)(hx:evL L x=some (.pointer (some ⟨g,q,none⟩)):=by exact rfl)(hy:evL L y=some (.agg ds.toArray):=by exact rfl)
    (hl:ds.length=k:=by exact rfl) (hc:Nat.ble (q+ds.length) cs.length=true:=by exact rfl) (he:cs.take q++ds++cs.drop (q+ds.length)=es:=by exact rfl) (hd:∀v∈ds,v.oneCell'=true:=by repeat' first|exact Zg|apply Za rfl):∃w',Runs P L w o .skip w'/\Sat w0 w' (l.set i (.blk g es)):=by
  obtain⟨_,hsz⟩:=Xw (w:=w) ht
  obtain⟨E,hg⟩:=hS.holds _ (List.mem_of_getElem? hi)
  obtain⟨w',h3,h4,h5,h6,h7,h8,h9⟩:=Ug (P:=P) g q E ds 0 cs w hg (by have:=Nat.le_of_ble_eq_true hc;omega) hd
  refine⟨w',fun ρ h=> ?_,?_⟩
  · simp [execOp,ho,h _ _ hx,h _ _ hy,Instr.storeAt,Instr.sureAddr,storeVar,Value.cells,hsz,hl,h3]
  · have hS':=hS
    rw [Yc hi] at hS'
    rw [YL hi]
    refine hS'.turn (fun j _ hj=>h5 j (fun e=>hj (by rw [e];rfl))) h6 h7 h8 (by omega) ⟨E,?_⟩ (fun _ h=> .inl h)
    rw [h4,Nat.add_zero,he]
theorem Zjb {l:List Ent} (h:(Frame.bun l).holds w) (is:List Nat) (hn:is.Nodup:=by decide):(Frame.bun (pkL l is)).holds w:=by
  refine⟨fun e he=> ?_,?_⟩
  · obtain⟨i,_,hi⟩:=XJ he;exact h.1 e (List.mem_of_getElem? hi)
  · have hs:=h.2
    induction is with
    |nil=>exact List.Pairwise.nil
    | cons i is ih=>
      obtain⟨hni,hn⟩:=List.nodup_cons.1 hn
      unfold pkL
      cases hi:l[i]? with
      |none=>exact ih hn
      | some e=>
        refine List.pairwise_cons.2 ⟨fun e' he'=> ?_,ih hn⟩
        obtain⟨j,hj,hj'⟩:=XJ he'
        have hil:=(List.getElem?_eq_some_iff.1 hi)
        have hjl:=(List.getElem?_eq_some_iff.1 hj')
        obtain⟨ew,ev⟩:=hil
        obtain⟨eu,et⟩:=hjl
        have hij:i≠j:=fun e=>hni (e▸hj)
        rcases Nat.lt_or_gt_of_ne hij with h1|h1
        · have:=List.pairwise_iff_getElem.1 hs i j ew eu h1
          rw [ev,et] at this;exact this
        · have:=List.pairwise_iff_getElem.1 hs j i eu ew h1
          rw [ev,et] at this;exact this.symm
theorem Zgr{l:List Ent}(is:List Nat){g:Nat}(h:(Frame.bun (pkL l is)).has g):(Frame.bun l).has g:=by
  obtain⟨e,he,hg⟩:=h
  obtain⟨i,_,hi⟩:=XJ he
  exact⟨e,List.mem_of_getElem? hi,hg⟩
def Frame.gives(F:Frame)(l:List Ent):Prop:=(∀w,F.holds w->(Frame.bun l).holds w)/\∀g,(Frame.bun l).has g->F.has g
theorem U7{l m:List Ent}(is:List Nat)(e:pkL l is=m:=by exact rfl)(hn:is.Nodup:=by decide):(Frame.bun l).gives m:=by
  subst e;exact⟨fun w h=>Zjb h is hn,fun g h=>Zgr is h⟩
theorem Sat.given{l:List Ent}(h:Sat w0 w l)(i:Nat){F:Frame}{m:List Ent}(hF:F.gives m)(hi:l[i]? =some (.sem F):=by exact rfl):Sat w0 w (l.set i (.sem (Frame.bun m))):=by
  have h':=h
  rw [Yc hi] at h'
  rw [YL hi]
  exact h'.turn (d:= .sem F) (fun k _ _=>rfl) rfl rfl rfl (Nat.le_refl _) (hF.1 _ (h.holds _ (List.mem_of_getElem? hi))) (fun g hg=> .inl (hF.2 g hg))
end
end Go.Proofs.Gw
namespace Go.Proofs.Gw
open Go Go.RowKit
def FZ(r:Option Nat):Fence:={fn:=fun _=>True,depth:=none,alive:=false,round:=r}
theorem WH{P:Program}{f:FuncId}{args:Array Value}{w:World}{R:Ending->World->Prop}{r:Option Nat}{n:Nat}(h:Calls P f args w R):CallsIn (FZ r) n P f args w R:=
  (callsIn_wide (n:=n)).2 h
theorem Rl{P:Program}{f:FuncId}{args:Array Value}{w:World}{R:Ending->World->Prop}{r:Option Nat}{n:Nat}(h:CallsIn (FZ r) n P f args w R):Calls P f args w R:=
  (callsIn_wide (n:=n)).1 h
abbrev Frd(a:Act)(n:Nat)(ds:List Deferred)(L:List (Nat×Value)):Prop:=Fr a n ds L
def ndf(o:Oper):Bool:=match o.op with
  | .defer _=>false
  |_=>true
theorem XM{o:Oper}(h:ndf o=true)(r:Option Nat)(ρ:Operand->Value):o.semAt r ρ=execOp ρ o:=
  Oper.semAt_eq _ _ _ (by intro c hc;unfold ndf at h;rw [hc] at h;cases h)
section
variable {P:Program} {l rest:List Oper} {Q Q':Exit->Act->World->Prop} {w w' w0:World} {o:Oper} {n d:Nat} {L M:List (Nat×Value)} {x y:Code} {c:Operand} {e:Exit} {p:Prop} {r:Option Nat} {ds:List Deferred}
def Hl(P:Program)(r:Option Nat)(n:Nat)(l:List Oper)(Q:Exit->Act->World->Prop)(rest:List Oper)(ds:List Deferred)(L:List (Nat×Value))(w:World):Prop:=∀a,Frd a n ds L->wpListIn (FZ r) 0 P l.toArray Q rest a w
def Hc(P:Program)(r:Option Nat)(n:Nat)(Q:Exit->Act->World->Prop)(x:Code)(ds:List Deferred)(L:List (Nat×Value))(w:World):Prop:=∀a,Frd a n ds L->x.wpIn (FZ r) 0 P Q a w
abbrev He(n:Nat)(Q:Exit->Act->World->Prop)(e:Exit)(ds:List Deferred)(L:List (Nat×Value))(w:World):Prop:=Ge n ds Q e L w
theorem Um{b:Bool}{a:Act}(hF:Frd a n ds L)(h:gdB l L o=some b):Region.wanted o (yielded l.toArray a.tmps)=b:=by
  exact(Ye h).wanted hF
theorem hlv{v:Value}(hr:Runs P L w o (.value v) w')(K:Hl P r n l Q rest ds ((d,v)::L) w')(hg:gdB l L o=some true:=by exact rfl)(hd:o.dst=some d:=by exact rfl)(hdn:Nat.blt d n=true:=by exact rfl)(hn:ndf o=true:=by exact rfl):Hl P r n l Q (o::rest) ds L w:=fun a hF=>by
  unfold wpListIn
  rw [if_pos (Um hF hg)]
  refine⟨fun _ _=>trivial,?_⟩
  rw [XM hn,hr _ hF.agr,Oper.uponIn_value,hd]
  exact K _ (hF.put (by simpa [Nat.blt_eq] using hdn) v)
theorem hlo(K:Hl P r n l Q rest ds ((d,undef)::L) w)(hg:gdB l L o=some false:=by exact rfl)(hd:o.dst=some d:=by exact rfl)(hdn:Nat.blt d n=true:=by exact rfl):Hl P r n l Q (o::rest) ds L w:=fun a hF=>by
  unfold wpListIn
  rw [if_neg (by rw [Um hF hg];simp)]
  refine⟨fun _ _=>trivial,?_⟩
  rw [hd]
  exact K _ (hF.put (by simpa [Nat.blt_eq] using hdn) undef)
theorem hle{R:World->Prop}(hr:∃w',Runs P L w o .skip w'/\R w')(K:∀w',R w'->Hl P r n l Q rest ds L w')(hg:gdB l L o=some true:=by exact rfl)(hd:o.dst=none:=by exact rfl)(hn:ndf o=true:=by exact rfl):Hl P r n l Q (o::rest) ds L w:=fun a hF=>by
  obtain⟨w',hr,hR⟩:=hr
  unfold wpListIn
  rw [if_pos (Um hF hg)]
  refine⟨fun _ _=>trivial,?_⟩
  rw [XM hn,hr _ hF.agr,Oper.uponIn_skip,hd]
  exact K w' hR a hF
theorem hlc{f:FuncId}{args:Array Value}{R:Value->World->Prop}(hr:Runs P L w o (.enter f args) w)(hc:Calls P f args w fun e w'=>∃v,e= .returned v/\R v w')(K:∀v w',R v w'->Hl P r n l Q rest ds ((d,v)::L) w')
    (hg:gdB l L o=some true:=by exact rfl) (hd:o.dst=some d:=by exact rfl) (hdn:Nat.blt d n=true:=by exact rfl) (hn:ndf o=true:=by exact rfl):Hl P r n l Q (o::rest) ds L w:=fun a hF=>by
  unfold wpListIn
  rw [if_pos (Um hF hg)]
  refine⟨fun _ _=>trivial,?_⟩
  rw [XM hn,hr _ hF.agr,Oper.uponIn_enter]
  refine⟨fun h=>(by cases h),WH (hc.mono fun e w' ⟨v,he,hR⟩=> ?_)⟩
  subst he
  rw [hd]
  exact K v w' hR _ (hF.put (by simpa [Nat.blt_eq] using hdn) v)
def Yld(P:Program)(l:Nat)(vs:List Value)(w:World)(R:Value->World->Prop):Prop:=
  ∃fn tmps assign body,(Instr.yield l vs.toArray).run P w= .ok (.round l fn tmps assign body) w/\RoundIn (FZ none) 0 P l fn tmps assign body w fun e w'=>∃v,e= .returned v/\R v w'
theorem xyl{l0:Nat}{xs:Array Operand}{ts:Array TypeId}{vs:List Value}{z:Operand}{N:Next}(hy:(Instr.yield l0 vs.toArray).run P w= .ok N w)(ho:o.op= .call {callee:= .value z,args:=xs,argTypes:=ts})(hx:evL L z=some (.func (.yield l0) #[] #[]))(ha:Ub L xs vs):Runs P L w o N w:=fun ρ h=>by
  have h1:=ha ρ h
  simp [execOp,ho,resolve,h _ _ hx,Deferred.ofValue,invoke,h1,hy]
theorem hly{l0:Nat}{xs:Array Operand}{ts:Array TypeId}{vs:List Value}{z:Operand}{R:Value->World->Prop}(hY:Yld P l0 vs w R)(K:∀v w',R v w'->Hl P none n l Q rest ds ((d,v)::L) w')
    (ho:o.op= .call {callee:= .value z,args:=xs,argTypes:=ts}:=by exact rfl) (hx:evL L z=some (.func (.yield l0) #[] #[]):=by exact rfl) (ha:Ub L xs vs:=by repeat' first|exact Zax|apply X7 rfl)
    (hg:gdB l L o=some true:=by exact rfl) (hd:o.dst=some d:=by exact rfl) (hdn:Nat.blt d n=true:=by exact rfl):Hl P none n l Q (o::rest) ds L w:=fun a hF=>by
  obtain⟨fn,tmps,assign,body,hy,hR⟩:=hY
  have hr:=xyl (P:=P) (L:=L) (o:=o) hy ho hx ha
  unfold wpListIn
  rw [if_pos (Um hF hg)]
  refine⟨fun _ _=>trivial,?_⟩
  rw [XM (by unfold ndf;rw [ho]),hr _ hF.agr,Oper.uponIn_round]
  refine⟨fun h=>(by cases h),hR.mono fun e w' ⟨v,he,hR⟩=> ?_⟩
  subst he
  rw [hd]
  exact K v w' hR _ (hF.put (by simpa [Nat.blt_eq] using hdn) v)
theorem hln(K:He n Q .normal ds L w):Hl P r n l Q [] ds L w:=K
theorem hlb(d:Nat)(ht:p->Hl P r n l Q rest ds ((d,.bool true)::L) w)(hf:¬p->Hl P r n l Q rest ds ((d,.bool false)::L) w)(hd:lk L d=some (B p):=by exact rfl):Hl P r n l Q rest ds L w:=fun a hF=>
  Kc hF hd (fun hp h=>ht hp _ h) (fun hp h=>hf hp _ h)
theorem hsq(h:Hc P r n (Exit.then (y.wpIn (FZ r) 0 P Q) Q) x ds L w):Hc P r n Q (.seq x y) ds L w:=fun a hF=>wpIn_seq (h a hF)
theorem hrg{id:Nat}(h:Hl P r n l Q l ds L w):Hc P r n Q (.region id l.toArray false) ds L w:=fun a hF=>wpIn_region_lit (h a hF)
def U1(Q:Exit->Act->World->Prop):Exit->Act->World->Prop:=fun e a w=>e= .normal/\Q .normal a w
theorem KP:¬LetsOut (U1 Q):=fun⟨_,_,h⟩=>by cases h.1
theorem Zfh{row:String}{args:Array Value}{R:Value->World->Prop}(h:Rows P row args w R):RowsIn (FZ r) 0 P row args w R:=fun c cs _=>by
  obtain⟨v,w',h1,h2⟩:=h c cs
  exact⟨v,w',h1,(stepsIn_wide (P:=P)).2 h2⟩
theorem Wi {ops:Array Oper} {Qn:Exit->Act->World->Prop} (q1:∀a w,Qn .normal a w->Q .normal a w) (q2:∀ch a w,¬Qn (.panic ch) a w) (q3:¬LetsOut Qn) (hn:ops.toList.all ndf=true):∀(is:List Nat) (a:Act) (w:World),wpOps P ops Qn is a w->wpOpsIn (FZ r) 0 P ops Q is a w
  | [],a,w,h=>q1 _ _ h
  | i ::is,a,w,h=>by
    unfold wpOps at h
    unfold wpOpsIn
    cases ho:ops[i]? with
    |none=>simp only [ho] at h⊢;exact Wi q1 q2 q3 hn is a w h
    | some o=>
      simp only [ho] at h⊢
      have fw:ndf o=true:=List.all_eq_true.1 hn o (by
        obtain⟨hi,rfl⟩:=Array.getElem?_eq_some_iff.1 ho
        simp)
      by_cases hw:Region.wanted o (yielded ops a.tmps)=true
      · rw [if_pos hw] at h⊢
        refine⟨fun _ _=>trivial,?_⟩
        rw [XM fw]
        rcases h with h|h
        · unfold Oper.wp at h
          cases he:(execOp a.eval o).run P w with
          | ok N w1=>
            rw [he] at h
            cases N with
            |value v=>exact Wi q1 q2 q3 hn is _ _ h
            |skip=>exact Wi q1 q2 q3 hn is _ _ h
            |defer d=>exact Wi q1 q2 q3 hn is _ _ h
            | enter f args=>
              refine⟨fun h=>(by cases h),WH (Calls.mono h fun e w' hh=> ?_)⟩
              cases e with
              |returned v=>exact Wi q1 q2 q3 hn is _ _ hh
              |panicked ch=>exact absurd hh (q2 _ _ _)
              |outgrown=>exact absurd hh q3
            | row rw args=>
              refine⟨fun h=>(by cases h),Zfh (Rows.mono h fun v w' hh=>Wi q1 q2 q3 hn is _ _ hh)⟩
            |_=>exact h.elim
          | halt x w1=>
            rw [he] at h
            cases x with
            |panic v=>exact absurd h (q2 _ _ _)
            |_=>exact h.elim
        · exact absurd h.2 q3
      · rw [if_neg hw] at h⊢
        exact⟨fun _ _=>trivial,Wi q1 q2 q3 hn is _ _ h⟩
theorem Zjp:∀a w,U1 Q .normal a w->Q .normal a w:=fun _ _ h=>h.2
theorem Zjo:∀ch a w,¬U1 Q (.panic ch) a w:=fun _ _ _ h=>by cases h.1
theorem zh(h:Ge n ds Q .normal L w):Ge n ds (U1 Q) .normal L w:=fun a hF=>⟨rfl,h a hF⟩
theorem KK{ops:Array Oper}{a:Act}(h:wpList P ops Q ops.toList a w):wpOps P ops Q (List.range ops.size) a w:=by
  rw [List.range_eq_range',<-Array.length_toList,wpOps_eq_wpList ops.toList 0 (by simp)];exact h
theorem hrz{id:Nat}(h:Gl P n ds l (U1 Q) l L w)(hn:l.all ndf=true:=by exact rfl):Hc P r n Q (.region id l.toArray false) ds L w:=fun a hF=>
  wpIn_region (Wi Zjp Zjo KP (by simpa using hn) _ _ _ (KK (by have:=h a hF;simpa using this)))
theorem hdst{w0:World}{id:Nat}{m m0 m1:List Ent}{fuel:Nat}(is js:List Nat)(brk:Nat)(hm:P.follows .mixedOrders=true)(hS:Sat w0 w m)(K:∀w',Sat w0 w' m->Gd P n ds l (U1 Q) (fun w'=>Sat w0 w' m0) (fun w'=>Sat w0 w' m1) brk fuel (Array.replicate fuel false) L w')
    (h0:pkL m is=m0:=by exact rfl) (h1:pkL m js=m1:=by exact rfl) (hn0:is.Nodup:=by decide) (hn1:js.Nodup:=by decide) (hn:l.length=fuel:=by exact rfl) (hnd:l.all ndf=true:=by exact rfl):Hc P r n Q (.region id l.toArray true) ds L w:=fun a hF=>by
  subst h0;subst h1;subst hn
  refine wpIn_region_draw fun t=>Wi (Qn:=NoPanic (U1 Q)) (fun _ _ h=>h.2) (fun _ _ _ h=>h.elim) (fun⟨_,_,h⟩=>by cases h.1) (by simpa using hnd) _ _ _ ?_
  simp only [Region.schedule,hm,Bool.true_or,if_true]
  have hcl:Closed l.toArray (Array.replicate l.length false):=by have:=Closed.start (ops:=l.toArray);simpa using this
  have h2:=W4 _ _ _ _ (K w.drew hS.draw hcl ⟨fun _=>hS.draw.pk is hn0,hS.draw.pk js hn1⟩ a hF)
  have h3:=wpAny_sound l.length t _ a _ h2
  have e:l.toArray.size=l.length:=by simp
  first|exact h3|(unfold Region.linearise;rw [e];exact h3)
theorem Wz(ht:p->Hc P r n Q x ds L w)(hf:¬p->Hc P r n Q y ds L w)(hc:evL L c=some (B p):=by exact rfl):Hc P r n Q (.cond c x y) ds L w:=fun a hF=>by
  have:=hF.agr _ _ hc
  by_cases hp:p
  · exact wpIn_cond_true (by rw [this,YM hp]) (ht hp a hF)
  · exact wpIn_cond_false (by rw [this,B_false hp]) (hf hp a hF)
theorem hct(h:Hc P r n Q x ds L w)(hc:evL L c=some (.bool true):=by exact rfl):Hc P r n Q (.cond c x y) ds L w:=fun a hF=>wpIn_cond_true (hF.agr _ _ hc) (h a hF)
theorem hcf(h:Hc P r n Q y ds L w)(hc:evL L c=some (.bool false):=by exact rfl):Hc P r n Q (.cond c x y) ds L w:=fun a hF=>wpIn_cond_false (hF.agr _ _ hc) (h a hF)
theorem hsk(h:He n Q .normal ds L w):Hc P r n Q .skip ds L w:=fun a hF=>wpIn_skip (h a hF)
theorem hrt(h:He n Q .ret ds L w):Hc P r n Q .ret ds L w:=fun a hF=>wpIn_ret (h a hF)
theorem hxt{id:Nat}(h:He n Q (.exit id) ds L w):Hc P r n Q (.exit id) ds L w:=fun a hF=>wpIn_exit (h a hF)
theorem hbk{id:Nat}(h:Hc P r n (Exit.inBlock id Q) x ds L w):Hc P r n Q (.block id x) ds L w:=fun a hF=>wpIn_block (h a hF)
theorem htn(h:Hc P r n Q y ds L w):He n (Exit.then (y.wpIn (FZ r) 0 P Q) Q') .normal ds L w:=h
theorem ZaJ {F:Fence} {nn:Nat} {body:Code} {a:Act} (I:Nat->Act->World->Prop) {m:Nat} (h0:I m a w) (round:∀m a w,I m a w->body.wpIn F nn P (Exit.then (fun a' w'=>∃m',m'<m/\I m' a' w') Q) a w):(Code.loop body).wpIn F nn P Q a w:=by
  intro b k cs hro hb hr
  have key:∀m a w,I m a w->∃e a' w',Q e a' w'/\ArrivesIn (Machine.fenced P F) P (lone (b.atR a (.code body:: .inLoop body::k)) cs w) b k cs e a' w':=by
    intro m
    induction m using Nat.strongRecOn with
    | _ m ih=>
      intro a w hI
      obtain⟨e,a₁,w₁,hq,yb⟩:=round m a w hI b (.inLoop body::k) cs hro hb hr
      cases e with
      | normal=>
        obtain⟨m',hlt,hI₁⟩:=hq
        obtain⟨e₂,a₂,w₂,hq₂,harr₂⟩:=ih m' hlt a₁ w₁ hI₁
        exact⟨e₂,a₂,w₂,hq₂,.of_steps (StepsIn.trans yb (.one (fenced_calm hb hr rfl) stepR_inLoop)) harr₂⟩
      |exit id=>exact⟨_,a₁,w₁,hq,.pass (x:= .inLoop body) rfl (fun _ _=> .inl (by simp)) yb⟩
      |goto l=>exact⟨_,a₁,w₁,hq,.pass (x:= .inLoop body) rfl (fun _ _=> .inl (by simp)) yb⟩
      |ret=>exact⟨_,a₁,w₁,hq,.pass (x:= .inLoop body) rfl (fun _ _=> .inl (by simp)) yb⟩
      |panic ch=>exact⟨_,a₁,w₁,hq,.pass (x:= .inLoop body) rfl (fun _ _=> .inl (by simp)) yb⟩
      |outgrown=>exact⟨_,a₁,w₁,hq,.pass (x:= .inLoop body) rfl (fun _ _=> .inl (by simp)) yb⟩
  obtain⟨e,a',w',hq,yb⟩:=key m a w h0
  exact⟨e,a',w',hq,.of_steps (.one (fenced_calm hb hr rfl) stepR_loop) yb⟩
theorem hlp(J:Nat->List (Nat×Value)->World->Prop){m:Nat}(h0:J m M w)(round:∀m M w,J m M w->Hc P r n (Exit.then (fun a w=>∃m',m'<m/\∃M',J m' M' w/\Frd a n ds M') Q) x ds M w)
    (hM:Sub L M:=by repeat' first|exact UH|refine zpk rfl ?_):Hc P r n Q (.loop x) ds L w:=fun a hF=>
  ZaJ (fun m a w=>∃M,J m M w/\Frd a n ds M) ⟨M,h0,hF.sub hM⟩ fun m a w ⟨M',hJ,hF'⟩=>round m M' w hJ a hF'
theorem hlq{J:Nat->List (Nat×Value)->World->Prop}{m m':Nat}(hJ:J m' M w)(hlt:m'<m:=by omega)(hM:Sub L M:=by repeat' first|exact UH|refine zpk rfl ?_):He n (Exit.then (fun a w=>∃m',m'<m/\∃M',J m' M' w/\Frd a n ds M') Q) .normal ds L w:=
  fun a hF=>⟨m',hlt,M,hJ,hF.sub hM⟩
theorem Zg7{f:FuncId}{fn:Func}{vs:List Value}{R:Ending->World->Prop}(hf:P.funcs[f]? =some fn)(hn:fn.ntmps=n)(K:∀w,Sat w0 w []->Hc P none n (bodyPostM (FZ none) 0 P fn R) x [] (num 0 vs) w)(hb:fn.body=some x:=by exact rfl)(hv:Nat.ble vs.length n=true:=by exact rfl):Calls P f vs.toArray w0 R:=
  Rl (r:=none) (n:=0) (callsIn_of_wp_marks hf hb trivial (by
    rw [hn]
    exact K _ (Sat.start w0) _ ((Fr.enter (vs:=vs.toArray) (by simpa using Nat.le_of_ble_eq_true hv) fun t v ht=>by have:=(RL vs 0 t v ht).2;simpa using this))))
theorem Zg8{f:FuncId}{fn:Func}{vs:List Value}{R:Ending->World->Prop}(hf:P.funcs[f]? =some fn)(hn:fn.ntmps=n)(K:Hc P none n (bodyPost P fn R) x [] (num 0 vs) w)(hb:fn.body=some x:=by exact rfl)(hv:Nat.ble vs.length n=true:=by exact rfl):Calls P f vs.toArray w R:=
  enter hf hb hn hv fun a hF=>(wpIn_wide (n:=0)).1 (K a hF)
theorem Zg6{fn:Func}{R:Ending->World->Prop}(h:Ge n [] (bodyPost P fn R) .ret L w):He n (bodyPostM (FZ none) 0 P fn R) .ret [] L w:=fun a hF=>by
  obtain⟨_,v,h1,h2⟩:=h a hF
  have e:=hF.defers
  show LeavesInM _ _ _ _ _ _ a.defers _ _
  rw [e]
  exact⟨v,h1,h2⟩
def Frame.obj(g:Nat)(o:Obj):Frame where
  holds w:=w.heap[g]? =some o
  has k:=k=g
  keep h hk:=(hk g rfl).trans h
  lt h hg:=by rw [hg];exact(Array.getElem?_eq_some_iff.1 h).1
abbrev dfE(D:Nat)(b:Bool):Ent:= .sem (Frame.obj D (.deferred (if b then some [] else none)))
def mrk(D:Nat):Deferred:={target:= .collected D,args:= #[]}
theorem Sat.putObj{l1 l2:List Ent}{g:Nat}{o o':Obj}(h:Sat w0 w (l1++ .sem (Frame.obj g o)::l2)):Sat w0 (w.putObj g o') (l1++ .sem (Frame.obj g o')::l2):=by
  have hg:w.heap[g]? =some o:=h.get
  refine h.turn (d:= .sem (Frame.obj g o)) (fun k _ hk=>World.putObj_heap_other (fun e=>hk e)) rfl rfl rfl (by simp) ?_ (fun _ h=> .inl h)
  exact World.putObj_heap_same (Array.getElem?_eq_some_iff.1 hg).1
theorem Zdt{fn:Func}{R:Ending->World->Prop}{E:List Ent}{D:Nat}(i:Nat)(hS:Sat w0 w E)(K:∀w',Sat w0 w' (E.set i (dfE D false))->Ge n [] (bodyPost P fn R) .ret L w')(hi:E[i]? =some (dfE D true):=by exact rfl):He n (bodyPostM (FZ none) 0 P fn R) .ret [mrk D] L w:=fun a hF=>by
  have e:=hF.defers
  show LeavesInM _ _ _ _ _ _ a.defers _ _
  rw [e]
  have hD:w.heap[D]? =some (.deferred (some [])):=hS.holds _ (List.mem_of_getElem? hi)
  refine⟨by simp,.inl ⟨D,_,rfl,run_takeDeferred hD,?_⟩⟩
  have h1:Sat w0 (w.putObj D (.deferred none)) (E.set i (dfE D false)):=by
    have h':=hS
    rw [Yc hi] at h'
    rw [YL hi]
    exact h'.putObj
  obtain⟨_,v,h2,h3⟩:=K _ h1 {a with defers:= []} ⟨hF.size,rfl,hF.get⟩
  exact⟨v,h2,h3⟩
end
theorem ZfC{J:List (Nat×Value)->List Ent->Prop}{F:List Ent->List Ent}{Q:Exit->Act->World->Prop}{w w0:World}{n:Nat}{L M:List (Nat×Value)}{es:List Ent}(hJ:J M es)(hS:Sat w0 w (F es))(hM:Sub L M:=by repeat' first|exact UH|refine zpk rfl ?_):
    Ge n [] (Exit.then (fun a w'=>∃M es,J M es/\Frd a n [] M/\Sat w0 w' (F es)) Q) .normal L w:=fun a hF=>⟨M,es,hJ,hF.sub hM,hS⟩
theorem Yn{l m:List Ent}(h:∀f:Ent->Nat,(l.map f).sum=(m.map f).sum):l.Perm m:=by
  classical
  rw [List.perm_iff_count]
  intro z
  have:=h (fun x=>if x=z then 1 else 0)
  have e:∀l:List Ent,(l.map fun x=>if x=z then 1 else 0).sum=l.count z:=fun l=>by
    induction l with
    |nil=>rfl
    | cons x l ih=>
      rw [List.map_cons,List.sum_cons,ih,List.count_cons]
      by_cases hx:x=z
      · subst hx;simp;omega
      · simp [hx]
  rw [e,e] at this
  exact this
section
variable {P:Program} {Q:Exit->Act->World->Prop} {w w' w0:World} {n:Nat} {L:List (Nat×Value)} {ds:List Deferred}
def ItC {St X Tt:Type} (P:Program) (w0:World) (gf:FuncId) (lb:List Value) (Sh:List Ent) (enc:X->List Value) (Pre:St->X->Frame->Prop) (Nx:St->X->St->Prop) (Sx:St->X->Tt->Prop) (s0:St) (Fin:St->Frame->Prop) (FinX:Tt->Frame->Prop):Prop:=
  ∀ (l:Nat) (C:St->Frame) (D:Tt->Frame) (w:World),Sat w0 w (.sem (C s0)::Sh)->
    (∀s x rest w,Pre s x rest->Sat w0 w (.sem (C s)::(Sh++ [.sem rest]))->Yld P l (enc x) w fun v w'=>
      (v= .bool true/\∃s',Nx s x s'/\Sat w0 w' (.sem (C s')::(Sh++ [.sem rest])))\/(v= .bool false/\∃t,Sx s x t/\Sat w0 w' (.sem (D t)::(Sh++ [.sem rest]))))->
    Calls P gf (.func (.yield l) #[] #[]::lb).toArray w fun e w'=>∃v,e= .returned v/\
      ((∃s rest,Fin s rest/\Sat w0 w' (.sem (C s)::(Sh++ [.sem rest])))\/(∃t rest,FinX t rest/\Sat w0 w' (.sem (D t)::(Sh++ [.sem rest]))))
def Rp:List Nat->List Value->List (Nat×Value)->List (Nat×Value)
  |t::ts,v::vs,L=>Rp ts vs ((t,v)::L)
  |_,_,L=>L
theorem Ro{a:Act}:∀(ts:List Nat) (vs:List Value) (T:Array Value) {L:List (Nat×Value)},Frd {tmps:=T,defers:= []} n [] L->(ts.all fun t=>Nat.blt t n)=true->
    Frd {tmps:=(ts.zip vs).foldl (fun t (p:Nat×Value)=>t.setIfInBounds p.1 p.2) T,defers:= []} n [] (Rp ts vs L)
  | [],vs,T,L,h,_=>by simpa [Rp] using h
  |t::ts, [],T,L,h,_=>by simpa [Rp] using h
  | t::ts,v::vs,T,L,h,hb=>by
    simp only [List.all_cons,Bool.and_eq_true] at hb
    have h1:=h.put (by simpa [Nat.blt_eq] using hb.1) v
    simp only [List.zip_cons_cons,List.foldl_cons,Rp]
    exact Ro (a:=a) ts vs _ h1 hb.2
def rdQ{St Tt:Type}(w0:World)(C:St->List Ent)(D:Tt->List Ent)(jc:Tt->Code)(Sh:List Ent)(N:St->Prop)(S:Tt->Prop)(rest:Frame):Exit->Act->World->Prop
  | .normal,_,w'=>∃s',N s'/\Sat w0 w' (C s'++(Sh++ [.sem rest]))
  | .ret,_,w'=>∃t,S t/\jc t= .ret/\Sat w0 w' (D t++(Sh++ [.sem rest]))
  | .exit id,_,w'=>∃t,S t/\jc t= .exit id/\Sat w0 w' (D t++(Sh++ [.sem rest]))
  |_,_,_=>False
theorem Zct{St Tt:Type}{w0 w:World}{C:St->List Ent}{D:Tt->List Ent}{jc:Tt->Code}{Sh:List Ent}{N:St->Prop}{S:Tt->Prop}{rest:Frame}{n:Nat}{L:List (Nat×Value)}(s':St)(hN:N s')(hS:Sat w0 w (C s'++(Sh++ [.sem rest]))):Ge n [] (rdQ w0 C D jc Sh N S rest) .normal L w:=fun _ _=>⟨s',hN,hS⟩
theorem ZfB{St Tt:Type}{w0 w:World}{C:St->List Ent}{D:Tt->List Ent}{jc:Tt->Code}{Sh:List Ent}{N:St->Prop}{S:Tt->Prop}{rest:Frame}{n:Nat}{L:List (Nat×Value)}(t:Tt)(hN:S t)(hj:jc t= .ret)(hS:Sat w0 w (D t++(Sh++ [.sem rest]))):Ge n [] (rdQ w0 C D jc Sh N S rest) .ret L w:=fun _ _=>⟨t,hN,hj,hS⟩
def ZdF:Code->Exit
  | .ret=> .ret
  | .exit id=> .exit id
  |_=> .normal
theorem Sat.unbun{l1 l2 l3:List Ent}(h:Sat w0 w (l1++ .sem (Frame.bun l2)::l3)):Sat w0 w (l1++(l2++l3)):=h.unbundle
theorem hrf {St X Tt:Type} {gf:FuncId} {lb:List Value} {g:Operand} {ps:Array Tmp} {assign body:Code} {Sh:List Ent} {enc:X->List Value} {Pre:St->X->Frame->Prop} {Nx:St->X->St->Prop} {Sx:St->X->Tt->Prop} {Fin:St->Frame->Prop} {FinX:Tt->Frame->Prop}
    (C:St->List Ent) (D:Tt->List Ent) (jc:Tt->Code) (s0:St) (J:X->List (Nat×Value)->List Ent->Prop) (hit:ItC P w0 gf lb Sh enc Pre Nx Sx s0 Fin FinX) (hS:Sat w0 w (C s0++Sh)) (hcl:Zc P gf=true)
    (hpl:∀x,(enc x).length=ps.size) (hjc:∀t,jc t= .ret\/∃id,jc t= .exit id)
    (zH:∀l s x rest w,Pre s x rest->∀rest',(∀w,rest'.holds w->rest.holds w)->Sat w0 w (C s++(Sh++ [.sem rest']))->Hc P (some l) n (Exit.then (fun a w'=>∃M es,J x M es/\Frd a n [] M/\Sat w0 w' (C s++(Sh++(.sem rest'::es)))) (fun _ _ _=>False)) assign [] (Rp ps.toList (enc x) L) w)
    (bB:∀l s x M es rest w,Pre s x rest->J x M es->∀rest',(∀w,rest'.holds w->rest.holds w)->Sat w0 w (C s++(Sh++(.sem rest'::es)))->Hc P (some l) n (rdQ w0 C D jc Sh (Nx s x) (Sx s x) rest') body [] M w)
    (bx:∀Dk s rest w',Fin s rest->Sat w0 w' (C s++(Sh++ [.sem rest,dfE Dk true]))->He n Q .normal (mrk Dk::ds) L w')
    (bf:∀Dk t rest w',FinX t rest->Sat w0 w' (D t++(Sh++ [.sem rest,dfE Dk true]))->He n Q (ZdF (jc t)) (mrk Dk::ds) L w')
    (hg:evL L g=some (.func (.func gf) #[] lb.toArray):=by exact rfl) (hpb:(ps.toList.all fun t=>Nat.blt t n)=true:=by exact rfl):Hc P none n Q (.rangeFunc g ps assign body) ds L w:=by
  intro a hF
  refine wpIn_rangeFunc ?_
  intro fn hfn
  obtain⟨rec,yo⟩:∃rec:LoopState->Option Code->Loop,rec=fun st pe=>{state:=st,pending:=pe,fn,tmps:=a.tmps,params:=ps,assign,body,defers:=w.heap.size}:=⟨_,rfl⟩
  obtain⟨W1,hW1⟩:∃W1,(w.alloc (.deferred (some []))).alloc (.loop (rec .ready none))=W1:=⟨_,rfl⟩
  obtain⟨l,hl⟩:∃l,w.heap.size+1=l:=⟨_,rfl⟩
  obtain⟨Dk,hDk⟩:∃Dk,w.heap.size=Dk:=⟨_,rfl⟩
  have hS1:Sat w0 W1 ((C s0++Sh)++ [dfE Dk true]++ [.sem (Frame.obj l (.loop (rec .ready none)))]):=by
    rw [<-hW1]
    refine(hS.alloc _ (e:=dfE Dk true) ?_ ?_).alloc _ (e:= .sem (Frame.obj l (.loop (rec .ready none)))) ?_ ?_
    · rw [<-hDk];exact heap_alloc_new w _
    · intro g hg;rw [<-hDk] at hg;exact hg
    · have:=heap_alloc_new (w.alloc (.deferred (some []))) (.loop (rec .ready none))
      rw [World.size_alloc,hl] at this;exact this
    · intro g hg;rw [World.size_alloc,hl];exact hg
  have eval:a.eval g= .func (.func gf) #[] lb.toArray:=hF.agr _ _ hg
  have dd:∃fnn,P.funcs[gf]? =some fnn/\fnn.body.isSome=true/\(fnn.name== "runtime.NumGoroutine")=false:=by
    unfold Zc at hcl
    cases hf:P.funcs[gf]? with
    |none=>simp [hf] at hcl
    | some fnn=>
      simp only [hf,Bool.and_eq_true,Bool.not_eq_true'] at hcl
      exact⟨fnn,rfl,hcl.1,hcl.2⟩
  obtain⟨fnn,hf1,hf2,hf3⟩:=dd
  have dk:fnn.body≠none:=by intro e;rw [e] at hf2;simp at hf2
  have di:fnn.name≠ "runtime.NumGoroutine" :=by simpa using hf3
  let C':St->Frame:=fun s=>Frame.bun (C s++ [.sem (Frame.obj l (.loop (rec .ready none))),dfE Dk true])
  let D':Tt->Frame:=fun t=>Frame.bun (D t++ [.sem (Frame.obj l (.loop (rec .done (some (jc t))))),dfE Dk true])
  have hS2:Sat w0 W1 (.sem (C' s0)::Sh):=by
    have h1:Sat w0 W1 (Sh++(C s0++ [.sem (Frame.obj l (.loop (rec .ready none))),dfE Dk true])):=hS1.perm (Yn fun f=>by simp only [List.map_append,List.map_cons,List.map_nil,List.sum_append,List.sum_cons,List.sum_nil];omega)
    have h2:=h1.bundle
    exact h2.perm List.perm_append_comm
  refine⟨l, [mrk Dk],W1,{target:= .fn (.func gf) lb.toArray,args:= #[.func (.yield l) #[] #[]]},W1,gf, #[.func (.yield l) #[] #[]]++lb.toArray,W1,?_,?_,?_,?_,fun h=>(by cases h),?_⟩
  · rw [<-hW1,yo,<-hl,<-hDk];exact run_enterLoop_outer _ _ _ _ _
  · simp only [resolve,eval]
    simp [go_sem]
  · intro f' hf';trivial
  · simp [invoke,go_sem,callFunc,hf1,dk,di]
  have eargs:(#[.func (.yield l) #[] #[]]++lb.toArray:Array Value)=(.func (.yield l) #[] #[]::lb).toArray:=by simp
  rw [eargs]
  refine WH ((hit l C' D' W1 hS2 ?_).mono ?_)
  ·
    intro s x rest W qL hSW
    have h1:Sat w0 W (C s++(Sh++ [.sem rest,.sem (Frame.obj l (.loop (rec .ready none))),dfE Dk true])):=by
      have:=Sat.unbun (l1:= []) hSW
      exact this.perm (Yn fun f=>by simp only [List.map_append,List.map_cons,List.map_nil,List.sum_append,List.sum_cons,List.sum_nil];omega)
    have hlr:W.heap[l]? =some (.loop (rec .ready none)):=h1.holds (.sem (Frame.obj l (.loop (rec .ready none)))) (by simp)
    have hy:=run_yield (P:=P) (args:=(enc x).toArray) hlr (by rw [yo];simp [hpl x])
    rw [yo] at hy
    refine⟨fn,_,assign,body,hy,roundIn_of_wpIn trivial ?_⟩
    clear hy
    let r1:Frame:=Frame.bun [.sem rest,.sem (Frame.obj l (.loop (rec .ready none))),dfE Dk true]
    have h2:Sat w0 W (C s++(Sh++ [.sem r1])):=by
      rw [<-List.append_assoc] at h1⊢
      exact h1.bundle
    have hfr:Frd {tmps:=(ps.zip (enc x).toArray).foldl (fun t (p,v)=>t.setIfInBounds p v) a.tmps,defers:= []} n [] (Rp ps.toList (enc x) L):=by
      have:=Ro (a:=a) (n:=n) ps.toList (enc x) a.tmps (L:=L) ⟨hF.size,rfl,hF.get⟩ hpb
      have e:(ps.zip (enc x).toArray).foldl (fun t (p,v)=>t.setIfInBounds p v) a.tmps=(ps.toList.zip (enc x)).foldl (fun t (p:Nat×Value)=>t.setIfInBounds p.1 p.2) a.tmps:=by
        rw [<-Array.foldl_toList,Array.toList_zip]
      rw [e];exact this
    refine Go.wpIn_mono (zH l s x rest W qL r1 (fun w h=>h.1 (.sem rest) (by simp)) h2 _ hfr) ?_
    intro e a1 Wa hp
    cases e<;>try exact hp.elim
    obtain⟨M,es,hJ,hFM,hSa⟩:=hp
    have h3:Sat w0 Wa ((C s++(Sh++([.sem rest]++es))++ [dfE Dk true])++ .sem (Frame.obj l (.loop (rec .ready none))):: []):=by
      have:=Sat.unbun (l1:=C s++Sh) (l3:=es) (by rw [List.append_assoc];exact hSa)
      exact this.perm (Yn fun f=>by simp only [List.map_append,List.map_cons,List.map_nil,List.sum_append,List.sum_cons,List.sum_nil];omega)
    have hlr:Wa.heap[l]? =some (.loop (rec .ready none)):=h3.get
    refine⟨_,run_beginRound hlr (by rw [yo]),?_⟩
    have h4:=h3.putObj (o':= .loop {rec .ready none with state:= .busy})
    let r2:Frame:=Frame.bun [.sem rest,.sem (Frame.obj l (.loop {rec .ready none with state:= .busy})),dfE Dk true]
    have h5:Sat w0 (Wa.putObj l (.loop {rec .ready none with state:= .busy})) (C s++(Sh++(.sem r2::es))):=by
      have h:Sat w0 (Wa.putObj l (.loop {rec .ready none with state:= .busy})) ((C s++(Sh++es))++ [.sem rest,.sem (Frame.obj l (.loop {rec .ready none with state:= .busy})),dfE Dk true]):=by
        exact h4.perm (Yn fun f=>by simp only [List.map_append,List.map_cons,List.map_nil,List.sum_append,List.sum_cons,List.sum_nil];omega)
      have hb:Sat w0 (Wa.putObj l (.loop {rec .ready none with state:= .busy})) ((C s++(Sh++es))++ [.sem r2]):=h.bundle
      exact hb.perm (Yn fun f=>by simp only [List.map_append,List.map_cons,List.map_nil,List.sum_append,List.sum_cons,List.sum_nil];omega)
    refine Go.wpIn_mono (bB l s x M es rest _ qL hJ r2 (fun w h=>h.1 (.sem rest) (by simp)) h5 _ hFM) ?_
    have fin:∀(jump:Option Code) (A:List Ent) (W3:World),Sat w0 W3 (A++(Sh++ [.sem r2]))->
        (Instr.endRound l jump).run P W3= .ok (.bool jump.isNone) (W3.putObj l (.loop (rec (if jump.isNone then .ready else .done) jump)))/\
        Sat w0 (W3.putObj l (.loop (rec (if jump.isNone then .ready else .done) jump))) (.sem (Frame.bun (A++ [.sem (Frame.obj l (.loop (rec (if jump.isNone then .ready else .done) jump))),dfE Dk true]))::(Sh++ [.sem rest])):=fun jump A W3 hA=>by
      have h6:Sat w0 W3 ((Sh++ [.sem rest]++(A++ [dfE Dk true]))++ .sem (Frame.obj l (.loop {rec .ready none with state:= .busy})):: []):=by
        have:=Sat.unbun (l1:=A++Sh) (l3:= []) (by rw [List.append_assoc];exact hA)
        exact this.perm (Yn fun f=>by simp only [List.map_append,List.map_cons,List.map_nil,List.sum_append,List.sum_cons,List.sum_nil];omega)
      have hlb:W3.heap[l]? =some (.loop {rec .ready none with state:= .busy}):=h6.get
      have hr:=run_endRound (P:=P) jump hlb
      have h7:=h6.putObj (o':= .loop (rec (if jump.isNone then .ready else .done) jump))
      refine⟨by rw [yo] at hr⊢;exact hr,?_⟩
      have h8:Sat w0 (W3.putObj l (.loop (rec (if jump.isNone then .ready else .done) jump))) ((Sh++ [.sem rest])++(A++ [.sem (Frame.obj l (.loop (rec (if jump.isNone then .ready else .done) jump))),dfE Dk true])):=by
        exact h7.perm (Yn fun f=>by simp only [List.map_append,List.map_cons,List.map_nil,List.sum_append,List.sum_cons,List.sum_nil];omega)
      exact h8.bundle.perm List.perm_append_comm
    intro e a3 W3 hp
    cases e with
    | normal=>
      obtain⟨s',hn,hA⟩:=hp
      obtain⟨hr,h6⟩:=fin none _ _ hA
      exact⟨_,_,hr,_,rfl,.inl ⟨rfl,s',hn,h6⟩⟩
    | ret=>
      obtain⟨t,hn,hj,hA⟩:=hp
      obtain⟨hr,h6⟩:=fin (some .ret) _ _ hA
      refine⟨_,_,hr,_,rfl,.inr ⟨rfl,t,hn,?_⟩⟩
      simp only [D',hj];exact h6
    | exit id=>
      obtain⟨t,hn,hj,hA⟩:=hp
      obtain⟨hr,h6⟩:=fin (some (.exit id)) _ _ hA
      refine⟨_,_,hr,_,rfl,.inr ⟨rfl,t,hn,?_⟩⟩
      simp only [D',hj];exact h6
    |goto t=>exact hp.elim
    |panic ch=>exact hp.elim
    |outgrown=>exact hp.elim
  ·
    have out:∀(st:LoopState) (pe:Option Code) (A:List Ent) (rest:Frame) (W2:World),st≠ .busy->Sat w0 W2 (.sem (Frame.bun (A++ [.sem (Frame.obj l (.loop (rec st pe))),dfE Dk true]))::(Sh++ [.sem rest]))->
        (Instr.endLoop l).run P W2= .ok pe (W2.putObj l (.loop {rec st pe with state:= .exhausted}))/\Sat w0 (W2.putObj l (.loop {rec st pe with state:= .exhausted})) (A++(Sh++ [.sem rest,dfE Dk true])):=fun st pe A rest W2 hst h=>by
      have h1:=Sat.unbun (l1:= []) h
      have h2:Sat w0 W2 ((A++(Sh++ [.sem rest,dfE Dk true]))++ .sem (Frame.obj l (.loop (rec st pe))):: []):=by
        exact h1.perm (Yn fun f=>by simp only [List.map_append,List.map_cons,List.map_nil,List.sum_append,List.sum_cons,List.sum_nil];omega)
      have hl:W2.heap[l]? =some (.loop (rec st pe)):=h2.get
      have h3:=h2.putObj (o':= .loop {rec st pe with state:= .exhausted})
      refine⟨?_,h3.sub (List.sublist_append_left _ _)⟩
      have:=run_endLoop (P:=P) hl (by rw [yo];exact hst)
      rw [yo] at this⊢;exact this
    rintro e W2 ⟨v,rfl,h⟩
    have hF':∀{L'},Frd a n ds L'->Frd {a with defers:= [mrk Dk]++a.defers} n (mrk Dk::ds) L':=fun h=>⟨h.size,by rw [<-h.defers];rfl,h.get⟩
    rcases h with⟨s,rest,qW,h⟩|⟨t,rest,qW,h⟩
    · obtain⟨h1,h2⟩:=out .ready none _ rest W2 (by simp) h
      exact⟨none,_,h1,bx Dk s rest _ qW h2 _ (hF' hF)⟩
    · obtain⟨h1,h2⟩:=out .done (some (jc t)) _ rest W2 (by simp) h
      refine⟨some (jc t),_,h1,?_⟩
      have h3:=bf Dk t rest _ qW h2 _ (hF' hF)
      rcases hjc t with hj|⟨id,hj⟩
      · rw [hj] at h3⊢;exact wpIn_ret h3
      · rw [hj] at h3⊢;exact wpIn_exit h3
end
end Go.Proofs.Gw
