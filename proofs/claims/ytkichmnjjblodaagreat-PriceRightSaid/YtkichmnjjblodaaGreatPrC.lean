import Derived.Test.YtkichmnjjblodaaGreatPrB
import Derived.ArgAppend
import Derived.RangeFuncBox
import Derived.RangeFuncLeaves
set_option linter.unusedVariables false
set_option linter.unusedSimpArgs false
set_option maxRecDepth 20000
set_option maxHeartbeats 4000000
namespace Go.Proofs.YtkichmnjjblodaaGreat
open Go Go.RowKit Go.Proofs.Gw
theorem Zmw{u i i2 k k2:Int}(k0:0<=k)(k1:k<u)(l0:0<=k2)(l1:k2<u)(e:i2*u+k2=i*u+k):i2=i/\k2=k:=by
  have hi:i2=i:=by
    rcases Int.lt_trichotomy i2 i with h|h|h
    · have:=Int.mul_le_mul_of_nonneg_right (show i2+1<=i by omega) (show 0<=u by omega);rw [Int.add_mul] at this;omega
    · exact h
    · have:=Int.mul_le_mul_of_nonneg_right (show i+1<=i2 by omega) (show 0<=u by omega);rw [Int.add_mul] at this;omega
  subst hi
  exact⟨rfl,by omega⟩
theorem Kx{u n i:Int}(u0:0<=u)(i0:0<=i)(i1:i<n):0<=i*u/\i*u+u<=n*u:=by
  refine⟨Int.mul_nonneg i0 u0,?_⟩
  have:=Int.mul_le_mul_of_nonneg_right (show i+1<=n by omega) u0
  rw [Int.add_mul] at this;omega
theorem Zh6{vM:Value}{u:Int}{mv:Int->Value}{ml:Int->Int}{mf:Int->Int->Int}{n:Int}(w0:World)(hM:MAt w0 vM u mv ml mf)(hu:1<=u/\u<=60)(hn:1<=n/\n<=20)(hml:∀k,0<=k->k<u->ml k=n):
    Calls Tryz.prog 190 [vM,.int .i64 n].toArray w0 fun e w=>∃v,e= .returned v/\∃r vv,v=r/\Slh r n/\Sat w0 w [.own r 1 22 n vv,.sem (Frame.rows 3 n vv (fun _=>u) (fun i j=>mf j i))]:=by
  have hnu:=Kx (u:=u) (n:=n+1) (i:=n) (by omega) (by omega) (by omega)
  have jK:=Wr (a:=n) (b:=u) (A:=20) (B:=60) (by omega) (by omega)
  refine zenG Tryz.func190 Tryz.ntmps190 fun w hS=> ?_
  refine zsr<|(zP)<|zlz<|(zP)<|(zP)<|(zV (xln Zm hM.row.slh))<|(zV (Z2 (r:=(n*u)) (e:=rfl)))<|zla (xmk Zb Zt hS) ?_;rintro v1 w ⟨hS,hv1⟩
  refine(zP)<|zx5<|(zP)<|(zV (xln Zm hM.row.slh))<|(zP)<|zx6<|zlp (fun mm M w=>∃(k:Int) (g:Int->Int),mm=((u-k).toNat)/\(0<=k)/\(k<=u)/\(∀j,0<=j->j<k->∀i,0<=i->i<n->g (i*u+j)=mf j i)/\M= [(0,vM),(1,.int .i64 n),(4,.slice none 0 0),(5,v1),(17,vM),(18,.int .i64 u),(19,.int .i64 k)]/\Sat w0 w [.own v1 1 3 (n*u) (ints g)]) ⟨0,(fun _=>0),rfl,(by omega),(by omega),?_,rfl,hS⟩ ?_
  ·
   intro j j0 j1;omega
  clear hS w
  rintro mm M w ⟨k,g,rfl,k0,k1,hg,rfl,hS⟩
  refine zsr<|(zP)<|zx7<|Zf ?_ ?_<;>intro hc
  ·
   refine zx3<|zlv xmv ?_
   have jP:=hml k k0 (by omega)
   refine(zV (xix (kk:=k) Zm hM.row.slh))<|(zV (xlr (u:=(mv k)) pl_22 (hM.row.below hS.below)))<|(zP)<|(zP)<|zlz<|(zP)<|(zP)<|zx6<|zlp (fun mm M w=>∃(i:Int) (g:Int->Int),mm=((n-i).toNat)/\(0<=i)/\(i<=n)/\(∀j,0<=j->j<k->∀i,0<=i->i<n->g (i*u+j)=mf j i)/\(∀q,0<=q->q<i->g (q*u+k)=mf k q)/\M= [(0,vM),(1,.int .i64 n),(4,.slice none 0 0),(5,v1),(6,.int .i64 k),(7,(mv k)),(17,vM),(18,.int .i64 u),(19,.int .i64 k),(24,.int .i64 n),(25,.int .i64 i)]/\Sat w0 w [.own v1 1 3 (n*u) (ints g)]) ⟨0,g,rfl,(by omega),(by omega),?_,?_,rfl,hS⟩ ?_
   ·
    exact hg
   ·
    intro q q0 q1;omega
   clear hS w
   rintro mm M w ⟨i,g,rfl,i0,i1,hg2,hg3,rfl,hS⟩
   refine zsr<|(zP)<|zx7<|Zf ?_ ?_<;>intro hc
   ·
    refine zx3<|zlv xmv ?_
    have hgr:=Kx (u:=u) (n:=n) (by omega) i0 (by omega)
    refine(zP)<|zlt<|zrg<|(zP)<|(zP)<|(zP)<|(zV (xln Zm hM.row.slh))<|(zV (Z2 (r:=(i*u)) (e:=rfl)))<|(zP)<|(zV (Zh (r:=(i*u)+k)))<|(zP)<|(zP)<|(zV (xix (kk:=i) Zb (hM.p k (by omega) (by omega)).slh))<|(zV (xlr (u:= .int .i64 ((mf k) i)) pl_3 ((hM.p k (by omega) (by omega)).below hS.below)))<|(zV (xix (kk:=(i*u)+k) Zb hv1))<|zle (xso 0 pl_3 hS (Zx _ _ _)) ?_;clear hS;rintro w hS
    refine zx10<|(zV (Zh (r:=i+1)))<|(zP)<|zln<|zlq ⟨i+1,(upd g ((i*u)+k) ((mf k) i)),rfl,(by omega),(by omega),?_,?_,rfl,hS⟩
    ·
     intro j j0 j1 q q0 q1;rw [upd_ne _ _ (fun e=>by have:=Zmw k0 (by omega) j0 (by omega) e;omega)];exact hg2 j j0 j1 q q0 q1
    ·
     intro q q0 q1;by_cases e:q=i
     · rw [e,Zw]
     · rw [upd_ne _ _ (fun e9=>e (Zmw k0 (by omega) k0 (by omega) e9).1)];exact hg3 q q0 (by omega)
   refine zx21<|(zV (Zh (r:=k+1)))<|(zP)<|zln<|zlq ⟨k+1,g,rfl,(by omega),(by omega),?_,rfl,hS⟩
   ·
    intro j j0 j1 q q0 q1;by_cases e:j=k
    · rw [e];exact hg3 q q0 (by omega)
    · exact hg2 j j0 (by omega) q q0 q1
  refine zx8<|(zP)<|zx5<|(zP)<|(zP)<|zx6 ?_
  replace hS:=hS.addnil 1 22 (fun _=>Value.slice none 0 0)
  replace hS:=hS.addrows 3 (fun _=>Value.slice none 0 0) (fun _=>u) (fun i j=>mf j i)
  have aL:=fun k (k0:0<=k) (k1:k<0)=>hS.slhIn 2 rfl k0 k1
  refine zlp (fun mm M w=>∃(nC:Int) (wv:Int->Value) (i:Int) (wC:Value),mm=((n-i).toNat)/\(0<=i)/\(i<=n)/\(nC=i)/\(Slh wC nC)/\M= [(0,vM),(4,.slice none 0 0),(5,v1),(9,wC),(42,.int .i64 n),(43,.int .i64 i)]/\Sat w0 w [.own v1 1 3 (n*u) (ints g),.own wC 1 22 nC wv,.sem (Frame.rows 3 nC wv (fun _=>u) (fun i j=>mf j i))]) ⟨0,(fun _=>Value.slice none 0 0),0,(.slice none 0 0),rfl,(by omega),(by omega),(by omega),?_,rfl,hS⟩ ?_
  ·
   exact slh_nil
  clear hS w
  rintro mm M w ⟨nC,wv,i,wC,rfl,i0,i1,hnC,hwC,rfl,hS⟩
  have qY:=fun k (k0:0<=k) (k1:k<nC)=>hS.slhIn 2 rfl k0 k1
  refine zsr<|(zP)<|zx7<|Zf ?_ ?_<;>intro hc
  ·
   refine zx3<|zlv xmv ?_
   have hgr:=Kx (u:=u) (n:=n) (by omega) i0 (by omega)
   refine(zP)<|zlz<|(zP)<|(zV (xln Zm hM.row.slh))<|zla (xmk Zb Zt hS) ?_;rintro v2 w ⟨hS,hv2⟩
   refine(zP)<|zlz<|zs4 ?_
   obtain⟨q1,hq1⟩:∃q1:Nat,(q1:Int)=i*u:=⟨(i*u).toNat,by omega⟩
   refine(zV (xln Zm hM.row.slh))<|(zV (Z2 (r:=(i*u)) (e:=rfl)))<|(zV (Zeh q1 Zb hv1))<|R6 rfl rfl rfl (TG (q:=0) (r:=u) 3 rfl Zb rfl rfl hS rfl (.inr ⟨rfl,rfl⟩) ((YK (q:=q1) hv1 (hS.holds _ (List.mem_of_getElem? (i:=0) rfl)).roomy (by omega)).row (by omega) (hS.rowN 0 rfl)) (by omega) (by omega) (by omega) (fun _ _ _=>rfl)) ?_;rintro _ w ⟨rfl,hS⟩
   refine zlt<|zrg<|zlv xmv ?_
   replace hS:=hS.recont 3 rfl (d:=ints (cpyI 0 u (fun k=>g (k+(q1:Int))) (fun _=>0))) (fun k k0 k1=>congrFun (TK 0 u (fun k=>g (k+(q1:Int))) (fun _=>0)) k)
   refine(zP)<|zla (xli (n:=1) (len:=1) (pv:= [(0,v2)]) (cs:= [v2]) (c:=(fun _=>v2)) Zm Ya hS (hf:=by obtain⟨_,_,_,_,rfl,_⟩:=hv2;kernel_rfl)) ?_;rintro v3 w ⟨hS,hv3⟩
   refine zla (xap 1 (r:=nC+1) Zm Ya hS (hS.rowN 4 rfl) (Xs _ _ _) (h1:=fun _ _ _=>hv2.one)) ?_;rintro v4 w ⟨hS,hv4⟩
   replace hS:=Sat.merge (l1:= [_,_]) (l2:= []) (l3:= [_]) hS (by omega)
   have yz:=fun k (k0:0<=k) (k1:k<nC+1)=>hS.slhIn 2 rfl k0 k1
   refine zlv xas ?_
   replace hS:=hS.rerows (vv':=gsn wv nC v2) (ln':=fun _=>u) (f':=fun i j=>mf j i) 2 rfl (fun k k0 k1=>by
     by_cases e:k<i
     · exact⟨rfl,ZA (by omega),fun j _ _=>by rw [ZA (by omega)]⟩
     · have hki:k=i:=by omega
       refine⟨rfl,?_,fun b b0 b1=> ?_⟩
       · rw [ZJ (by omega)]
       · rw [ZJ (by omega)] at b1
         rw [ZJ (by omega),hki];unfold cpyI;rw [if_pos (by omega)];show g (b-(0:Nat)+q1)=_;rw [show b-((0:Nat):Int)+q1=i*u+b by omega];exact hg b b0 (by omega) i i0 (by omega))
   have dZ:=fun k (k0:0<=k) (k1:k<nC+1)=>hS.slhIn 2 rfl k0 k1
   refine zx10<|(zV (Zh (r:=i+1)))<|(zP)<|zln<|zlq ⟨nC+1,gsn wv nC v2,i+1,v4,rfl,(by omega),(by omega),(by omega),?_,rfl,hS.pk [0,1,2]⟩
   ·
    exact hv4
  refine zx8<|(zP)<|(zP)<|zx1<|zf1 ⟨_,rfl,?_⟩
  obtain rfl:i=n:=by omega
  subst hnC
  exact⟨_,_,rfl,hwC,hS.pk [1,2]⟩
end Go.Proofs.YtkichmnjjblodaaGreat
namespace Go.Proofs.YtkichmnjjblodaaGreat
open Go Go.RowKit Go.Proofs.Gw
theorem Zb6:Zc Tryz.prog 187=true:=by kernel_rfl
theorem ZkK:Zc Tryz.prog 188=true:=by kernel_rfl
theorem ZkJ:Zc Tryz.prog 189=true:=by kernel_rfl
theorem ZkI:Zc Tryz.prog 190=true:=by kernel_rfl
def Zhs(p:Prob)(u:Int)(mf:Int->Int->Int):Lp:=⟨u,p.m,p.d,fun _=>1,fun _=>u,fun i j=>mf j i,p.D⟩
def so0(p:Prob):So:=⟨0,p.m,fun _=>0,fun _=>0,0,1⟩
def RZ(p:Prob)(u:Int)(ml:Int->Int)(mf:Int->Int->Int):Prop:=p.Ok/\∀k,0<=k->k<u->Z4 p (ml k) (mf k)
def MSolveR (p:Prob) (u:Int) (ml:Int->Int) (mf:Int->Int->Int) (s:So) (e:Int):Prop:=
  (¬RZ p u ml mf/\s=So.zero/\e=1)\/(RZ p u ml mf/\(16<p.m\/60<u)/\s=So.zero/\e=9)\/
    (RZ p u ml mf/\p.m<=16/\u<=60/\u=0/\(∃k,0<=k/\k<p.d/\0<p.D k)/\s=So.zero/\e=19)\/(RZ p u ml mf/\p.m<=16/\u<=60/\u=0/\(∀k,0<=k->k<p.d->p.D k<=0)/\s=so0 p/\e=0)\/
    (RZ p u ml mf/\p.m<=16/\u<=60/\1<=u/\SolveR (Zhs p u mf) s e)
theorem c_msolve{vL vD:Value}{p:Prob}{vM:Value}{u:Int}{mv:Int->Value}{ml:Int->Int}{mf:Int->Int->Int}(w0:World)(h:PAt w0 vL vD p)(hM:MAt w0 vM u mv ml mf):
    Calls Tryz.prog 164 [.agg #[vL,vD,.int .i64 p.stock,.int .i64 p.kerf],vM].toArray w0 fun e w=>∃v,e= .returned v/\∃vX vY s e,v= .tuple #[.agg #[vX,vY,.int .i64 s.val,.int .i64 s.den],.int .i64 e]/\MSolveR p u ml mf s e/\Slh vX s.n/\Slh vY s.m/\Sat w0 w [.own vX 1 3 s.n (ints s.X),.own vY 1 3 s.m (ints s.Y)]:=by
  have hm:=h.L.slh.n0;have hm1:=h.L.slh.n1;have hd:=h.D.slh.n0;have hd1:=h.D.slh.n1;have hs:=h.is;have hk:=h.ik
  have hu:=hM.row.slh.n0;have hu1:=hM.row.slh.n1
  refine zenG Tryz.func164 Tryz.ntmps164 fun w hS=> ?_
  refine zsr<|zla (xbx (cs:= [_,_,_,_]) hS) ?_;rintro _ w ⟨g1,rfl,hS⟩
  refine zla (xal (cs:= [_,_,_,_]) Wv hS) ?_;rintro _ w ⟨g2,rfl,hS⟩
  refine(zP)<|zlt<|zsq<|zbk<|zsr<|(zV (xls 0 st_32 hS))<|zlc (xc0 XL) (Yb (p:=p) w (h.below hS.below)) ?_;rintro _ w ⟨rfl,hS'⟩
  replace hS:=hS.cmp hS';clear hS'
  refine(zP)<|(zP)<|zlb 10 ?_ ?_<;>intro hc
  ·
   iterate 3 refine zlo ?_
   refine(zP)<|(zP)<|zlt<|zct<|zsr ?_
   refine(zV (xany (v:= .agg #[.slice none 0 0,.slice none 0 0,.int .i64 0,.int .i64 0])))<|zle (xsw 1 ZL hS) ?_;clear hS;rintro w hS
   refine(zP)<|Xz<|Yp 1 ZL hS ⟨_,rfl,?_⟩
   exact⟨_,_,So.zero,1,rfl,.inl ⟨fun⟨h1,h2⟩=>by
     first
     |exact absurd h1 ‹¬p.Ok›
     |exact hc (h2 q q0 (by omega))
     |(obtain⟨k,k0,k1,hk⟩:=‹∃k,0<=k/\k<u/\¬Z4 p (ml k) (mf k)›;exact hk (h2 k k0 k1)),rfl,rfl⟩,slh_nil,slh_nil,((hS.sub (.cons _ (.cons _ .slnil))).addnil 1 3 (ints So.zero.X)).addnil 1 3 (ints So.zero.Y)⟩
  refine(zP)<|(zV xmf)<|zlc (xc0 Zb7) (ZgA (p:=p) (u:=u) (ml:=ml) (mf:=mf) w (hS.holds _ (List.mem_of_getElem? (i:=0) rfl)) (h.below hS.below) (hM.below hS.below)) ?_;rintro _ w ⟨rfl,hS'⟩
  replace hS:=hS.cmp hS';clear hS'
  refine(zP)<|(zP)<|zlt<|Zf ?_ ?_<;>intro hc
  ·
   refine zsr<|(zV (xany (v:= .agg #[.slice none 0 0,.slice none 0 0,.int .i64 0,.int .i64 0])))<|zle (xsw 1 ZL hS) ?_;clear hS;rintro w hS
   refine(zP)<|Xz<|Yp 1 ZL hS ⟨_,rfl,?_⟩
   exact⟨_,_,So.zero,1,rfl,.inl ⟨fun⟨h1,h2⟩=>by
     first
     |exact absurd h1 ‹¬p.Ok›
     |exact hc (h2 q q0 (by omega))
     |(obtain⟨k,k0,k1,hk⟩:=‹∃k,0<=k/\k<u/\¬Z4 p (ml k) (mf k)›;exact hk (h2 k k0 k1)),rfl,rfl⟩,slh_nil,slh_nil,((hS.sub (.cons _ (.cons _ .slnil))).addnil 1 3 (ints So.zero.X)).addnil 1 3 (ints So.zero.Y)⟩
  refine zsr<|zlv (xfb 0 fd_32_0) ?_
  have hok:p.Ok:=by first|assumption|exact Classical.not_not.1 ‹_›
  have hpr:∀k,0<=k->k<u->Z4 p (ml k) (mf k):=fun k k0 k1=>Classical.not_not.1 fun hh=>‹¬∃k,0<=k/\k<u/\¬Z4 p (ml k) (mf k)› ⟨k,k0,k1,hh⟩
  have hpd:=hok.d;have hpm:=hok.m1;have qI:=hok.m2
  refine(zV (xlb 0 pl_22 hS))<|(zV (xln Zb h.L.slh))<|(zP)<|(zP)<|zlb 21 ?_ ?_<;>intro hc
  ·
   iterate 3 refine zlo ?_
   refine(zP)<|(zP)<|zlt<|zct<|zsr ?_
   refine(zV (xany (v:= .agg #[.slice none 0 0,.slice none 0 0,.int .i64 0,.int .i64 0])))<|zle (xsw 1 ZL hS) ?_;clear hS;rintro w hS
   refine(zP)<|Xz<|Yp 1 ZL hS ⟨_,rfl,?_⟩
   exact⟨_,_,So.zero,9,rfl,.inr (.inl ⟨⟨hok,hpr⟩,by omega,rfl,rfl⟩),slh_nil,slh_nil,((hS.sub (.cons _ (.cons _ .slnil))).addnil 1 3 (ints So.zero.X)).addnil 1 3 (ints So.zero.Y)⟩
  refine(zP)<|(zV (xln Zm hM.row.slh))<|(zP)<|(zP)<|(zP)<|zlt<|Zf ?_ ?_<;>intro hc
  ·
   refine zsr<|(zV (xany (v:= .agg #[.slice none 0 0,.slice none 0 0,.int .i64 0,.int .i64 0])))<|zle (xsw 1 ZL hS) ?_;clear hS;rintro w hS
   refine(zP)<|Xz<|Yp 1 ZL hS ⟨_,rfl,?_⟩
   exact⟨_,_,So.zero,9,rfl,.inr (.inl ⟨⟨hok,hpr⟩,by omega,rfl,rfl⟩),slh_nil,slh_nil,((hS.sub (.cons _ (.cons _ .slnil))).addnil 1 3 (ints So.zero.X)).addnil 1 3 (ints So.zero.Y)⟩
  refine zsr<|(zP)<|(zV (xln Zm hM.row.slh))<|(zP)<|(zP)<|zlb 31 ?_ ?_<;>intro hc
  ·
   refine(zV (xfb 1 fd_32_1))<|(zV (xlb 0 pl_22 hS))<|zlc (xc0 Zb6) (Zgm (n:=p.d) (f:=p.D) w (h.D.below hS.below) (by omega)) ?_;rintro _ w ⟨x1,rfl,yb,yw,hS'⟩
   replace hS:=hS.cmp hS';clear hS'
   refine(zP)<|(zP)<|(zP)<|zlt<|Zf ?_ ?_<;>intro hc
   ·
    refine zsr<|(zV (xany (v:= .agg #[.slice none 0 0,.slice none 0 0,.int .i64 0,.int .i64 0])))<|zle (xsw 1 ZL hS) ?_;clear hS;rintro w hS
    refine(zP)<|Xz<|Yp 1 ZL hS ⟨_,rfl,?_⟩
    exact⟨_,_,So.zero,19,rfl,.inr (.inr (.inl ⟨⟨hok,hpr⟩,by omega,by omega,by omega,by first|(obtain⟨k,k0,k1,hk⟩:=yb;exact⟨k,k0,k1,by omega⟩)|exact⟨_,‹0<=j›,‹j<p.d›,‹_›⟩|exact⟨j,by omega,by omega,by omega⟩,rfl,rfl⟩)),slh_nil,slh_nil,((hS.sub (.cons _ (.cons _ .slnil))).addnil 1 3 (ints So.zero.X)).addnil 1 3 (ints So.zero.Y)⟩
   refine zsr<|(zP)<|(zV (xln Zm hM.row.slh))<|(zV (xkt YJ))<|(zP)<|zlt<|zct<|zsr ?_
   refine(zV (xfb 0 fd_32_0))<|(zV (xlb 0 pl_22 hS))<|(zV (xln Zb h.L.slh))<|zla (xmk Zb Zt hS) ?_;rintro v1 w ⟨hS,hv1⟩
   refine zlv (xany (v:= .agg #[.slice none 0 0,v1,.int .i64 0,.int .i64 1]) (hr:=by obtain⟨_,_,_,_,rfl,_⟩:=hv1;kernel_rfl)) ?_
   refine zle (xsw 1 ZL hS (hd:=(Za rfl (Za hv1.one (Za rfl (Za rfl Zi)))))) ?_;clear hS;rintro w hS
   refine(zP)<|Xz<|Yp 1 ZL hS ⟨_,rfl,?_⟩
   exact⟨_,_,so0 p,0,rfl,.inr (.inr (.inr (.inl ⟨⟨hok,hpr⟩,by omega,by omega,by omega,(fun k k0 k1=>by first|(have:=yw k k0 k1;omega)|(have:=qa k k0 (by omega);omega)),rfl,rfl⟩))),slh_nil,hv1,(hS.addnil 1 3 (ints fun _=>0)).pk [3,2]⟩
  iterate 4 refine zlo ?_
  refine(zP)<|(zP)<|zlt<|zcf<|zsr ?_
  refine(zP)<|(zV (xln Zm hM.row.slh))<|(zP)<|(zP)<|zlt<|Zf ?_ ?_<;>intro hc
  ·
   exfalso;omega
  refine zsk<|zbn<|ztn<|zsq<|zdst [0,1] [0] 16 mx_ hS ?_;clear hS;intro w hS
  refine(zDw 1 xmv)<|(zDw 2 (xln Zm hM.row.slh))<|(zDw 4 xmv)<|(zDw 5 (xfb 0 fd_32_0))<|(zDl 6 (fun w hS=>(xlb 0 pl_22 hS)))<|(zDw 7 (xln Zb h.L.slh))<|(zDw 9 (xfb 1 fd_32_1))<|(zDl 10 (fun w hS=>(xlb 0 pl_22 hS)))<|zda 0 (xli (n:=1) (len:=1) (pv:= [(0,.int .i64 1)]) (cs:= [.int .i64 1]) (c:=ints (fun _=>1)) Zb Zt hS) ?_;rintro v2 w ⟨hS,hv2⟩
  refine⟨⟨fun _=>hS.pk [0,1],hS.pk [0]⟩,?_⟩
  refine zdc 3 (xc0 ZkJ) (Zga (n:=u) w (hS.rowN 2 rfl) (by omega)) ?_;rintro dd w ⟨_,rfl,dK,hS'⟩
  replace hS:=(hS.comp hS').n4;clear hS'
  refine⟨⟨fun _=>hS.pk [0,1],hS.pk [0]⟩,?_⟩
  refine zdc 8 (xc0 ZkI) (Zh6 (n:=p.m) w (hM.below hS.below) (by omega) (by omega) (fun k k0 k1=>(hpr k k0 k1).1.eq)) ?_;rintro cj w ⟨_,dw,rfl,dJ,hS'⟩
  replace hS:=(hS.comp hS').n6;clear hS'
  have gL:=fun k (k0:0<=k) (k1:k<p.m)=>hS.slhIn 5 rfl k0 k1
  refine⟨⟨fun _=>hS.pk [0,1],hS.pk [0]⟩,?_⟩
  refine zdc 11 (xc0 cl_65) (c_clone (n:=p.d) (f:=p.D) w (h.D.below hS.below) (by omega)) ?_;rintro vq2 w ⟨_,rfl,qh,hS'⟩
  replace hS:=(hS.comp hS').n7;clear hS'
  refine⟨⟨fun _=>hS.pk [0,1],hS.pk [0]⟩,?_⟩
  refine zDrv 12 (xany (v:= .agg #[dd,cj,vq2]) (hr:=by obtain⟨_,_,_,_,rfl,_⟩:=dK;obtain⟨_,_,_,_,rfl,_⟩:=dJ;obtain⟨_,_,_,_,rfl,_⟩:=qh;kernel_rfl)) ?_
  refine zdc 13 (xc0 ZkK) (Zia (p:=(⟨u,p.m,p.d,(fun _=>(fun _=>1) 0),(fun _=>u),(fun i j=>mf j i),p.D⟩:Lp)) w (⟨(hS.rowN 3 rfl),(⟨(hS.rowN 4 rfl),fun k k0 k1=>hS.rowIn 5 rfl k0 k1,fun k k0 k1=>hS.roomIn 5 rfl k0 k1⟩:MAt _ cj p.m dw (fun _=>u) (fun i j=>mf j i)),(hS.rowN 6 rfl)⟩:LAt _ dd cj vq2 dw (⟨u,p.m,p.d,(fun _=>(fun _=>1) 0),(fun _=>u),(fun i j=>mf j i),p.D⟩:Lp))) ?_;rintro _ w ⟨jw,jv,ss1,es1,rfl,dT,bL,bK,hS'⟩
  replace hS:=(hS.comp hS').n9;clear hS'
  refine⟨⟨fun _=>hS.pk [0,1],hS.pk [0]⟩,?_⟩
  refine(zDw 14 xex)<|(zDw 15 xex)<|zde 16 (xsw 1 ZL hS (hd:=(Za bL.one (Za bK.one (Za rfl (Za rfl Zi)))))) ?_;clear hS;rintro w hS
  refine⟨⟨fun h=>absurd h (by decide),hS.pk [0]⟩,?_⟩
  refine(zDw 17 xas)<|zdd<|ztn<|zrt<|Yp 1 ZL hS ⟨_,rfl,?_⟩
  exact⟨_,_,ss1,_,rfl,.inr (.inr (.inr (.inr ⟨⟨hok,hpr⟩,by omega,by omega,by omega,dT⟩))),bL,bK,hS.pk [7,8]⟩
end Go.Proofs.YtkichmnjjblodaaGreat
namespace Go.Proofs.YtkichmnjjblodaaGreat
open Go Go.RowKit Go.Proofs.Gw
theorem ZfP:Zc Tryz.prog 109=true:=by kernel_rfl
end Go.Proofs.YtkichmnjjblodaaGreat
namespace Go.Proofs.YtkichmnjjblodaaGreat
open Go Go.RowKit Go.Proofs.Gw
theorem Ze1{x y:Int}(hx:0<=x)(hy:0<y):Int.gcd y (x.tmod y)=Int.gcd x y:=by
  rw [Int.tmod_eq_emod_of_nonneg hx]
  obtain⟨m,rfl⟩:=Int.eq_ofNat_of_zero_le hx
  obtain⟨n,rfl⟩:=Int.eq_ofNat_of_zero_le (show 0<=y by omega)
  show Nat.gcd n (m%n)=Nat.gcd m n
  rw [Nat.gcd_comm,<-Nat.gcd_rec,Nat.gcd_comm]
theorem Znp{x y:Int}(w0:World)(hx0:0<=x/\x<=9223372036854775807)(hy0:0<=y/\y<=9223372036854775807):
    Calls Tryz.prog 211 [.int .i64 x,.int .i64 y].toArray w0 fun e w=>∃v,e= .returned v/\v= .int .i64 (Int.gcd x y)/\Sat w0 w []:=by
  refine zenG Tryz.func211 Tryz.ntmps211 fun w hS=> ?_
  refine zsr<|(zP)<|zlt<|zsq<|zbk<|zlp (fun mm M w=>∃(x1:Int) (y1:Int),mm=y1.toNat/\(0<=x1)/\(x1<=9223372036854775807)/\(0<=y1)/\(y1<=9223372036854775807)/\(Int.gcd x1 y1=Int.gcd x y)/\M= [(0,.int .i64 x1),(1,.int .i64 y1),(4,.int .i64 0)]/\Sat w0 w []) ⟨x,y,rfl,(by omega),(by omega),(by omega),?_,?_,rfl,hS⟩ ?_
  ·
   omega
  ·
   rfl
  clear hS w
  rintro mm M w ⟨x1,y1,rfl,hx,hx1,hy,hy1,hgc,rfl,hS⟩
  have htn:=Int.tmod_nonneg y1 hx
  refine zx11<|(zP)<|(zP)<|zlt<|Zf ?_ ?_<;>intro hc
  ·
   refine zsk<|ztn<|zbk<|zdst [] [] 1000 mx_ hS ?_;clear hS;intro w hS
   refine(zDw 0 xmv)<|(zDw 1 xmv)<|(zDw 2 xmv)<|(zDw 3 (Zei (r:=(Int.tmod x1 y1))))<|(zDw 4 xas)<|(zDw 5 xas)<|zdd<|zbn<|zlq ⟨y1,(Int.tmod x1 y1),rfl,(by omega),(by omega),(by omega),?_,?_,rfl,hS⟩ (hlt:=(by have:=Int.tmod_lt_of_pos x1 (show 0<y1 by omega);omega))
   ·
    have:=Int.tmod_lt_of_pos x1 (show 0<y1 by omega);omega
   ·
    rw [Ze1 hx (by omega)];exact hgc
  refine zx8<|(zP)<|(zP)<|zx1<|zf1 ⟨_,rfl,?_⟩
  obtain rfl:y1=0:=by omega
  exact⟨by rw [<-hgc,Int.gcd_zero_right];congr 1;omega,hS⟩
end Go.Proofs.YtkichmnjjblodaaGreat
namespace Go.Proofs.YtkichmnjjblodaaGreat
open Go Go.RowKit Go.Proofs.Gw
variable {x:Int}
theorem Zku:Zc Tryz.prog 212=true:=by kernel_rfl
theorem fd_139_2:Zr Tryz.prog 139 2=some 2:=by kernel_rfl
theorem fd_139_3:Zr Tryz.prog 139 3=some 3:=by kernel_rfl
def Yj(s:So):Prop:=(1<=s.den/\s.den<=1073741824)/\(0<=s.val/\s.val<=1073741824)/\∀k,0<=k->k<s.n->0<=s.X k/\s.X k<=1073741824
def two(x y:Int):Int->Int:=fun k=> [x,y].getD k.toNat 0
theorem ZhZ{n y:Int}{f:Int->Int}(hn:0<=n):(∀k,0<=k->k<n->cat n f (two x y) k=f k)/\cat n f (two x y) n=x/\cat n f (two x y) (n+1)=y:=by
  refine⟨fun k k0 k1=> ?_,?_,?_⟩
  · unfold cat;rw [if_pos k1]
  · unfold cat;rw [if_neg (by omega),Int.sub_self];rfl
  · unfold cat;rw [if_neg (by omega),show n+1-n=1 by omega];rfl
theorem Rh{s:So}(hn:0<=s.n)(he:∃k,0<=k/\k<s.n+2/\cat s.n s.X (two s.val s.den) k=x)(ha:∀k,0<=k->k<s.n+2->cat s.n s.X (two s.val s.den) k<=x)(h1:1<=s.den)(h2:0<=s.val)(h3:¬∃k,0<=k/\k<s.n/\s.X k<0):x<=1073741824↔Yj s:=by
  obtain⟨c1,c2,c3⟩:=ZhZ (n:=s.n) (x:=s.val) (y:=s.den) (f:=s.X) hn
  constructor
  · intro hx
    have a1:=ha s.n hn (by omega)
    have a2:=ha (s.n+1) (by omega) (by omega)
    exact⟨⟨h1,by omega⟩,⟨h2,by omega⟩,fun k k0 k1=>⟨Int.not_lt.1 fun hh=>h3 ⟨k,k0,k1,hh⟩,by have:=ha k k0 (by omega);rw [c1 k k0 k1] at this;omega⟩⟩
  · rintro⟨b1,b2,b3⟩
    obtain⟨k,k0,k1,hk⟩:=he
    by_cases e:k<s.n
    · rw [c1 k k0 e] at hk;have:=b3 k k0 e;omega
    · by_cases e2:k=s.n
      · rw [e2,c2] at hk;omega
      · rw [show k=s.n+1 by omega,c3] at hk;omega
theorem Znl(w0:World):
    Calls Tryz.prog 212 [.int .i64 x].toArray w0 fun e w=>∃v,e= .returned v/\v=B (x<0)/\Sat w0 w []:=by
  refine zenG Tryz.func212 Tryz.ntmps212 fun w hS=> ?_
  refine zsr<|(zP)<|zlz<|(zP)<|(zP)<|(zP)<|zx1<|zf1 ⟨_,rfl,?_⟩
  exact⟨Zk (by omega),hS⟩
theorem Zin{v:Value}{n:Int}{f:Int->Int}(w0:World)(hR:Row w0 v 1 n (ints f)):
    Calls Tryz.prog 159 [v,.func (.func 212) #[] #[]].toArray w0 fun e w=>∃v,e= .returned v/\∃r:Int,v= .int .i64 r/\((r= -1/\∀k,0<=k->k<n->¬(f k<0))\/(0<=r/\r<n/\(f r<0)))/\Sat w0 w []:=by
  have hn:=hR.slh.n0;have hn1:=hR.slh.n1
  refine zenG Tryz.func159 Tryz.ntmps159 fun w hS=> ?_
  refine zsr<|(zP)<|zx5<|(zP)<|(zV (xln Zb hR.slh))<|(zP)<|zx6<|zlp (fun mm M w=>∃(i:Int),mm=((n-i).toNat)/\(0<=i)/\(i<=n)/\(∀k,0<=k->k<i->¬(f k<0))/\M= [(0,v),(1,.func (.func 212) #[] #[]),(7,.int .i64 n),(8,.int .i64 i)]/\Sat w0 w []) ⟨0,rfl,(by omega),(by omega),?_,rfl,hS⟩ ?_
  ·
   intro k h0 h1;omega
  clear hS w
  rintro mm M w ⟨i,rfl,h0,h1,qa,rfl,hS⟩
  refine zsr<|(zP)<|zx7<|Zf ?_ ?_<;>intro hc
  ·
   refine zx3<|(zP)<|(zP)<|zlz<|(zP)<|(zP)<|(zP)<|(zV (xix (kk:=i) Zb hR.slh))<|(zV (xlr (u:= .int .i64 (f i)) pl_3 (hR.below hS.below)))<|zlc (xc0 Zku) (Znl (x:=(f i)) w) ?_;rintro _ w ⟨rfl,hS'⟩
   replace hS:=hS.cmp hS';clear hS'
   refine zlt<|Zf ?_ ?_<;>intro hc
   ·
    refine zsr<|(zP)<|(zP)<|zx2<|zf1 ⟨_,rfl,?_⟩
    exact⟨i,rfl,.inr ⟨by omega,by omega,‹f i<0›⟩,hS⟩
   refine zx4<|(zV (Zh (r:=i+1)))<|(zP)<|zln<|zlq ⟨i+1,rfl,(by omega),(by omega),?_,rfl,hS⟩
   ·
    intro k h0' h1';rcases Int.lt_or_eq_of_le (show k<=i by omega) with hk|hk;exact qa k h0' hk;rw [hk];assumption
  refine zx8<|(zP)<|zx1<|zf1 ⟨_,rfl,?_⟩
  exact⟨-1,rfl,.inl ⟨rfl,fun k h0 h1=>qa k h0 (by omega)⟩,hS⟩
theorem Zdd{v:Value}{n:Int}{f:Int->Int}(w0:World)(hR:Row w0 v 1 n (ints f)):
    Calls Tryz.prog 151 [v,.func (.func 212) #[] #[]].toArray w0 fun e w=>∃v,e= .returned v/\v=B (∃k,0<=k/\k<n/\(f k<0))/\Sat w0 w []:=by
  refine zenG Tryz.func151 Tryz.ntmps151 fun w hS=> ?_
  refine zsr<|(zP)<|zlz<|(zP)<|(zP)<|zlc (xc0 WO) (Zin w (hR.below hS.below)) ?_;rintro _ w ⟨r1,rfl,hr1,hS'⟩
  replace hS:=hS.cmp hS';clear hS'
  refine(zP)<|(zP)<|zx1<|zf1 ⟨_,rfl,?_⟩
  exact⟨Zk (by
   rcases hr1 with⟨h1,h2⟩|⟨h1,h2,h3⟩
   · exact⟨fun h=>by omega,fun⟨k,h4,h5,h6⟩=>absurd h6 (h2 k h4 h5)⟩
   · exact⟨fun _=>⟨_,h1,h2,h3⟩,fun _=>h1⟩),hS⟩
theorem RR{vX vY:Value}{s:So}(w0:World)(hX:Row w0 vX 1 s.n (ints s.X))(hY:Row w0 vY 1 s.m (ints s.Y))(x9:s.n<=1000):
    Calls Tryz.prog 194 [.agg #[vX,vY,.int .i64 s.val,.int .i64 s.den]].toArray w0 fun e w=>∃v,e= .returned v/\v=B (Yj s)/\Sat w0 w []:=by
  have hn:=hX.slh.n0;have hn1:=hX.slh.n1
  refine zenG Tryz.func194 Tryz.ntmps194 fun w hS=> ?_
  refine zsr<|zla (xbx (cs:= [_,_,_,_]) hS) ?_;rintro _ w ⟨g1,rfl,hS⟩
  refine(zP)<|zx7<|zdst [0] [0] 1000 mx_ hS ?_;clear hS;intro w hS
  refine(zDw 0 (xfb 0 fd_139_0))<|(zDl 1 (fun w hS=>(xlb 0 pl_22 hS)))<|(zDw 3 (xfb 2 fd_139_2))<|(zDl 4 (fun w hS=>(xlb 0 pl_3 hS)))<|(zDw 5 (xfb 3 fd_139_3))<|(zDl 6 (fun w hS=>(xlb 0 pl_3 hS)))<|Vf (r:= [2,7]) ((YI ?_ (YI ?_ Ve)))
  ·
   refine zkc (xc0 cl_65) (c_clone (n:=s.n) (f:=s.X) w (hX.below hS.below) (by omega)) ?_;rintro vq1 w ⟨_,rfl,qb,hS'⟩
   replace hS:=(hS.comp hS').n2;clear hS'
   refine⟨⟨fun _=>hS.pk [0],hS.pk [0]⟩,?_⟩
   refine zda 7 (xli (n:=2) (len:=2) (pv:= [(0,.int .i64 s.val),(1,.int .i64 s.den)]) (cs:= [.int .i64 s.val,.int .i64 s.den]) (c:=ints (fun k=> [s.val,s.den].getD k.toNat 0)) Zb Zt hS) ?_;rintro v1 w ⟨hS,hv1⟩
   refine⟨⟨fun _=>hS.pk [0],hS.pk [0]⟩,?_⟩
   refine zda 8 (xap 1 (r:=s.n+2) (f:=ints (cat s.n s.X (two s.val s.den))) Zb Zt hS (hS.rowN 2 rfl) (by exact Xk _ _ _)) ?_;rintro v2 w ⟨hS,hv2⟩
   refine⟨⟨fun _=>hS.pk [0],hS.pk [0]⟩,?_⟩
   refine(zDw 9 xas)<|zdd<|ztn<|zsr ?_
   refine(zP)<|zlz<|(zV (xfb 3 fd_139_3))<|(zV (xlb 0 pl_3 hS))<|(zP)<|(zP)<|zlb 17 ?_ ?_<;>intro hc
   ·
    refine(zV (xfb 2 fd_139_2))<|(zV (xlb 0 pl_3 hS))<|(zP)<|(zP)<|(zP)<|zlb 22 ?_ ?_<;>intro hc
    ·
     refine(zV (xfb 0 fd_139_0))<|(zV (xlb 0 pl_22 hS))<|(zP)<|zlc (xc0 WP) (Zdd (n:=s.n) (f:=s.X) w (hX.below hS.below)) ?_;rintro _ w ⟨rfl,hS'⟩
     replace hS:=hS.cmp hS';clear hS'
     refine(zP)<|(zP)<|(zP)<|zlb 29 ?_ ?_<;>intro hc
     ·
      refine(zP)<|zlc (xc0 Zb6) (Zgm (n:=(s.n+2)) (f:=(cat s.n s.X (two s.val s.den))) w (hS.rowN 1 rfl) (by omega)) ?_;rintro _ w ⟨x1,rfl,yb,yw,hS'⟩
      replace hS:=hS.cmp hS';clear hS'
      refine(zP)<|(zP)<|(zP)<|zx1<|zf1 ⟨_,rfl,?_⟩
      exact⟨Zk (Rh hn yb yw (by omega) (by omega) (show¬(∃k,0<=k/\k<s.n/\s.X k<0) by first|assumption|exact fun hh=>absurd hh ‹_›)),hS.nl⟩
     iterate 3 refine zlo ?_
     refine(zP)<|(zP)<|zx1<|zf1 ⟨_,rfl,?_⟩
     exact⟨Ze (by rintro⟨g1,g2,g3⟩;first|omega|(obtain⟨k,k0,k1,hk⟩:=(show∃k,0<=k/\k<s.n/\s.X k<0 by first|assumption|exact Classical.not_not.1 (by assumption));have:=g3 k k0 k1;omega)),hS.nl⟩
    iterate 5 refine zlo ?_
    refine zs2 ?_
    iterate 3 refine zlo ?_
    refine(zP)<|(zP)<|zx1<|zf1 ⟨_,rfl,?_⟩
    exact⟨Ze (by rintro⟨g1,g2,g3⟩;first|omega|(obtain⟨k,k0,k1,hk⟩:=(show∃k,0<=k/\k<s.n/\s.X k<0 by first|assumption|exact Classical.not_not.1 (by assumption));have:=g3 k k0 k1;omega)),hS.nl⟩
   iterate 3 refine zlo ?_
   refine zs2 ?_
   iterate 5 refine zlo ?_
   refine zs2 ?_
   iterate 3 refine zlo ?_
   refine(zP)<|(zP)<|zx1<|zf1 ⟨_,rfl,?_⟩
   exact⟨Ze (by rintro⟨g1,g2,g3⟩;first|omega|(obtain⟨k,k0,k1,hk⟩:=(show∃k,0<=k/\k<s.n/\s.X k<0 by first|assumption|exact Classical.not_not.1 (by assumption));have:=g3 k k0 k1;omega)),hS.nl⟩
  refine zka (xli (n:=2) (len:=2) (pv:= [(0,.int .i64 s.val),(1,.int .i64 s.den)]) (cs:= [.int .i64 s.val,.int .i64 s.den]) (c:=ints (fun k=> [s.val,s.den].getD k.toNat 0)) Zb Zt hS) ?_;rintro v1 w ⟨hS,hv1⟩
  refine⟨⟨fun _=>hS.pk [0],hS.pk [0]⟩,?_⟩
  refine zdc 2 (xc0 cl_65) (c_clone (n:=s.n) (f:=s.X) w (hX.below hS.below) (by omega)) ?_;rintro vq1 w ⟨_,rfl,qb,hS'⟩
  replace hS:=(hS.comp hS').n3;clear hS'
  refine⟨⟨fun _=>hS.pk [0],hS.pk [0]⟩,?_⟩
  refine zda 8 (xap 2 (r:=s.n+2) (f:=ints (cat s.n s.X (two s.val s.den))) Zb Zt hS (hS.rowN 1 rfl) (by exact Xk _ _ _)) ?_;rintro v2 w ⟨hS,hv2⟩
  refine⟨⟨fun _=>hS.pk [0],hS.pk [0]⟩,?_⟩
  refine(zDw 9 xas)<|zdd<|ztn<|zsr ?_
  refine(zP)<|zlz<|(zV (xfb 3 fd_139_3))<|(zV (xlb 0 pl_3 hS))<|(zP)<|(zP)<|zlb 17 ?_ ?_<;>intro hc
  ·
   refine(zV (xfb 2 fd_139_2))<|(zV (xlb 0 pl_3 hS))<|(zP)<|(zP)<|(zP)<|zlb 22 ?_ ?_<;>intro hc
   ·
    refine(zV (xfb 0 fd_139_0))<|(zV (xlb 0 pl_22 hS))<|(zP)<|zlc (xc0 WP) (Zdd (n:=s.n) (f:=s.X) w (hX.below hS.below)) ?_;rintro _ w ⟨rfl,hS'⟩
    replace hS:=hS.cmp hS';clear hS'
    refine(zP)<|(zP)<|(zP)<|zlb 29 ?_ ?_<;>intro hc
    ·
     refine(zP)<|zlc (xc0 Zb6) (Zgm (n:=(s.n+2)) (f:=(cat s.n s.X (two s.val s.den))) w (hS.rowN 2 rfl) (by omega)) ?_;rintro _ w ⟨x1,rfl,yb,yw,hS'⟩
     replace hS:=hS.cmp hS';clear hS'
     refine(zP)<|(zP)<|(zP)<|zx1<|zf1 ⟨_,rfl,?_⟩
     exact⟨Zk (Rh hn yb yw (by omega) (by omega) (show¬(∃k,0<=k/\k<s.n/\s.X k<0) by first|assumption|exact fun hh=>absurd hh ‹_›)),hS.nl⟩
    iterate 3 refine zlo ?_
    refine(zP)<|(zP)<|zx1<|zf1 ⟨_,rfl,?_⟩
    exact⟨Ze (by rintro⟨g1,g2,g3⟩;first|omega|(obtain⟨k,k0,k1,hk⟩:=(show∃k,0<=k/\k<s.n/\s.X k<0 by first|assumption|exact Classical.not_not.1 (by assumption));have:=g3 k k0 k1;omega)),hS.nl⟩
   iterate 5 refine zlo ?_
   refine zs2 ?_
   iterate 3 refine zlo ?_
   refine(zP)<|(zP)<|zx1<|zf1 ⟨_,rfl,?_⟩
   exact⟨Ze (by rintro⟨g1,g2,g3⟩;first|omega|(obtain⟨k,k0,k1,hk⟩:=(show∃k,0<=k/\k<s.n/\s.X k<0 by first|assumption|exact Classical.not_not.1 (by assumption));have:=g3 k k0 k1;omega)),hS.nl⟩
  iterate 3 refine zlo ?_
  refine zs2 ?_
  iterate 5 refine zlo ?_
  refine zs2 ?_
  iterate 3 refine zlo ?_
  refine(zP)<|(zP)<|zx1<|zf1 ⟨_,rfl,?_⟩
  exact⟨Ze (by rintro⟨g1,g2,g3⟩;first|omega|(obtain⟨k,k0,k1,hk⟩:=(show∃k,0<=k/\k<s.n/\s.X k<0 by first|assumption|exact Classical.not_not.1 (by assumption));have:=g3 k k0 k1;omega)),hS.nl⟩
end Go.Proofs.YtkichmnjjblodaaGreat
namespace Go.Proofs.YtkichmnjjblodaaGreat
open Go Go.RowKit Go.Proofs.Gw
variable {x:Int}
theorem ZfD:Zc Tryz.prog 194=true:=by kernel_rfl
theorem Zkv:Zc Tryz.prog 211=true:=by kernel_rfl
theorem Zfo:ZW Tryz.prog 250=some (.agg #[.int .i64 0,.int .i64 0],2,16):=by kernel_rfl
theorem Ti:Zy Tryz.prog 250=some 2:=by kernel_rfl
theorem Ze2{y:Int}(hx:0<=x)(hy:1<=y):1<=(Int.gcd x y:Int):=by
  have:Int.gcd x y≠0:=fun h=>by have:=(Int.gcd_eq_zero_iff.1 h).2;omega
  omega
def ValR(s:So)(x y e:Int):Prop:=(¬Yj s/\x=0/\y=0/\e=1)\/(Yj s/\x=s.val.tdiv (Int.gcd s.val s.den)/\y=s.den.tdiv (Int.gcd s.val s.den)/\e=0)
theorem ValR.same{s:So}{y e x2 y2 e2:Int}(h:ValR s x y e)(h':ValR s x2 y2 e2):x=x2/\y=y2/\e=e2:=by
  rcases h with⟨h1,h2,h3,h4⟩|⟨h1,h2,h3,h4⟩<;>rcases h' with⟨g1,g2,g3,g4⟩|⟨g1,g2,g3,g4⟩
  · exact⟨by omega,by omega,by omega⟩
  · exact absurd g1 h1
  · exact absurd h1 g1
  · exact⟨by rw [h2,g2],by rw [h3,g3],by omega⟩
def CeilR(s:So)(x e:Int):Prop:=(¬Yj s/\x=0/\e=1)\/(Yj s/\x=(s.val+s.den-1).tdiv s.den/\e=0)
theorem CeilR.same{s:So}{e x2 e2:Int}(h:CeilR s x e)(h':CeilR s x2 e2):x=x2/\e=e2:=by
  rcases h with⟨h1,h2,h4⟩|⟨h1,h2,h4⟩<;>rcases h' with⟨g1,g2,g4⟩|⟨g1,g2,g4⟩
  · exact⟨by omega,by omega⟩
  · exact absurd g1 h1
  · exact absurd h1 g1
  · exact⟨by rw [h2,g2],by omega⟩
theorem Zd1{vX vY:Value}{s:So}(w0:World)(hX:Row w0 vX 1 s.n (ints s.X))(hY:Row w0 vY 1 s.m (ints s.Y))(x9:s.n<=1000):
    Calls Tryz.prog 193 [.agg #[vX,vY,.int .i64 s.val,.int .i64 s.den]].toArray w0 fun e w=>∃v,e= .returned v/\∃(x y e:Int),v= .tuple #[.agg #[.int .i64 x,.int .i64 y],.int .i64 e]/\ValR s x y e/\Sat w0 w []:=by
  have hn:=hX.slh.n0;have hn1:=hX.slh.n1
  refine zenG Tryz.func193 Tryz.ntmps193 fun w hS=> ?_
  refine zsr<|zla (xbx (cs:= [_,_,_,_]) hS) ?_;rintro _ w ⟨g1,rfl,hS⟩
  refine zla (xal (cs:= [_,_]) Zfo hS) ?_;rintro _ w ⟨g2,rfl,hS⟩
  refine(zP)<|zx5<|(zV (xls 0 ZL hS))<|zlc (xc0 ZfD) (RR (s:=s) w (hX.below hS.below) (hY.below hS.below) (by omega)) ?_;rintro _ w ⟨rfl,hS'⟩
  replace hS:=hS.cmp hS';clear hS'
  refine(zP)<|zlt<|Zf ?_ ?_<;>intro hc
  ·
   refine zsr<|(zV (xany (v:= .agg #[.int .i64 0,.int .i64 0])))<|zle (xsw 1 Ti hS) ?_;clear hS;rintro w hS
   refine(zP)<|zx14<|Yp 1 Ti hS ⟨_,rfl,?_⟩
   exact⟨0,0,1,rfl,.inl ⟨‹¬Yj s›,rfl,rfl,rfl⟩,hS.nl⟩
  refine ZT<|zlv (xfb 2 fd_139_2) ?_
  have hsd:Yj s:=by first|assumption|exact Classical.not_not.1 ‹_›
  obtain⟨⟨d1,d2⟩,⟨d3,d4⟩,d5⟩:=id hsd
  refine(zV (xlb 0 pl_3 hS))<|(zV (xfb 3 fd_139_3))<|(zV (xlb 0 pl_3 hS))<|zlc (xc0 Zkv) (Znp (x:=s.val) (y:=s.den) w (by omega) (by omega)) ?_;rintro _ w ⟨rfl,hS'⟩
  replace hS:=hS.cmp hS';clear hS'
  refine zlv xas ?_
  have hgp:=Ze2 (x:=s.val) (y:=s.den) (by omega) (by omega)
  have hq1:=Xn (a:=s.val) (d:=(Int.gcd s.val s.den:Int)) (A:=9223372036854775807) hgp (by omega)
  have hq2:=Xn (a:=s.den) (d:=(Int.gcd s.val s.den:Int)) (A:=9223372036854775807) hgp (by omega)
  refine zx7<|zdst [0,1] [0] 9 mx_ hS ?_;clear hS;intro w hS
  refine(zDw 0 (xfb 2 fd_139_2))<|(zDl 1 (fun w hS=>(xlb 0 pl_3 hS)))<|(zDw 2 xmv)<|(zDw 3 (VB (r:=(Int.tdiv s.val (Int.gcd s.val s.den:Int)))))<|(zDw 4 (xfb 3 fd_139_3))<|(zDl 5 (fun w hS=>(xlb 0 pl_3 hS)))<|(zDw 6 xmv)<|(zDw 7 (VB (r:=(Int.tdiv s.den (Int.gcd s.val s.den:Int)))))<|(zDw 8 (xany (v:= .agg #[.int .i64 (Int.tdiv s.val (Int.gcd s.val s.den:Int)),.int .i64 (Int.tdiv s.den (Int.gcd s.val s.den:Int))])))<|zde 9 (xsw 1 Ti hS) ?_;clear hS;rintro w hS
  refine⟨⟨fun h=>absurd h (by decide),hS.pk [0]⟩,?_⟩
  refine(zDw 10 xas)<|zdd<|ztn<|zrt<|Yp 1 Ti hS ⟨_,rfl,?_⟩
  exact⟨_,_,0,rfl,.inr ⟨hsd,rfl,rfl,rfl⟩,hS.nl⟩
end Go.Proofs.YtkichmnjjblodaaGreat
namespace Go.Proofs.YtkichmnjjblodaaGreat
open Go Go.RowKit Go.Proofs.Gw
def ZdJ(p:Prob)(i:Int):Int->Int:=fun j=>if j=i then min (p.D i) ((p.stock+p.kerf).tdiv (p.L i+p.kerf)) else 0
theorem ZeL(p:Prob)(i:Int):upd (fun _=>0) i (min (p.D i) ((p.stock+p.kerf).tdiv (p.L i+p.kerf)))=ZdJ p i:=by
  funext j;unfold upd ZdJ;rfl
theorem Zni{vL vD:Value}{p:Prob}{gp:Nat}{i:Int}(w0:World)(hG:(Ent.blk gp [vL,vD,.int .i64 p.stock,.int .i64 p.kerf]).holds w0)(h:PAt w0 vL vD p)(hok:p.Ok)(i0:0<=i)(i1:i<p.m):
    Calls Tryz.prog 183 [.int .i64 i,.pointer (some ⟨gp,0,none⟩)].toArray w0 fun e w=>∃v,e= .returned v/\∃r,v=r/\Slh r p.m/\Sat w0 w [.own r 1 3 p.m (ints (ZdJ p i))]:=by
  have hm:=h.L.slh.n0;have hm1:=h.L.slh.n1;have hd:=h.D.slh.n0;have hd1:=h.D.slh.n1;have hs:=h.is;have hk:=h.ik
  have hpd:=hok.d;have hpm:=hok.m1;have qI:=hok.m2;have hs1:=hok.s1;have hs2:=hok.s2;have hk1:=hok.k1;have hk2:=hok.k2;have he:=hok.all i i0 i1;unfold Prob.each at he
  have hqd:=Xn (a:=p.stock+p.kerf) (d:=p.L i+p.kerf) (A:=2100) (by omega) (by omega)
  refine zenG Tryz.func183 Tryz.ntmps183 fun w hS=> ?_
  refine zsr<|(zP)<|zlz<|(zV (xfb 0 fd_32_0))<|(zV (xlf pl_22 (Ent.holds.cell hG (o:=0) rfl) hS))<|(zV (xln Zb h.L.slh))<|zla (xmk Zb Zt hS) ?_;rintro v1 w ⟨hS,hv1⟩
  refine(zP)<|zx7<|zdst [0] [] 23 mx_ hS ?_;clear hS;intro w hS
  refine(zDw 0 xmv)<|(zDw 1 xmv)<|(zDw 2 (xfb 1 fd_32_1))<|(zDl 3 (fun w hS=>(xlf pl_22 (Ent.holds.cell hG (o:=1) rfl) hS)))<|(zDw 4 xmv)<|(zDw 5 (xix (kk:=i) Zb h.D.slh))<|zdla 6 (fun w hS=>(xlr (u:= .int .i64 (p.D i)) pl_3 (h.D.below hS.below))) ?_
  have hbv:=h.iD i
  refine(zDw 7 (xfb 2 fd_32_2))<|(zDl 8 (fun w hS=>(xlf pl_3 (Ent.holds.cell hG (o:=2) rfl) hS)))<|(zDw 9 (xfb 3 fd_32_3))<|(zDl 10 (fun w hS=>(xlf pl_3 (Ent.holds.cell hG (o:=3) rfl) hS)))<|(zDw 11 (Zh (r:=p.stock+p.kerf)))<|(zDw 12 (xfb 0 fd_32_0))<|(zDl 13 (fun w hS=>(xlf pl_22 (Ent.holds.cell hG (o:=0) rfl) hS)))<|(zDw 14 xmv)<|(zDw 15 (xix (kk:=i) Zb h.L.slh))<|zdla 16 (fun w hS=>(xlr (u:= .int .i64 (p.L i)) pl_3 (h.L.below hS.below))) ?_
  have hbv:=h.iL i
  refine(zDw 17 (xfb 3 fd_32_3))<|(zDl 18 (fun w hS=>(xlf pl_3 (Ent.holds.cell hG (o:=3) rfl) hS)))<|(zDw 19 (Zh (r:=p.L i+p.kerf)))<|(zDw 20 (VB (r:=(Int.tdiv (p.stock+p.kerf) (p.L i+p.kerf)))))<|(zDw 21 (U5 (r:=(min (p.D i) (Int.tdiv (p.stock+p.kerf) (p.L i+p.kerf))))))<|(zDw 22 (xix (kk:=i) Zb hv1))<|zde 23 (xso 0 pl_3 hS (Zx _ _ _)) ?_;clear hS;rintro w hS
  refine⟨⟨fun h=>absurd h (by decide),hS.nl⟩,?_⟩
  refine zdd<|ztn<|zsr ?_
  refine(zP)<|(zP)<|zx1<|zf1 ⟨_,rfl,?_⟩
  rw [ZeL] at hS
  exact⟨_,rfl,hv1,hS⟩
end Go.Proofs.YtkichmnjjblodaaGreat
namespace Go.Proofs.YtkichmnjjblodaaGreat
open Go Go.RowKit Go.Proofs.Gw
variable {i:Int}
theorem ZkM:Zc Tryz.prog 183=true:=by kernel_rfl
def stN(p:Prob):Nat->Int
  |0=>0
  |k+1=>if 0<p.D k then stN p k+1 else stN p k
def stL(p:Prob):Nat->Int->Int
  |0=>fun _=>0
  |k+1=>if 0<p.D k then gsn (stL p k) (stN p k) p.m else stL p k
def stG(p:Prob):Nat->Int->Int->Int
  |0=>fun _ _=>0
  |k+1=>if 0<p.D k then gsn (stG p k) (stN p k) (ZdJ p k) else stG p k
theorem Zau(p:Prob)(h:0<=i):stN p (i+1).toNat=if 0<p.D i then stN p i.toNat+1 else stN p i.toNat:=by
  obtain⟨k,rfl⟩:=Int.eq_ofNat_of_zero_le h;rw [show((k:Int)+1).toNat=k+1 by omega,Int.toNat_natCast];rfl
theorem Zav(p:Prob)(h:0<=i):stL p (i+1).toNat=if 0<p.D i then gsn (stL p i.toNat) (stN p i.toNat) p.m else stL p i.toNat:=by
  obtain⟨k,rfl⟩:=Int.eq_ofNat_of_zero_le h;rw [show((k:Int)+1).toNat=k+1 by omega,Int.toNat_natCast];rfl
theorem Zaw(p:Prob)(h:0<=i):stG p (i+1).toNat=if 0<p.D i then gsn (stG p i.toNat) (stN p i.toNat) (ZdJ p i) else stG p i.toNat:=by
  obtain⟨k,rfl⟩:=Int.eq_ofNat_of_zero_le h;rw [show((k:Int)+1).toNat=k+1 by omega,Int.toNat_natCast];rfl
theorem Ki(p:Prob):∀k:Nat,0<=stN p k/\stN p k<=k
  |0=>by simp [stN]
  | k+1=>by
    have:=Ki p k
    simp only [stN];split<;>omega
def Zdk(p:Prob)(n:Int)(ln:Int->Int)(g:Int->Int->Int)(e:Int):Prop:=(¬p.Ok/\n=0/\e=1)\/(p.Ok/\n=stN p p.m.toNat/\ln=stL p p.m.toNat/\g=stG p p.m.toNat/\e=0)
theorem Zgl{vL vD:Value}{p:Prob}(w0:World)(h:PAt w0 vL vD p):
    Calls Tryz.prog 162 [.agg #[vL,vD,.int .i64 p.stock,.int .i64 p.kerf]].toArray w0 fun e w=>∃v,e= .returned v/\∃r n vv ln g e,v= .tuple #[r,.int .i64 e]/\Zdk p n ln g e/\Slh r n/\Sat w0 w [.own r 1 22 n vv,.sem (Frame.rows 3 n vv ln g)]:=by
  have hm:=h.L.slh.n0;have hm1:=h.L.slh.n1;have hd:=h.D.slh.n0;have hd1:=h.D.slh.n1;have hs:=h.is;have hk:=h.ik
  refine zenG Tryz.func162 Tryz.ntmps162 fun w hS=> ?_
  refine zsr<|zla (xbx (cs:= [_,_,_,_]) hS) ?_;rintro _ w ⟨g1,rfl,hS⟩
  refine(zP)<|(zP)<|zx5<|(zV (xls 0 st_32 hS))<|zlc (xc0 XL) (Yb (p:=p) w (h.below hS.below)) ?_;rintro _ w ⟨rfl,hS'⟩
  replace hS:=hS.cmp hS';clear hS'
  refine(zP)<|zlt<|Zf ?_ ?_<;>intro hc
  ·
   refine zsr<|(zP)<|(zP)<|zx14<|zf2 ⟨_,rfl,?_⟩
   exact⟨_,0,fun _=>undef,fun _=>0,fun _ _=>0,1,rfl,.inl ⟨‹¬p.Ok›,rfl,rfl⟩,slh_nil,((hS.sub (.cons _ .slnil)).addnil 1 22 (fun _=>undef)).addrows 3 (fun _=>undef) (fun _=>0) (fun _ _=>0)⟩
  refine ZT<|(zV xmf)<|(zP)<|zlz<|(zP)<|zx5<|(zV (xfb 1 fd_32_1))<|(zV (xlb 0 pl_22 hS))<|(zV (xln Zb h.D.slh))<|(zP)<|zx6 ?_
  have hok:p.Ok:=by first|assumption|exact Classical.not_not.1 ‹_›
  have hpd:=hok.d;have hpm:=hok.m1;have qI:=hok.m2
  replace hS:=hS.addnil 1 22 (fun _=>Value.slice none 0 0)
  replace hS:=hS.addrows 3 (fun _=>Value.slice none 0 0) (fun _=>0) (fun _ _=>0)
  have aL:=fun k (k0:0<=k) (k1:k<0)=>hS.slhIn 2 rfl k0 k1
  refine zlp (fun mm M w=>∃(nC:Int) (wv:Int->Value) (lC:Int->Int) (gC:Int->Int->Int) (i:Int) (wC:Value),mm=((p.d-i).toNat)/\(0<=i)/\(i<=p.d)/\(nC=stN p i.toNat)/\(lC=stL p i.toNat)/\(gC=stG p i.toNat)/\(Slh wC nC)/\M= [(2,.slice none 0 0),(3,.int .i64 0),(4,.func (.func 183) #[] #[.pointer (some ⟨g1,0,none⟩)]),(5,wC),(13,vD),(14,.int .i64 p.d),(15,.int .i64 i)]/\Sat w0 w [.blk g1 [vL,vD,.int .i64 p.stock,.int .i64 p.kerf],.own wC 1 22 nC wv,.sem (Frame.rows 3 nC wv lC gC)]) ⟨0,(fun _=>Value.slice none 0 0),(fun _=>0),(fun _ _=>0),0,(.slice none 0 0),rfl,(by omega),(by omega),?_,?_,?_,?_,rfl,hS⟩ ?_
  ·
   rfl
  ·
   rfl
  ·
   rfl
  ·
   exact slh_nil
  clear hS w
  rintro mm M w ⟨nC,wv,lC,gC,i,wC,rfl,h0,h1,hnC,hlC,hgC,hwC,rfl,hS⟩
  have qY:=fun k (k0:0<=k) (k1:k<nC)=>hS.slhIn 2 rfl k0 k1
  have hnr:=Ki p i.toNat
  refine zsr<|(zP)<|zx7<|Zf ?_ ?_<;>intro hc
  ·
   refine zx3<|(zP)<|(zV (xix (kk:=i) Zb h.D.slh))<|zlv (xlr (u:= .int .i64 (p.D i)) pl_3 (h.D.below hS.below)) ?_
   have hbv:=h.iD i
   refine(zP)<|(zP)<|zlz<|(zP)<|(zP)<|zlt<|Zf ?_ ?_<;>intro hc
   ·
    refine zrg<|(zP)<|(zP)<|(zP)<|zlc (xcc (vs:= [_]) ZkM) (Zni (p:=p) (i:=i) w (hS.holds _ (List.mem_of_getElem? (i:=0) rfl)) (h.below hS.below) hok (by omega) (by omega)) ?_;rintro bo w ⟨_,rfl,bI,hS'⟩
    replace hS:=(hS.comp hS').n4;clear hS'
    refine zla (xli (n:=1) (len:=1) (pv:= [(0,bo)]) (cs:= [bo]) (c:=(fun _=>bo)) Zm Ya hS (hf:=by obtain⟨_,_,_,_,rfl,_⟩:=bI;kernel_rfl)) ?_;rintro v1 w ⟨hS,hv1⟩
    refine zla (xap 1 (r:=nC+1) Zm Ya hS (hS.rowN 4 rfl) (Xs _ _ _) (h1:=fun _ _ _=>bI.one)) ?_;rintro v2 w ⟨hS,hv2⟩
    replace hS:=Sat.merge (l1:= [_,_]) (l2:= []) (l3:= [_]) hS (by omega)
    have yz:=fun k (k0:0<=k) (k1:k<nC+1)=>hS.slhIn 2 rfl k0 k1
    refine(zP)<|zx10<|(zV (Zh (r:=i+1)))<|(zP)<|zln<|zlq ⟨nC+1,gsn wv nC bo,gsn lC nC p.m,gsn gC nC (ZdJ p i),i+1,v2,rfl,(by omega),(by omega),?_,?_,?_,?_,rfl,hS.pk [0,1,2]⟩
    ·
     rw [Zau p h0,<-hnC];first|rw [if_pos (by omega)]|rw [if_neg (by omega)]
    ·
     rw [Zav p h0,<-hlC,<-hnC];first|rw [if_pos (by omega)]|rw [if_neg (by omega)]
    ·
     rw [Zaw p h0,<-hgC,<-hnC];first|rw [if_pos (by omega)]|rw [if_neg (by omega)]
    ·
     exact hv2
   refine zx4<|(zV (Zh (r:=i+1)))<|(zP)<|zln<|zlq ⟨nC,wv,lC,gC,i+1,wC,rfl,(by omega),(by omega),?_,?_,?_,?_,rfl,hS⟩
   ·
    rw [Zau p h0,<-hnC];first|rw [if_pos (by omega)]|rw [if_neg (by omega)]
   ·
    rw [Zav p h0,<-hlC,<-hnC];first|rw [if_pos (by omega)]|rw [if_neg (by omega)]
   ·
    rw [Zaw p h0,<-hgC,<-hnC];first|rw [if_pos (by omega)]|rw [if_neg (by omega)]
   ·
    exact hwC
  refine zx8<|(zP)<|(zP)<|(zP)<|zx1<|zf2 ⟨_,rfl,?_⟩
  have him:i=p.m:=by omega
  rw [him] at hnC hlC hgC
  exact⟨_,_,_,_,_,0,rfl,.inr ⟨hok,hnC,hlC,hgC,rfl⟩,hwC,hS.pk [1,2]⟩
end Go.Proofs.YtkichmnjjblodaaGreat
namespace Go.Proofs.Gw
open Go Go.RowKit
theorem ZB(pv:Int->Value)(cnt:Int->Int){k i:Int}(h:k=2*i):∀(j:Nat) u, [pv i,Value.int .i64 (cnt i)][j]? =some u->Zg pv cnt (k+j)=u:=fun j u hu=>by
  rcases j with _|_|j
  · cases hu;exact UT pv cnt (by omega)
  · cases hu;exact Wm pv cnt (by omega)
  · simp at hu
theorem YP{pv:Int->Value}{cnt:Int->Int}(h:∀i,(pv i).oneCell'=true)(k:Int):(Zg pv cnt k).oneCell'=true:=by
  unfold Zg
  split
  · exact h _
  · rfl
theorem YR(pv:Int->Value)(cnt:Int->Int)(n:Int)(r:Value)(x:Int):cat (n*2) (Zg pv cnt) (Zg (fun _=>r) (fun _=>x))=Zg (gsn pv n r) (snoc cnt n x):=by
  funext k
  unfold cat Zg gsn snoc
  by_cases h:k<n*2
  · have h2:k/2<n:=by omega
    simp only [if_pos h,if_pos h2]
  · have h2:¬k/2<n:=by omega
    simp only [if_neg h,if_neg h2]
    by_cases e:k%2=0
    · rw [if_pos e,if_pos (by omega)]
    · rw [if_neg e,if_neg (by omega)]
theorem Zam(pv:Int->Value)(cnt:Int->Int){k i x:Int}(h:k=2*i+1):upd (Zg pv cnt) k (.int .i64 x)=Zg pv (upd cnt i x):=by
  funext j;unfold upd Zg;dsimp only
  by_cases e:j=k
  · rw [if_pos e,if_neg (by omega),if_pos (by omega)]
  · rw [if_neg e]
    by_cases e0:j%2=0
    · rw [if_pos e0,if_pos e0]
    · rw [if_neg e0,if_neg e0,if_neg (by omega)]
structure VAt (w:World) (v:Value) (n:Int) (pv:Int->Value) (ln:Int->Int) (pt:Int->Int->Int) (cnt:Int->Int):Prop where
  row:Row w v 2 n (Zg pv cnt)
  p:∀i,0<=i->i<n->Row w (pv i) 1 (ln i) (ints (pt i))
  room:∀i,0<=i->i<n->XO (pv i)
theorem VAt.below{w w':World}{v:Value}{n:Int}{pv:Int->Value}{ln:Int->Int}{pt:Int->Int->Int}{cnt:Int->Int}(h:VAt w v n pv ln pt cnt)(hb:Below w.heap.size w w'):VAt w' v n pv ln pt cnt:=
  ⟨h.row.below hb,fun i h0 h1=>(h.p i h0 h1).below hb,h.room⟩
def Znz(n n2:Int)(ln ln2:Int->Int)(pt pt2:Int->Int->Int)(cnt qe:Int->Int):Prop:=n=n2/\∀k,0<=k->k<n->cnt k=qe k/\ln k=ln2 k/\∀j,0<=j->j<ln k->pt k j=pt2 k j
end Go.Proofs.Gw
namespace Go.Proofs.YtkichmnjjblodaaGreat
open Go Go.RowKit Go.Proofs.Gw
variable {i:Int} {ml:Int->Int} {mf:Int->Int->Int}
theorem Zfp:ZW Tryz.prog 103=some (.agg #[.slice none 0 0,.int .i64 0],2,32):=by kernel_rfl
theorem Yo:ZW Tryz.prog 107=some (.agg #[.slice none 0 0,.int .i64 0],2,32):=by kernel_rfl
theorem ZO:ZI Tryz.prog 60=some (107,2):=by kernel_rfl
def flN(s:So):Nat->Int
  |0=>0
  |k+1=>if s.den<=s.X k then flN s k+1 else flN s k
def flL(s:So)(ml:Int->Int):Nat->Int->Int
  |0=>fun _=>0
  |k+1=>if s.den<=s.X k then gsn (flL s ml k) (flN s k) (ml k) else flL s ml k
def flG(s:So)(mf:Int->Int->Int):Nat->Int->Int->Int
  |0=>fun _ _=>0
  |k+1=>if s.den<=s.X k then gsn (flG s mf k) (flN s k) (mf k) else flG s mf k
def flC(s:So):Nat->Int->Int
  |0=>fun _=>0
  |k+1=>if s.den<=s.X k then snoc (flC s k) (flN s k) ((s.X k).tdiv s.den) else flC s k
theorem Za2(s:So)(h:0<=i):flN s (i+1).toNat=if s.den<=s.X i then flN s i.toNat+1 else flN s i.toNat:=by
  obtain⟨k,rfl⟩:=Int.eq_ofNat_of_zero_le h;rw [show((k:Int)+1).toNat=k+1 by omega,Int.toNat_natCast];rfl
theorem Za3(s:So)(ml:Int->Int)(h:0<=i):flL s ml (i+1).toNat=if s.den<=s.X i then gsn (flL s ml i.toNat) (flN s i.toNat) (ml i) else flL s ml i.toNat:=by
  obtain⟨k,rfl⟩:=Int.eq_ofNat_of_zero_le h;rw [show((k:Int)+1).toNat=k+1 by omega,Int.toNat_natCast];rfl
theorem Za4(s:So)(mf:Int->Int->Int)(h:0<=i):flG s mf (i+1).toNat=if s.den<=s.X i then gsn (flG s mf i.toNat) (flN s i.toNat) (mf i) else flG s mf i.toNat:=by
  obtain⟨k,rfl⟩:=Int.eq_ofNat_of_zero_le h;rw [show((k:Int)+1).toNat=k+1 by omega,Int.toNat_natCast];rfl
theorem Za5(s:So)(h:0<=i):flC s (i+1).toNat=if s.den<=s.X i then snoc (flC s i.toNat) (flN s i.toNat) ((s.X i).tdiv s.den) else flC s i.toNat:=by
  obtain⟨k,rfl⟩:=Int.eq_ofNat_of_zero_le h;rw [show((k:Int)+1).toNat=k+1 by omega,Int.toNat_natCast];rfl
theorem UZ(s:So):∀k:Nat,0<=flN s k/\flN s k<=k
  |0=>by simp [flN]
  | k+1=>by
    have:=UZ s k
    simp only [flN];split<;>omega
def FloorR(s:So)(u:Int)(ml:Int->Int)(mf:Int->Int->Int)(n:Int)(ln:Int->Int)(pt:Int->Int->Int)(cnt:Int->Int)(e:Int):Prop:=
  (¬(Yj s/\u=s.n)/\n=0/\e=1)\/(Yj s/\u=s.n/\n=flN s u.toNat/\ln=flL s ml u.toNat/\pt=flG s mf u.toNat/\cnt=flC s u.toNat/\e=0)
theorem FloorR.rng{s:So}{u:Int}{n e:Int}{ln cnt:Int->Int}{pt:Int->Int->Int}(hu:0<=u)(h:FloorR s u ml mf n ln pt cnt e):0<=n/\n<=u:=by
  rcases h with⟨_,h,_⟩|⟨_,_,h,_⟩
  · omega
  · have:=UZ s u.toNat;omega
theorem FloorR.same{s:So}{u:Int}{n n2 e e2:Int}{ln ln2 cnt qe:Int->Int}{pt pt2:Int->Int->Int}(h:FloorR s u ml mf n ln pt cnt e)(h':FloorR s u ml mf n2 ln2 pt2 qe e2):Znz n n2 ln ln2 pt pt2 cnt qe/\e=e2:=by
  rcases h with⟨h1,h2,h3⟩|⟨h1,h2,h3,h4,h5,h6,h7⟩<;>rcases h' with⟨g1,g2,g3⟩|⟨g1,g2,g3,g4,g5,g6,g7⟩
  · exact⟨⟨by omega,fun k k0 k1=>by omega⟩,by omega⟩
  · exact absurd ⟨g1,g2⟩ h1
  · exact absurd ⟨h1,h2⟩ g1
  · rw [h3,h4,h5,h6,h7,g3,g4,g5,g6,g7];exact⟨⟨rfl,fun _ _ _=>⟨rfl,rfl,fun _ _ _=>rfl⟩⟩,rfl⟩
theorem Zd9{vM:Value}{u:Int}{mv:Int->Value}{vX vY:Value}{s:So}(w0:World)(hM:MAt w0 vM u mv ml mf)(hX:Row w0 vX 1 s.n (ints s.X))(hY:Row w0 vY 1 s.m (ints s.Y))(x9:s.n<=1000)(hml:∀k,0<=k->k<u->ml k<=100000):
    Calls Tryz.prog 167 [vM,.agg #[vX,vY,.int .i64 s.val,.int .i64 s.den]].toArray w0 fun e w=>∃v,e= .returned v/\∃r n pv ln pt cnt e,v= .tuple #[r,.int .i64 e]/\FloorR s u ml mf n ln pt cnt e/\Slh r n/\Sat w0 w [.own r 2 107 n (Zg pv cnt),.sem (Frame.rows 3 n pv ln pt)]:=by
  have hn:=hX.slh.n0;have hn1:=hX.slh.n1
  have hu:=hM.row.slh.n0;have hu1:=hM.row.slh.n1
  refine zenG Tryz.func167 Tryz.ntmps167 fun w hS=> ?_
  refine zsr<|zla (xbx (cs:= [_,_,_,_]) hS) ?_;rintro _ w ⟨g1,rfl,hS⟩
  refine(zP)<|(zP)<|zx5<|(zV (xls 0 ZL hS))<|zlc (xc0 ZfD) (RR (s:=s) w (hX.below hS.below) (hY.below hS.below) (by omega)) ?_;rintro _ w ⟨rfl,hS'⟩
  replace hS:=hS.cmp hS';clear hS'
  refine(zP)<|(zP)<|zlb 12 ?_ ?_<;>intro hc
  ·
   iterate 6 refine zlo ?_
   refine(zP)<|zlt<|zct<|zsr ?_
   refine(zP)<|(zP)<|zx14<|zf2 ⟨_,rfl,?_⟩
   exact⟨_,0,fun _=>undef,fun _=>0,fun _ _=>0,fun _=>0,1,rfl,.inl ⟨by first|exact fun hh=>absurd hh.1 ‹¬Yj s›|(rintro⟨_,hh⟩;omega),rfl,rfl⟩,slh_nil,((hS.sub (.cons _ .slnil)).addnil 2 107 (Zg (fun _=>undef) (fun _=>0))).addrows 3 (fun _=>undef) (fun _=>0) (fun _ _=>0)⟩
  refine(zP)<|(zV (xln Zm hM.row.slh))<|(zV (xfb 0 fd_139_0))<|(zV (xlb 0 pl_22 hS))<|(zV (xln Zb hX.slh))<|(zP)<|(zP)<|zlt<|Zf ?_ ?_<;>intro hc
  ·
   refine zsr<|(zP)<|(zP)<|zx14<|zf2 ⟨_,rfl,?_⟩
   exact⟨_,0,fun _=>undef,fun _=>0,fun _ _=>0,fun _=>0,1,rfl,.inl ⟨by first|exact fun hh=>absurd hh.1 ‹¬Yj s›|(rintro⟨_,hh⟩;omega),rfl,rfl⟩,slh_nil,((hS.sub (.cons _ .slnil)).addnil 2 107 (Zg (fun _=>undef) (fun _=>0))).addrows 3 (fun _=>undef) (fun _=>0) (fun _ _=>0)⟩
  refine ZT<|(zP)<|zx5<|(zV (xfb 0 fd_139_0))<|(zV (xlb 0 pl_22 hS))<|(zV (xln Zb hX.slh))<|(zP)<|zx6 ?_
  have hsd:Yj s:=by first|assumption|exact Classical.not_not.1 ‹_›
  obtain⟨⟨d1,d2⟩,⟨d3,d4⟩,d5⟩:=id hsd
  have hun:u=s.n:=by omega
  replace hS:=hS.addnil 2 107 (Zg (fun _=>Value.slice none 0 0) (fun _=>0))
  replace hS:=hS.addrows 3 (fun _=>Value.slice none 0 0) (fun _=>0) (fun _ _=>0)
  have aL:=fun k (k0:0<=k) (k1:k<0)=>hS.slhIn 2 rfl k0 k1
  refine zlp (fun mm M w=>∃(nC:Int) (wv:Int->Value) (lC:Int->Int) (gC:Int->Int->Int) (cC:Int->Int) (i:Int) (wC:Value),mm=((s.n-i).toNat)/\(0<=i)/\(i<=s.n)/\(nC=flN s i.toNat)/\(lC=flL s ml i.toNat)/\(gC=flG s mf i.toNat)/\(cC=flC s i.toNat)/\(Slh wC nC)/\M= [(0,vM),(3,.pointer (some ⟨g1,0,none⟩)),(4,.slice none 0 0),(5,.int .i64 0),(6,wC),(21,vX),(22,.int .i64 s.n),(23,.int .i64 i)]/\Sat w0 w [.blk g1 [vX,vY,.int .i64 s.val,.int .i64 s.den],.own wC 2 107 nC (Zg wv cC),.sem (Frame.rows 3 nC wv lC gC)]) ⟨0,(fun _=>Value.slice none 0 0),(fun _=>0),(fun _ _=>0),(fun _=>0),0,(.slice none 0 0),rfl,(by omega),(by omega),?_,?_,?_,?_,?_,rfl,hS⟩ ?_
  ·
   rfl
  ·
   rfl
  ·
   rfl
  ·
   rfl
  ·
   exact slh_nil
  clear hS w
  rintro mm M w ⟨nC,wv,lC,gC,cC,i,wC,rfl,h0,h1,hnC,hlC,hgC,hcC,hwC,rfl,hS⟩
  have qY:=fun k (k0:0<=k) (k1:k<nC)=>hS.slhIn 2 rfl k0 k1
  have hnr:=UZ s i.toNat
  refine zsr<|(zP)<|zx7<|Zf ?_ ?_<;>intro hc
  ·
   refine zx3<|(zP)<|(zV (xix (kk:=i) Zb hX.slh))<|(zV (xlr (u:= .int .i64 (s.X i)) pl_3 (hX.below hS.below)))<|(zP)<|(zP)<|zlz<|(zP)<|(zV (xfb 3 fd_139_3))<|(zV (xlb 0 pl_3 hS))<|(zP)<|zlt<|Zf ?_ ?_<;>intro hc
   ·
    refine zdst [0] [0] 1000 mx_ hS ?_;clear hS;intro w hS
    refine(zDw 0 xmv)<|(zDw 1 xmv)<|(zDw 2 xmv)<|(zDw 3 (xix (kk:=i) Zm hM.row.slh))<|zdla 4 (fun w hS=>(xlr (u:=(mv i)) pl_22 (hM.row.below hS.below))) ?_
    have jQ:=hml i h0 (by omega)
    refine(zDw 6 xmv)<|(zDw 7 (xfb 3 fd_139_3))<|zdla 8 (fun w hS=>(xlb 0 pl_3 hS)) ?_
    have hqd:=Xn (a:=s.X i) (d:=s.den) (A:=1073741824) (by omega) (by have:=d5 i h0 (by omega);omega)
    refine(zDw 9 (VB (r:=(Int.tdiv (s.X i) s.den))))<|zdc 5 (xc0 cl_65) (c_clone (n:=(ml i)) (f:=(mf i)) w ((hM.p i (by omega) (by omega)).below hS.below) (by omega)) ?_;rintro vq1 w ⟨_,rfl,qb,hS'⟩
    replace hS:=(hS.comp hS').n4;clear hS'
    refine⟨⟨fun _=>hS.pk [0],hS.pk [0]⟩,?_⟩
    refine zDrv 10 (xany (v:= .agg #[vq1,.int .i64 (Int.tdiv (s.X i) s.den)]) (hr:=by obtain⟨_,_,_,_,rfl,_⟩:=qb;kernel_rfl)) ?_
    refine zda 11 (xli (n:=1) (len:=1) (pv:= [(0,.agg #[vq1,.int .i64 (Int.tdiv (s.X i) s.den)])]) (cs:= [vq1,.int .i64 (Int.tdiv (s.X i) s.den)]) (c:=Zg (fun _=>vq1) (fun _=>(Int.tdiv (s.X i) s.den))) ZO Yo hS (hf:=by obtain⟨_,_,_,_,rfl,_⟩:=qb;kernel_rfl)) ?_;rintro v1 w ⟨hS,hv1⟩
    refine⟨⟨fun _=>hS.pk [0],hS.pk [0]⟩,?_⟩
    refine zda 12 (xap 1 (r:=nC+1) ZO Yo hS (hS.rowN 4 rfl) (YR _ _ _ _ _) (h1:=fun k _ _=>YP (fun _=>qb.one) k)) ?_;rintro v2 w ⟨hS,hv2⟩
    replace hS:=Sat.merge (l1:= [_,_]) (l2:= []) (l3:= [_]) hS (by omega)
    have yz:=fun k (k0:0<=k) (k1:k<nC+1)=>hS.slhIn 2 rfl k0 k1
    refine⟨⟨fun _=>hS.pk [0],hS.pk [0]⟩,?_⟩
    refine(zDw 13 xas)<|zdd<|zbn<|ztn<|zrg ?_
    refine(zV (Zh (r:=i+1)))<|(zP)<|zln<|zlq ⟨nC+1,gsn wv nC vq1,gsn lC nC (ml i),gsn gC nC (mf i),(snoc cC nC (Int.tdiv (s.X i) s.den)),i+1,v2,rfl,(by omega),(by omega),?_,?_,?_,?_,?_,rfl,hS.pk [0,1,2]⟩
    ·
     rw [Za2 s h0,<-hnC];first|rw [if_pos (by omega)]|rw [if_neg (by omega)]
    ·
     rw [Za3 s ml h0,<-hlC,<-hnC];first|rw [if_pos (by omega)]|rw [if_neg (by omega)]
    ·
     rw [Za4 s mf h0,<-hgC,<-hnC];first|rw [if_pos (by omega)]|rw [if_neg (by omega)]
    ·
     rw [Za5 s h0,<-hcC,<-hnC];first|rw [if_pos (by omega)]|rw [if_neg (by omega)]
    ·
     exact hv2
   refine zx4<|(zV (Zh (r:=i+1)))<|(zP)<|zln<|zlq ⟨nC,wv,lC,gC,cC,i+1,wC,rfl,(by omega),(by omega),?_,?_,?_,?_,?_,rfl,hS⟩
   ·
    rw [Za2 s h0,<-hnC];first|rw [if_pos (by omega)]|rw [if_neg (by omega)]
   ·
    rw [Za3 s ml h0,<-hlC,<-hnC];first|rw [if_pos (by omega)]|rw [if_neg (by omega)]
   ·
    rw [Za4 s mf h0,<-hgC,<-hnC];first|rw [if_pos (by omega)]|rw [if_neg (by omega)]
   ·
    rw [Za5 s h0,<-hcC,<-hnC];first|rw [if_pos (by omega)]|rw [if_neg (by omega)]
   ·
    exact hwC
  refine zx8<|(zP)<|(zP)<|(zP)<|zx1<|zf2 ⟨_,rfl,?_⟩
  have him:i=u:=by omega
  rw [him] at hnC hlC hgC hcC
  exact⟨_,_,_,_,_,_,0,rfl,.inr ⟨hsd,hun,hnC,hlC,hgC,hcC,rfl⟩,hwC,hS.pk [1,2]⟩
end Go.Proofs.YtkichmnjjblodaaGreat
namespace Go.Proofs.YtkichmnjjblodaaGreat
open Go Go.RowKit Go.Proofs.Gw
def FracR(s:So)(k:Int)(ok:Prop):Prop:=(¬Yj s/\k=0/\¬ok)\/(Yj s/\(∀j,0<=j->j<s.n->(s.X j).tmod s.den=0)/\k=0/\¬ok)\/(Yj s/\0<=k/\k<s.n/\(s.X k).tmod s.den≠0/\(∀j,0<=j->j<k->(s.X j).tmod s.den=0)/\ok)
theorem FracR.same{s:So}{k k2:Int}{ok ok2:Prop}(h:FracR s k ok)(h':FracR s k2 ok2):k=k2/\(ok↔ok2):=by
  rcases h with⟨h1,h2,h3⟩|⟨h1,h2,h3,h4⟩|⟨h1,h2,h3,h4,h5,h6⟩<;>rcases h' with⟨g1,g2,g3⟩|⟨g1,g2,g3,g4⟩|⟨g1,g2,g3,g4,g5,g6⟩<;>
    first
    |exact absurd ‹Yj s› ‹¬Yj s›
    |exact⟨by omega,fun h=>absurd h ‹¬ok›,fun h=>absurd h ‹¬ok2›⟩
    |exact absurd (g2 k (by omega) (by omega)) (by assumption)
    |exact absurd (h2 k2 (by omega) (by omega)) (by assumption)
    | (refine⟨?_,fun _=>g6,fun _=>h6⟩
       rcases Int.lt_trichotomy k k2 with h|h|h
       · exact absurd (g5 k (by omega) h) h4
       · exact h
       · exact absurd (h5 k2 (by omega) h) g4)
end Go.Proofs.YtkichmnjjblodaaGreat
namespace Go.Proofs.YtkichmnjjblodaaGreat
open Go Go.RowKit Go.Proofs.Gw
theorem ZF:Zy Tryz.prog 107=some 2:=by kernel_rfl
theorem Zf0{vV:Value}{n:Int}{pv:Int->Value}{ln:Int->Int}{pt:Int->Int->Int}{cnt:Int->Int}(w0:World)(hV:VAt w0 vV n pv ln pt cnt)(hn5:n<=100000):
    Calls Tryz.prog 38 [vV].toArray w0 fun e w=>∃v,e= .returned v/\∃r,v=r/\Slh r n/\Sat w0 w [.own r 2 103 n (Zg pv cnt)]:=by
  have hn:=hV.row.slh.n0;have hn1:=hV.row.slh.n1
  refine zenG Tryz.func38 Tryz.ntmps38 fun w hS=> ?_
  refine zsr<|(zP)<|zlz<|(zP)<|zx5<|(zP)<|(zV (xln ZO hV.row.slh))<|(zP)<|zx6 ?_
  replace hS:=hS.addnil 2 103 (Zg (fun _=>Value.slice none 0 0) (fun _=>0))
  refine zlp (fun mm M w=>∃(nC:Int) (wv:Int->Value) (cC:Int->Int) (i:Int) (wC:Value),mm=((n-i).toNat)/\(0<=i)/\(i<=n)/\(nC=i)/\(∀k,0<=k->k<i->wv k=pv k)/\(∀k,0<=k->k<i->cC k=cnt k)/\(Slh wC nC)/\M= [(2,.slice none 0 0),(3,wC),(6,vV),(7,.int .i64 n),(8,.int .i64 i)]/\Sat w0 w [.own wC 2 103 nC (Zg wv cC)]) ⟨0,(fun _=>Value.slice none 0 0),(fun _=>0),0,(.slice none 0 0),rfl,(by omega),(by omega),(by omega),?_,?_,?_,rfl,hS⟩ ?_
  ·
   intro k k0 k1;omega
  ·
   intro k k0 k1;omega
  ·
   exact slh_nil
  clear hS w
  rintro mm M w ⟨nC,wv,cC,i,wC,rfl,h0,h1,hnC,hwv,hcC,hwC,rfl,hS⟩
  refine zsr<|(zP)<|zx7<|Zf ?_ ?_<;>intro hc
  ·
   refine zx3<|(zV (xix (kk:=2*i) ZO hV.row.slh))<|(zV (xlw (cs:= [(pv i),.int .i64 (cnt i)]) ZF (hV.row.below hS.below) (ZB (k:=2*i) (i:=i) pv cnt (by omega))))<|zla (xal (cs:= [_,_]) Yo hS) ?_;rintro _ w ⟨g1,rfl,hS⟩
   refine zle (xsw 1 ZF hS (hd:=(Za (hV.p i (by omega) (by omega)).slh.one (Za rfl Zi)))) ?_;clear hS;rintro w hS
   refine zlt<|zrg<|(zP)<|(zV (xls 1 ZF hS))<|zla (xli (n:=1) (len:=1) (pv:= [(0,.agg #[(pv i),.int .i64 (cnt i)])]) (cs:= [(pv i),.int .i64 (cnt i)]) (c:=Zg (fun _=>(pv i)) (fun _=>(cnt i))) Xq Zfp hS (hf:=by have hz:=(hV.p i (by omega) (by omega)).slh;revert hz;generalize (pv i)=z;rintro⟨_,_,_,_,rfl,_⟩;show _=_;kernel_rfl)) ?_;rintro v1 w ⟨hS,hv1⟩
   refine zla (xap 0 (r:=nC+1) Xq Zfp hS (hS.rowN 2 rfl) (YR _ _ _ _ _) (h1:=fun k _ _=>YP (fun _=>(hV.p i (by omega) (by omega)).slh.one) k)) ?_;rintro v2 w ⟨hS,hv2⟩
   refine(zP)<|zx10<|(zV (Zh (r:=i+1)))<|(zP)<|zln<|zlq ⟨nC+1,(gsn wv nC (pv i)),(snoc cC nC (cnt i)),i+1,v2,rfl,(by omega),(by omega),(by omega),?_,?_,?_,rfl,hS.pk [0]⟩
   ·
    intro k k0 k1;by_cases e:k<nC
    · rw [ZA e];exact hwv k k0 (by omega)
    · rw [ZJ e,show k=i by omega]
   ·
    intro k k0 k1;by_cases e:k<nC
    · rw [Zu e];exact hcC k k0 (by omega)
    · rw [Zv e,show k=i by omega]
   ·
    exact hv2
  refine zx8<|(zP)<|(zP)<|zx1<|zf1 ⟨_,rfl,?_⟩
  obtain rfl:i=n:=by omega
  subst hnC
  replace hS:=hS.recont 0 rfl (d:=Zg pv cnt) (fun k k0 k1=>by unfold Zg;rw [hwv _ (by omega) (by omega),hcC _ (by omega) (by omega)])
  exact⟨_,rfl,hwC,hS⟩
end Go.Proofs.YtkichmnjjblodaaGreat
namespace Go.Proofs.Gw
open Go Go.RowKit
def Frame.dq (E:TypeId) (v:Value) (n:Int) (f:Int->Int):Frame where
  holds w:=0<=n/\n<=140737488355328/\((v= .slice none 0 0/\n=0)\/∃g off cap cur,v= .slice (some ⟨g,off,none⟩) n.toNat cap/\w.heap[g]? =some (.cells cur E (0,0))/\n.toNat<=cap/\cap<=maxLen/\off+cap<=cur.size/\
    ∀k:Nat,(k:Int)<n->cur[off+k]? =some (.int .i64 (f k)))
  has g:=∃a l c,v= .slice (some a) l c/\a.block=g
  keep h hk:=by
    obtain⟨h0,h1,h|⟨g,off,cap,cur,rfl,hg,h⟩⟩:=h
    · exact⟨h0,h1,.inl h⟩
    · exact⟨h0,h1,.inr ⟨g,off,cap,cur,rfl,by rw [hk g ⟨_,_,_,rfl,rfl⟩];exact hg,h⟩⟩
  lt h hg:=by
    obtain⟨_,_,h|⟨g,off,cap,cur,rfl,h2,_⟩⟩:=h
    · obtain⟨rfl,_⟩:=h;obtain⟨_,_,_,e,_⟩:=hg;cases e
    · obtain⟨_,_,_,e,rfl⟩:=hg;cases e;exact(Array.getElem?_eq_some_iff.1 h2).1
section
variable {P:Program} {L:List (Nat×Value)} {w w0:World} {o:Oper} {x y z:Operand} {T T':TypeId} {l:List Ent} {E:TypeId} {v:Value} {n:Int} {f:Int->Int}
theorem Frame.dq.row(h:(Frame.dq E v n f).holds w):Row w v 1 n (ints f):=by
  obtain⟨h0,h1,⟨rfl,rfl⟩|⟨g,off,cap,cur,rfl,hg,_,_,_,hc⟩⟩:=h
  · exact UV _ _ _
  · refine⟨⟨h0,h1,_,_,rfl,.inr ⟨g,off,rfl⟩⟩,fun k hk=> ?_⟩
    have hk2:(k:Int)<n:=by omega
    have:=hc k hk2
    show w.cell? ⟨g,off+(k:Int).toNat,none⟩=_
    rw [cell_of_row w g _ cur E (0,0) hg]
    rw [show(k:Int).toNat=k by omega,this];rfl
theorem Frame.dq.roomy(h:(Frame.dq E v n f).holds w):XO v:=fun a len cap e=>by
  obtain⟨_,_,⟨rfl,_⟩|⟨g,off,cap',cur,rfl,_,h2,_⟩⟩:=h
  · cases e;omega
  · cases e;exact h2
theorem Sat.dqOf(h:Sat w0 w l)(i:Nat)(hi:l[i]? =some (.sem (Frame.dq E v n f))):(Frame.dq E v n f).holds w:=h.holds _ (List.mem_of_getElem? hi)
theorem Sat.dqnil(h:Sat w0 w l)(E:TypeId)(f:Int->Int):Sat w0 w (l++ [.sem (Frame.dq E (.slice none 0 0) 0 f)]):=by
  refine h.comp (m:= [.sem (Frame.dq E (.slice none 0 0) 0 f)]) ⟨Below.refl _ _,?_,?_,List.pairwise_singleton _ _⟩
  · intro e he
    obtain rfl:=List.mem_singleton.1 he
    exact⟨by omega,by omega,.inl ⟨rfl,rfl⟩⟩
  · intro e he g hg
    obtain rfl:=List.mem_singleton.1 he
    obtain⟨_,_,_,e,_⟩:=hg;cases e
theorem Sat.resem{F G:Frame}(h:Sat w0 w l)(i:Nat)(hi:l[i]? =some (.sem F))(hG:F.holds w->G.holds w)(hh:∀g,G.has g->F.has g):Sat w0 w (l.set i (.sem G)):=by
  have h':=h
  rw [ZY hi] at h'
  rw [Yz hi]
  exact h'.turn (d:= .sem F) (fun k _ _=>rfl) rfl rfl rfl (Nat.le_refl _) (hG (h.holds _ (List.mem_of_getElem? hi))) (fun g hg=> .inl (hh g hg))
theorem Sat.dqpre (h :Sat w0 w l) (i:Nat) (q:Nat) (hq:(q:Int)<=n) (hi:l[i]? =some (.sem (Frame.dq E v n f)):=by exact rfl):Sat w0 w (l.set i (.sem (Frame.dq E (TW v q) q f))):=
  h.resem i hi (fun ⟨h0,h1,hd⟩=>⟨by omega,by omega,by
    rcases hd with⟨rfl,rfl⟩|⟨g,off,cap,cur,rfl,hg,h2,h3,h4,h5⟩
    · exact .inl ⟨by obtain rfl:q=0:=by omega
                     rfl,by omega⟩
    · exact .inr ⟨g,off,cap,cur,by simp [TW],hg,by omega,h3,h4,fun k hk=>h5 k (by omega)⟩⟩) (fun g ⟨a',lh,c,e,eb⟩=>by
    cases v with
    |slice a len cap=>cases e;exact⟨_,_,_,rfl,eb⟩
    |_=>cases e)
theorem RN{e:Int}(h:Slh v n)(h0:0<=e)(h1:e<=n):Slh (TW v e.toNat) e:=by
  have:=Zcx (q:=e.toNat) h (by omega)
  rwa [Int.toNat_of_nonneg h0] at this
theorem RM{m:Int}(h:Slh v n)(hr:XO v)(h1:1<=n)(e:n-1=m):Slh (Xd v 1) m:=by
  subst e;exact(YK (q:=1) h hr (by omega)).slh
theorem Sat.dqn(h:Sat w0 w l)(i:Nat){m:Int}(e:n=m)(hi:l[i]? =some (.sem (Frame.dq E v n f)):=by exact rfl):Sat w0 w (l.set i (.sem (Frame.dq E v m f))):=by subst e;exact h.resem i hi id fun _ hg=>hg
theorem Sat.dqsuf (h:Sat w0 w l) (i:Nat) (q:Nat) (hq:(q:Int)<n) (hi:l[i]? =some (.sem (Frame.dq E v n f)):=by exact rfl):Sat w0 w (l.set i (.sem (Frame.dq E (Xd v q) (n-q) (fun k=>f (k+q))))):=
  h.resem i hi (fun⟨h0,h1,hd⟩=>⟨by omega,by omega,by
    rcases hd with⟨rfl,rfl⟩|⟨g,off,cap,cur,rfl,hg,h2,h3,h4,h5⟩
    · omega
    · refine .inr ⟨g,off+q,cap-q,cur,?_,hg,by omega,by omega,by omega,fun k hk=> ?_⟩
      · unfold Xd;dsimp only;rw [if_neg (by omega)];simp;try omega
      · rw [show off+q+k=off+(k+q) by omega,h5 (k+q) (by omega)];congr 3⟩) (fun g ⟨a',lh,c,e,eb⟩=>by
    cases v with
    | slice a len cap=>cases a with
      |none=>simp [Xd] at e
      | some a=>
        unfold Xd at e;dsimp only at e
        split at e
        · cases e;exact⟨_,_,_,rfl,eb⟩
        · cases e;exact⟨_,_,_,rfl,eb⟩
    |_=>cases e)
theorem Zjj {u:Value} {b:Nat} {a:Int} {zv:Value} (i:Nat) (ht:ZI P T=some (E,1)) (he:ZW P E=some (zv,1,b)) (hS:Sat w0 w l) (hu:Row w u 1 1 (ints fun _=>a)) (ho:o.op= .call {callee:= .builtin .append,args:= #[x,y],argTypes:= #[T,T]}:=by exact rfl) (hz:zv.cells.size=1:=by exact rfl)
    (hi:l[i]? =some (.sem (Frame.dq E v n f)):=by exact rfl) (hx:evL L x=some v:=by exact rfl) (hy:evL L y=some u:=by exact rfl) (hb:b*(n+1)<=140737488355328:=by omega) (hnm:n+1<=140737488355328:=by omega):
    ∃q w',Runs P L w o (.value q) w'/\Sat w0 w' (l.set i (.sem (Frame.dq E q (n+1) (snoc f n a))))/\Slh q (n+1):=by
  obtain⟨hut,_⟩:=Z1 ht
  obtain⟨inf,cR,hzz,hsz,hby⟩:=X1 he
  have hd:=hS.dqOf i hi
  have qt:=Frame.dq.row hd
  obtain⟨h0,h1,hd⟩:=hd
  obtain⟨_,_,ua,ucap,rfl,hua⟩:=hu.slh
  obtain⟨ub,uoff,rfl⟩:∃ub uoff,ua=some ⟨ub,uoff,none⟩:=by rcases hua with h|h;omega;exact h
  have xZ:∀j t, [Value.int .i64 a][j]? =some t->w.cell? ((⟨ub,uoff,none⟩:Addr).add j)=some t:=fun j t hj=>by
    rcases j with _|j
    · cases hj
      have:=hu.2 0 (by omega)
      rw [Addr.add_eq _ rfl];simpa [cad,ints] using this
    · simp at hj
  have eb:(n.toNat+1)*b<=140737488355328:=by
    have:(((n.toNat+1)*b:Nat):Int)=b*(n+1):=by rw [Int.natCast_mul,Int.natCast_add,Int.toNat_of_nonneg h0,Int.mul_comm];rfl
    omega
  have h':=hS
  rw [ZY hi] at h'
  have key:∃q w',(∀ty:TypeId,(Builtin.append_ #[T,T] ty #[v,.slice (some ⟨ub,uoff,none⟩) 1 ucap]).run P w= .ok q w')/\(Frame.dq E q (n+1) (snoc f n a)).holds w'/\(∀k,k<w.heap.size->¬(Frame.dq E v n f).has k->w'.heap[k]? =w.heap[k]?)/\w'.tape=w.tape/\w'.os=w.os/\w'.output=w.output/\w.heap.size<=w'.heap.size/\
      (∀g,(Frame.dq E q (n+1) (snoc f n a)).has g->(Frame.dq E v n f).has g\/w.heap.size<=g):=by
    have fv:n.toNat+1<=maxLen:=by unfold maxLen;omega
    have grown:∀(old:Nat),old<n.toNat+1->∀(zs:List Value),zs.length=n.toNat->(∀k:Nat,(k:Int)<n->zs[k]? =some (.int .i64 (f k)))->
        (Frame.dq E (.slice (some ⟨w.heap.size,0,none⟩) (n.toNat+1) (grownCap w (n.toNat+1) old E)) (n+1) (snoc f n a)).holds (w.drew.alloc (.cells (zs.toArray++ [Value.int .i64 a].toArray++Builtin.zeroCells zv.cells (grownCap w (n.toNat+1) old E-(n.toNat+1))) E)):=fun old ho zs hzl hzs=>by
      have hge:=grownCap_ge w (n.toNat+1) old E
      have hcm:grownCap w (n.toNat+1) old E<=maxLen:=grownCap_le_maxLen w (n.toNat+1) old E fv
      refine⟨by omega,hnm,.inr ⟨w.heap.size,0,_,_,by rw [show(n+1).toNat=n.toNat+1 by omega],heap_alloc_new w.drew _,by omega,hcm,?_,fun k hk=> ?_⟩⟩
      · simp only [Array.size_append,List.size_toArray,size_zeroCells,hz,hzl,List.length_cons,List.length_nil];omega
      · have e1:(zs.toArray++ [Value.int .i64 a].toArray++Builtin.zeroCells zv.cells (grownCap w (n.toNat+1) old E-(n.toNat+1)))[0+k]? =(zs++ [Value.int .i64 a])[k]? :=by
          rw [Nat.zero_add,Array.getElem?_append_left (by simp;omega)];simp
        rw [e1,List.getElem?_append]
        by_cases hk2:(k:Int)<n
        · rw [if_pos (by omega),hzs k hk2,Zu hk2]
        · rw [if_neg (by omega),show k-zs.length=0 by omega,Zv hk2];rfl
    rcases hd with⟨rfl,rfl⟩|⟨g,off,cap,cur,rfl,hg,h2,h3,h4,h5⟩
    · refine⟨_,_,fun ty=>run_append_nil (P:=P) w T ty E inf zv hut cR hzz ⟨ub,uoff,none⟩ 1 ucap [Value.int .i64 a] (by rw [hsz];rfl) xZ (by omega) (by omega) (by rw [hby];omega),?_,fun k hk _=>heap_alloc_old w.drew _ hk,rfl,rfl,rfl,by simp,fun g ⟨_,_,_,e,eb⟩=>by cases e;exact .inr (Nat.le_of_eq eb)⟩
      have:=grown 0 (by omega) [] rfl (fun k hk=>by omega)
      simpa using this
    · by_cases hroom:n.toNat+1<=cap
      · have eK:∀k,k<cur.size->w.cell? ⟨g,k,none⟩=cur[k]? :=fun k _=>cell_of_row w g k cur E (0,0) hg
        refine⟨_,_,fun ty=>run_append_room_cells (P:=P) w T ty E inf hut cR g off n.toNat cap ⟨ub,uoff,none⟩ 1 ucap [Value.int .i64 a] (by rw [hsz];rfl) xZ (fun u hu=>by simp at hu;subst hu;rfl) hroom (fun j hj=>by
            simp at hj;subst hj
            rw [hsz,Nat.mul_one,eK _ (by omega)];simp;omega) (fun j hj=>by
            simp at hj;subst hj
            simp [World.frozen?,hg]),?_,fun k hk hne=> ?_,rfl,rfl,rfl,?_,fun g' ⟨_,_,_,e,eb⟩=> .inl (by cases e;exact⟨_,_,_,rfl,eb⟩)⟩
        · refine⟨by omega,hnm,.inr ⟨g,off,cap,cur.setIfInBounds (off+n.toNat) (.int .i64 a),by rw [show(n+1).toNat=n.toNat+1 by omega],?_,by omega,h3,by simp;omega,fun k hk=> ?_⟩⟩
          · simp [World.setCells,World.setCell,Array.getElem?_modify,hg,hsz]
          · rw [Array.getElem?_setIfInBounds]
            by_cases hk2:(k:Int)<n
            · rw [if_neg (by omega),h5 k hk2,Zu hk2]
            · rw [if_pos (by omega),if_pos (by omega),Zv hk2]
        · exact Below.heap_setCell _ _ _ _ fun e=>hne (by rw [e];exact⟨_,_,_,rfl,rfl⟩)
        · simp [World.setCells,World.setCell]
      · have hol:∀k:Nat,(k:Int)<n->(Zn f n|>.map (Value.int .i64))[k]? =some (.int .i64 (f k)):=fun k hk=>by
          have hk3:k<n.toNat:=by omega
          simp [Zn,hk3]
        have hll:(Zn f n|>.map (Value.int .i64)).length=n.toNat:=by simp [Zn]
        refine⟨_,_,fun ty=>run_append_grow (P:=P) w T ty E inf zv hut cR hzz ⟨g,off,none⟩ n.toNat cap (Zn f n|>.map (Value.int .i64)) (by rw [hsz,hll];omega) (fun j t hj=> ?_) ⟨ub,uoff,none⟩ 1 ucap [Value.int .i64 a] (by rw [hsz];rfl) xZ (by omega) (by omega) (growslice_fits (by omega) (by rw [hby];exact eb)),?_,fun k hk _=>heap_alloc_old w.drew _ hk,rfl,rfl,rfl,by simp,fun g ⟨_,_,_,e,eb⟩=>by cases e;exact .inr (Nat.le_of_eq eb)⟩
        · have hj2:j<n.toNat:=by
            have:=(List.getElem?_eq_some_iff.1 hj).1;omega
          rw [hol j (by omega)] at hj;cases hj
          rw [Addr.add_eq _ rfl,cell_of_row w g _ cur E (0,0) hg];exact h5 j (by omega)
        · exact grown cap (by omega) _ hll hol
  obtain⟨q,w',hr,hq,hb1,ht1,ho1,hp1,hs1,hh⟩:=key
  refine⟨q,w',fun ρ h=> ?_,?_,(Frame.dq.row hq).slh⟩
  · simp [execOp,ho,resolve,invoke,builtin,h _ _ hx,h _ _ hy,hr]
  · rw [Yz hi]
    exact h'.turn hb1 ht1 ho1 hp1 hs1 hq hh
end
end Go.Proofs.Gw
namespace Go.Proofs.Gw
open Go Go.RowKit
variable {M cap i k m r y:Int} {A T x:Int->Int}
structure DQ (A:Int->Int) (M k q:Int) (g:Int->Int):Prop where
  q0:0<=q
  rng:∀i,0<=i->i<q->max 0 (k-1-M)<=g i/\g i<=k-1
  mon:∀i,0<=i->i+1<q->g i<g (i+1)/\A (g (i+1))<A (g i)
  dom:∀j,max 0 (k-1-M)<=j->j<=k-1->∃i,0<=i/\i<q/\j<=g i/\A j<=A (g i)
structure DQp (A:Int->Int) (M k q:Int) (g:Int->Int):Prop where
  q0:0<=q
  rng:∀i,0<=i->i<q->max 0 (k-1-M)<=g i/\g i<=k-1
  mon:∀i,0<=i->i+1<q->g i<g (i+1)/\A (g (i+1))<A (g i)
  dom:∀j,max 0 (k-1-M)<=j->j<=k-1->(∃i,0<=i/\i<q/\j<=g i/\A j<=A (g i))\/A j<=A k
theorem DQ.start(A:Int->Int)(M:Int)(g:Int->Int):DQ A M 0 0 g:=⟨by omega,fun i _ _=>by omega,fun i _ _=>by omega,fun j _ _=>by omega⟩
theorem DQ.p{q:Int}{g:Int->Int}(h:DQ A M k q g):DQp A M k q g:=⟨h.q0,h.rng,h.mon,fun j a b=> .inl (h.dom j a b)⟩
theorem DQp.pop{q:Int}{g:Int->Int}(h:DQp A M k q g)(hq:0<q)(ha:A (g (q-1))<=A k):DQp A M k (q-1) g:=
  ⟨by omega,fun i i0 i1=>h.rng i i0 (by omega),fun i i0 i1=>h.mon i i0 (by omega),fun j j0 j1=>by
    rcases h.dom j j0 j1 with⟨i,i0,i1,h1,h2⟩|h1
    · by_cases e:i=q-1
      · subst e;exact .inr (by omega)
      · exact .inl ⟨i,i0,by omega,h1,h2⟩
    · exact .inr h1⟩
structure DQa (A:Int->Int) (M k q:Int) (g:Int->Int):Prop where
  q0:1<=q
  rng:∀i,0<=i->i<q->max 0 (k-1-M)<=g i/\g i<=k
  mon:∀i,0<=i->i+1<q->g i<g (i+1)/\A (g (i+1))<A (g i)
  dom:∀j,max 0 (k-1-M)<=j->j<=k->∃i,0<=i/\i<q/\j<=g i/\A j<=A (g i)
  last:g (q-1)=k
theorem DQp.push{q:Int}{g:Int->Int}(h:DQp A M k q g)(k0:0<=k)(hM:0<=M)(hq:q<=0\/A k<A (g (q-1))):DQa A M k (q+1) (snoc g q k):=by
  have hq0:=h.q0
  refine⟨by omega,fun i i0 i1=> ?_,fun i i0 i1=> ?_,fun j j0 j1=> ?_,?_⟩
  · by_cases e:i<q
    · rw [Zu e];have:=h.rng i i0 e;omega
    · rw [Zv e];omega
  · rw [Zu (show i<q by omega)]
    by_cases e:i+1<q
    · rw [Zu e];exact h.mon i i0 e
    · rw [Zv e]
      obtain rfl:i=q-1:=by omega
      have:=h.rng (q-1) i0 (by omega)
      omega
  · by_cases e:j=k
    · subst e;exact⟨q,by omega,by omega,by rw [Zv (by omega)];omega,by rw [Zv (by omega)];omega⟩
    · rcases h.dom j j0 (by omega) with⟨i,i0,i1,h1,h2⟩|h1
      · exact⟨i,i0,by omega,by rw [Zu i1];exact h1,by rw [Zu i1];exact h2⟩
      · exact⟨q,by omega,by omega,by rw [Zv (by omega)];omega,by rw [Zv (by omega)];exact h1⟩
  · rw [Zv (by omega)]
theorem DQa.up{A:Int->Int}{M k q:Int}{g:Int->Int}(h:DQa A M k q g):∀i:Nat,(i:Int)<q->g 0+i<=g i/\A (g i)<=A (g 0)
  |0,_=>⟨by simp,Int.le_refl _⟩
  | i+1,hi=>by
    have h1:=h.up i (by omega)
    have h2:=h.mon i (by omega) (by omega)
    rw [show((i+1:Nat):Int)=(i:Int)+1 by omega]
    omega
theorem DQa.keep{q:Int}{g:Int->Int}(h:DQa A M k q g)(k0:0<=k)(hg:¬g 0<k-M):DQ A M (k+1) q g:=by
  have hq:=h.q0
  refine⟨by omega,fun i i0 i1=> ?_,h.mon,fun j j0 j1=>h.dom j (by omega) (by omega)⟩
  have h1:=h.up i.toNat (by omega)
  rw [Int.toNat_of_nonneg i0] at h1
  have:=h.rng i i0 i1;have:=h.rng 0 (by omega) (by omega)
  omega
theorem DQa.more{q:Int}{g:Int->Int}(h:DQa A M k q g)(hM:0<=M)(hg:g 0<k-M):1<q:=by
  have:=h.q0;have hl:=h.last
  by_cases e:q=1
  · subst e;rw [show(1:Int)-1=0 by omega] at hl;omega
  · omega
theorem DQa.drop{q p:Int}{g:Int->Int}(h:DQa A M k q g)(k0:0<=k)(hM:0<=M)(hg:g 0<k-M)(e:q-1=p:=by omega):DQ A M (k+1) p (fun i=>g (i+1)):=by
  subst e
  have hq:=h.q0
  refine⟨by omega,fun i i0 i1=> ?_,fun i i0 i1=>h.mon (i+1) (by omega) (by omega),fun j j0 j1=> ?_⟩
  · have h1:=h.up (i+1).toNat (by omega)
    rw [Int.toNat_of_nonneg (by omega)] at h1
    have h2:=h.rng (i+1) (by omega) (by omega);have h3:=h.rng 0 (by omega) (by omega)
    omega
  · obtain⟨i,i0,i1,h1,h2⟩:=h.dom j (by omega) (by omega)
    by_cases e:i=0
    · subst e;omega
    · exact⟨i-1,by omega,by omega,by rw [show i-1+1=i by omega];exact h1,by rw [show i-1+1=i by omega];exact h2⟩
theorem DQ.best{q:Int}{g:Int->Int}(h:DQ A M (k+1) q g)(k0:0<=k)(hM:0<=M):0<q/\max 0 (k-M)<=g 0/\g 0<=k/\∀j,max 0 (k-M)<=j->j<=k->A j<=A (g 0):=by
  obtain⟨i,i0,i1,_,_⟩:=h.dom k (by omega) (by omega)
  have hr:=h.rng 0 (by omega) (by omega)
  have up:∀i:Nat,(i:Int)<q->A (g i)<=A (g 0):=fun i=>by
    induction i with
    |zero=>intro _;exact Int.le_refl _
    | succ i ih=>
      intro hi
      have h1:=ih (by omega)
      have h2:=h.mon i (by omega) (by omega)
      rw [show((i+1:Nat):Int)=(i:Int)+1 by omega]
      omega
  refine⟨by omega,by omega,by omega,fun j j0 j1=> ?_⟩
  obtain⟨i,i0,i1,h1,h2⟩:=h.dom j (by omega) (by omega)
  have:=up i.toNat (by omega)
  rw [Int.toNat_of_nonneg i0] at this
  omega
theorem DQ.len{q:Int}{g:Int->Int}(h:DQ A M k q g)(k0:0<=k):q<=k:=by
  have up:∀i:Nat,(i:Int)<q->g 0+i<=g i:=fun i=>by
    induction i with
    |zero=>intro _;simp
    | succ i ih=>
      intro hi
      have h1:=ih (by omega)
      have h2:=h.mon i (by omega) (by omega)
      rw [show((i+1:Nat):Int)=(i:Int)+1 by omega]
      omega
  rcases Int.lt_or_le 0 q with hq|hq
  · have h1:=up (q-1).toNat (by omega)
    rw [Int.toNat_of_nonneg (by omega)] at h1
    have h2:=h.rng 0 (by omega) hq;have h3:=h.rng (q-1) (by omega) (by omega)
    omega
  · omega
theorem U4 {s b:Int} (hs:1<=s) (hM:0<=M) (r0:0<=r) (r1:r<s) (k0:0<=k) (b0:max 0 (k-M)<=b) (b1:b<=k) (hb:∀j,max 0 (k-M)<=j->j<=k->T (r+j*s)-j*y<=T (r+b*s)-b*y):
    R T s y M.toNat (r+k*s)=T (r+b*s)-b*y+k*y:=by
  have hks:0<=k*s:=Int.mul_nonneg k0 (by omega)
  apply Int.le_antisymm
  · obtain⟨n,h1,h2,h3⟩:=Zcm T s y M.toNat (r+k*s) (by omega)
    have hnk:(n:Int)<=k:=by
      rcases Int.lt_or_le k n with h|h
      · have:=Int.mul_le_mul_of_nonneg_right (show k+1<=(n:Int) by omega) (show 0<=s by omega)
        rw [Int.add_mul] at this;omega
      · exact h
    have h4:=hb (k-n) (by omega) (by omega)
    have e1:r+(k-n)*s=r+k*s-n*s:=by rw [Int.sub_mul];omega
    rw [e1,Int.sub_mul] at h4
    rw [h3];omega
  · have h1:=Zcl T s y M.toNat (k-b).toNat (r+k*s) (by omega) (by
      have:=Int.mul_le_mul_of_nonneg_right (show(((k-b).toNat:Nat):Int)<=k by omega) (show 0<=s by omega);omega)
    rw [Int.toNat_of_nonneg (by omega),Int.sub_mul,Int.sub_mul] at h1
    have e1:r+k*s-(k*s-b*s)=r+b*s:=by omega
    rw [e1] at h1;omega
def LY(T:Int->Int)(s y m n r k:Int)(g:Int->Int):Prop:=∀c,0<=c->c<n->(c%s<r\/(c%s=r/\c<r+k*s))->g c=R T s y m.toNat c
theorem ZeT{s:Int}(k0:0<=k)(hs:1<=s):k<=k*s:=by
  have:=Int.mul_le_mul_of_nonneg_left hs k0;omega
theorem RB{j s n:Int}(hs:1<=s)(r0:0<=r)(j0:0<=j)(jk:j<=k)(h:r+k*s<n):0<=j*s/\j*s<=k*s/\r+j*s<n:=by
  have h1:=Int.mul_nonneg j0 (show 0<=s by omega)
  have h2:=Int.mul_le_mul_of_nonneg_right jk (show 0<=s by omega)
  omega
theorem X6{j:Int}(j0:0<=j)(j1:j<=4001)(y0:0<=y)(y1:y<=1073741824):0<=j*y/\j*y<=4296041037824:=by
  have h1:=Int.mul_nonneg j0 y0
  have h2:=Int.mul_le_mul j1 y1 y0 (by omega)
  omega
theorem LY.start (T:Int->Int) {s n:Int} {g:Int->Int} (h:∀c,0<=c->c<n->c%s<r->g c=R T s y m.toNat c):LY T s y m n r 0 g:=fun c c0 c1 hc=>by
  rcases hc with hc|⟨_,hc⟩
  · exact h c c0 c1 hc
  · by_cases hs:c%s<r
    · exact h c c0 c1 hs
    · exfalso
      rename_i hr
      have:c%s<=c:=by
        by_cases hs0:0<s
        · rcases Int.lt_or_le c s with h1|h1
          · rw [Int.emod_eq_of_lt c0 h1];omega
          · have:=Int.emod_lt_of_pos c hs0;omega
        · by_cases e:s=0
          · subst e;simp
          · have h1:=Int.emod_lt_of_pos c (show 0< -s by omega)
            rw [Int.emod_neg] at h1
            have h2:=Int.emod_emod_of_dvd c (show(-s)∣s from⟨-1,by omega⟩)
            rcases Int.lt_or_le c (-s) with h3|h3
            · have:=Int.emod_eq_of_lt c0 h3;rw [Int.emod_neg] at this;omega
            · omega
      omega
theorem LY.step {s n v:Int} {g:Int->Int} (h:LY T s y m n r k g) (hs:1<=s) (r0:0<=r) (r1:r<s) (k0:0<=k) (hv:R T s y m.toNat (r+k*s)=v):LY T s y m n r (k+1) (upd g (r+k*s) v):=fun c c0 c1 hc=>by
  by_cases e:c=r+k*s
  · subst e;rw [Zw,hv]
  · rw [upd_ne _ _ e]
    refine h c c0 c1 ?_
    rcases hc with hc|⟨hc,hc2⟩
    · exact .inl hc
    · refine .inr ⟨hc,?_⟩
      have h1:=Int.mul_ediv_add_emod c s
      rw [hc] at h1
      rcases Int.lt_trichotomy (c/s) k with h2|h2|h2
      · have:=Int.mul_le_mul_of_nonneg_left (show c/s+1<=k by omega) (show 0<=s by omega)
        rw [Int.mul_add,Int.mul_comm s k] at this;omega
      · rw [h2,Int.mul_comm] at h1;omega
      · have:=Int.mul_le_mul_of_nonneg_left (show k+1<=c/s by omega) (show 0<=s by omega)
        rw [Int.mul_add,Int.mul_comm s k] at this
        rw [Int.add_mul] at hc2;omega
theorem LY.fin{s n:Int}{g:Int->Int}(h:LY T s y m n r k g)(hk:¬r+k*s<n):∀c,0<=c->c<n->c%s<r+1->g c=R T s y m.toNat c:=fun c c0 c1 hc=>h c c0 c1 (by omega)
structure Its where
  n:Int
  S:Int->Int
  V:Int->Int
  M:Int->Int
def Xa(s v m:Int):Prop:=1<=s/\s<=4000/\0<=v/\v<=1073741824/\0<=m/\m<=1000
def Its.each(t:Its)(i:Int):Prop:=Xa (t.S i) (t.V i) (t.M i)
structure Its.Ok (t:Its) (cap:Int):Prop where
  n:t.n<=20
  c0:0<=cap
  c1:cap<=4000
  all:∀i,0<=i->i<t.n->t.each i
def KT(t:Its):Nat->Int->Int
  |0=>fun _=>0
  |k+1=>R (KT t k) (t.S (t.n-1-k)) (t.V (t.n-1-k)) (t.M (t.n-1-k)).toNat
def KI(t:Its)(i:Int):Int->Int:=KT t (t.n-i).toNat
theorem ZgV(t:Its):KI t t.n=fun _=>0:=by unfold KI;rw [show(t.n-t.n).toNat=0 by omega];rfl
theorem Zdm(t:Its)(i0:0<=i)(i1:i<t.n):KI t i=R (KI t (i+1)) (t.S i) (t.V i) (t.M i).toNat:=by
  unfold KI
  rw [show(t.n-i).toNat=(t.n-(i+1)).toNat+1 by omega]
  show R _ _ _ _=_
  rw [show t.n-1-(((t.n-(i+1)).toNat:Nat):Int)=i by omega]
theorem Zby{t:Its}{cap:Int}(h:t.Ok cap):∀k:Nat,(k:Int)<=t.n->∀c,0<=c->0<=KT t k c/\KT t k c<=c*1073741824
  |0,_,c,hc=>⟨Int.le_refl _,by show 0<=_;omega⟩
  | k+1,hk,c,hc=>by
    have he:=h.all (t.n-1-k) (by omega) (by omega)
    unfold Its.each Xa at he
    exact Zae he.1 he.2.2.1 he.2.2.2.1 (fun c c0=>Zby h k (by omega) c c0) _ c hc
theorem Wi{t:Its}(h:t.Ok cap)(i0:0<=i)(i1:i<=t.n){c:Int}(c0:0<=c):0<=KI t i c/\KI t i c<=c*1073741824:=Zby h _ (by omega) c c0
def KU(t:Its)(x:Int->Int)(i:Nat):Int:=Zd (fun k=>x k*t.S k) i
def KW(t:Its)(x:Int->Int)(i:Nat):Int:=Zd (fun k=>x k*t.V k) i
def KX(t:Its)(cap:Int)(x:Int->Int)(n:Int):Prop:=∀i,0<=i->i<n->0<=x i/\x i<=t.M i/\x i*t.S i<=cap-KU t x i.toNat/\KI t (i+1) (cap-KU t x i.toNat-x i*t.S i)+x i*t.V i=KI t i (cap-KU t x i.toNat)/\
  ∀j,x i<j->j<=t.M i->j*t.S i<=cap-KU t x i.toNat->KI t (i+1) (cap-KU t x i.toNat-j*t.S i)+j*t.V i≠KI t i (cap-KU t x i.toNat)
theorem Zdl(t:Its)(x:Int->Int)(h:0<=i):KU t x (i+1).toNat=KU t x i.toNat+x i*t.S i:=ZH _ h
theorem ZiJ(t:Its)(x:Int->Int)(h:0<=i):KW t x (i+1).toNat=KW t x i.toNat+x i*t.V i:=ZH _ h
theorem TU(t:Its){z:Int->Int}{n:Nat}(h:∀i,0<=i->i<(n:Int)->x i=z i):KU t x n=KU t z n:=Zj fun i i0 i1=>by rw [h i i0 i1]
theorem KX.snoc{t:Its}{cap:Int}{x:Int->Int}{i n:Int}(h:KX t cap x i)(i0:0<=i)(n0:0<=n)(n1:n<=t.M i)(n2:n*t.S i<=cap-KU t x i.toNat)(he:KI t (i+1) (cap-KU t x i.toNat-n*t.S i)+n*t.V i=KI t i (cap-KU t x i.toNat))
    (ha:∀j,n<j->j<=t.M i->j*t.S i<=cap-KU t x i.toNat->KI t (i+1) (cap-KU t x i.toNat-j*t.S i)+j*t.V i≠KI t i (cap-KU t x i.toNat)):KX t cap (snoc x i n) (i+1):=fun k k0 k1=>by
  have hu:KU t (Gw.snoc x i n) k.toNat=KU t x k.toNat:=TU t fun q q0 q1=>Zu (by omega)
  rw [hu]
  by_cases e:k<i
  · rw [Zu e];exact h k k0 e
  · obtain rfl:k=i:=by omega
    rw [Zv (by omega)];exact⟨n0,n1,n2,he,ha⟩
theorem ZiK(t:Its)(x:Int->Int)(n:Int)(i0:0<=i):KU t (snoc x i n) (i+1).toNat=KU t x i.toNat+n*t.S i:=by
  rw [Zdl t _ i0,Zv (by omega)]
  congr 1
  exact TU t fun q q0 q1=>Zu (by omega)
theorem ZnD{t:Its}(h:t.Ok cap){c:Int}(i0:0<=i)(i1:i<t.n)(c0:0<=c):∃j,0<=j/\j<=t.M i/\j*t.S i<=c/\KI t (i+1) (c-j*t.S i)+j*t.V i=KI t i c:=by
  have he:=h.all i i0 i1
  unfold Its.each Xa at he
  obtain⟨j,h1,h2,h3⟩:=Zcm (KI t (i+1)) (t.S i) (t.V i) (t.M i).toNat c c0
  exact⟨j,by omega,by omega,h2,by rw [Zdm t i0 i1,h3]⟩
theorem KX.same{t:Its}{cap:Int}{x z:Int->Int}:∀{n:Nat},KX t cap x n->KX t cap z n->∀i,0<=i->i<(n:Int)->x i=z i
  |0,_,_,i,_,_=>by omega
  | n +1,hx,hz,i,i0,i1=>by
    have ih:=KX.same (n:=n) (fun i a b=>hx i a (by omega)) (fun i a b=>hz i a (by omega))
    by_cases e:i=n
    · have hu:KU t x i.toNat=KU t z i.toNat:=TU t fun k k0 k1=>ih k k0 (by omega)
      obtain⟨a1,a2,a3,a4,a5⟩:=hx i i0 i1
      obtain⟨b1,b2,b3,b4,b5⟩:=hz i i0 i1
      rw [hu] at a3 a4 a5
      rcases Int.lt_trichotomy (x i) (z i) with h|h|h
      · exact absurd b4 (a5 _ h b2 b3)
      · exact h
      · exact absurd a4 (b5 _ h a2 a3)
    · exact ih i i0 (by omega)
theorem KX.sum{t:Its}{cap:Int}(hc:0<=cap){x:Int->Int}:∀{n:Nat},KX t cap x n->(n:Int)<=t.n->KU t x n<=cap/\KW t x n+KI t n (cap-KU t x n)=KI t 0 cap
  |0,_,_=>by simp [KU,KW,Zd];exact hc
  | n+1,h,hn=>by
    obtain⟨a1,a2⟩:=KX.sum hc (n:=n) (fun i x y=>h i x (by omega)) (by omega)
    obtain⟨b1,b2,b3,b4,_⟩:=h n (by omega) (by omega)
    have e1:=Zdl t x (i:=n) (by omega)
    have e2:=ZiJ t x (i:=n) (by omega)
    rw [Int.toNat_natCast] at b3 b4
    rw [show((n:Int)+1).toNat=n+1 by omega,Int.toNat_natCast] at e1 e2
    rw [e1,e2,show((n+1:Nat):Int)=(n:Int)+1 by omega,show cap-(KU t x n+x n*t.S n)=cap-KU t x n-x n*t.S n by omega]
    omega
theorem KX.worth{t:Its}(hc:0<=cap)(hn:0<=t.n)(h:KX t cap x t.n):KU t x t.n.toNat<=cap/\KW t x t.n.toNat=KI t 0 cap:=by
  obtain⟨h1,h2⟩:=KX.sum hc (n:=t.n.toNat) (by rw [Int.toNat_of_nonneg hn];exact h) (by omega)
  rw [Int.toNat_of_nonneg hn,ZgV] at h2
  exact⟨h1,by simpa using h2⟩
theorem Kg(f:Int->Int)(n:Nat):Zd f (n+1)=f 0+Zd (fun j=>f (j+1)) n:=by
  induction n with
  |zero=>simp [Zd]
  | succ n ih=>
    simp only [Zd] at*
    rw [ih,show((n+1:Nat):Int)=(n:Int)+1 by omega];omega
theorem ZgU{t:Its}(hS:∀i,0<=i->i<t.n->1<=t.S i){x:Int->Int}(hx:∀i,0<=i->i<t.n->0<=x i/\x i<=t.M i):∀(k:Nat) (c:Int),(k:Int)<=t.n->Zd (fun j=>x (t.n-k+j)*t.S (t.n-k+j)) k<=c->Zd (fun j=>x (t.n-k+j)*t.V (t.n-k+j)) k<=KT t k c
  |0,c,_,_=>by simp [Zd,KT]
  | k+1,c,hk,hc=>by
    rw [Kg] at hc⊢
    have e1:∀f:Int->Int,Zd (fun j=>f (t.n-((k+1:Nat):Int)+(j+1))) k=Zd (fun j=>f (t.n-k+j)) k:=fun f=>Zj fun j _ _=>by congr 1;omega
    rw [e1 (fun i=>x i*t.S i),show t.n-((k+1:Nat):Int)+0=t.n-1-k by omega] at hc
    rw [e1 (fun i=>x i*t.V i),show t.n-((k+1:Nat):Int)+0=t.n-1-k by omega]
    have h1:=hx (t.n-1-k) (by omega) (by omega)
    have hs:0<=Zd (fun j=>x (t.n-k+j)*t.S (t.n-k+j)) k:=Z3 fun j j0 j1=>Int.mul_nonneg (hx _ (by omega) (by omega)).1 (by have:=hS (t.n-k+j) (by omega) (by omega);omega)
    have ih:=ZgU hS hx k (c-x (t.n-1-k)*t.S (t.n-1-k)) (by omega) (by omega)
    have h2:=Zcl (KT t k) (t.S (t.n-1-k)) (t.V (t.n-1-k)) (t.M (t.n-1-k)).toNat (x (t.n-1-k)).toNat c (by omega) (by rw [Int.toNat_of_nonneg h1.1];omega)
    rw [Int.toNat_of_nonneg h1.1] at h2
    show _<=R _ _ _ _ _
    omega
theorem Zmf{t:Its}(hn:0<=t.n)(hS:∀i,0<=i->i<t.n->1<=t.S i)(hx:∀i,0<=i->i<t.n->0<=x i/\x i<=t.M i)(hc:KU t x t.n.toNat<=cap):KW t x t.n.toNat<=KI t 0 cap:=by
  have:=ZgU hS hx t.n.toNat cap (by omega)
  rw [Int.toNat_of_nonneg hn] at this
  simp only [Int.sub_self,Int.zero_add] at this
  have h2:=this hc
  unfold KI;rwa [Int.sub_zero]
end Go.Proofs.Gw
namespace Go.Proofs.Gw
open Go Go.RowKit
variable {i k:Int} {H N W:Int->Int}
def okF(kind k c:Int):Prop:=(kind=0/\k=0)\/(kind=1/\1<=k/\k<=100)\/(kind=2/\1<=k/\k<=c.tdiv 2)
def dfv(kind k x c:Int):Int:=
  if kind=0 then x else if kind=1 then(if((k+1)*x).tmod c=0 then k*x else((k+1)*x).tdiv c*c) else(if c-k<x then c else if x<k then 0 else x)
structure DualV (P:Program) (t:TypeId) (u:Value) (kind k:Int):Prop where
  valid:∃f,ZcD P t "fretsaw/rectbound.valid" f/\∀(c:Int) (w0:World),0<=c->c<=1000000->Calls P f [u,.int .i64 c].toArray w0 fun e w=>∃v,e= .returned v/\v=B (okF kind k c)/\Sat w0 w []
  value:∃f,ZcD P t "fretsaw/rectbound.value" f/\∀(x c:Int) (w0:World),okF kind k c->0<=x->x<=c->1<=c->c<=4000->Calls P f [u,.int .i64 x,.int .i64 c].toArray w0 fun e w=>∃v,e= .returned v/\v= .int .i64 (dfv kind k x c)/\Sat w0 w []
def ApplyR(kind k x c a e:Int):Prop:=(1<=c/\c<=4000/\okF kind k c/\0<=x/\x<=c/\a=dfv kind k x c/\e=0)\/(¬(1<=c/\c<=4000/\okF kind k c/\0<=x/\x<=c)/\a=0/\e=1)
theorem ApplyR.val{kind x c a e:Int}(h:ApplyR kind k x c a e)(h1:1<=c)(h2:c<=4000)(h3:okF kind k c)(h4:0<=x)(h5:x<=c):a=dfv kind k x c:=by
  rcases h with⟨_,_,_,_,_,a6,_⟩|⟨a1,_⟩
  · exact a6
  · exact absurd ⟨h1,h2,h3,h4,h5⟩ a1
theorem ApplyR.same{kind x c a e a' e':Int}(h:ApplyR kind k x c a e)(h':ApplyR kind k x c a' e'):a=a'/\e=e':=by
  rcases h with⟨a1,a2,a3,a4,a5,a6,a7⟩|⟨a1,a2,a3⟩<;>rcases h' with⟨b1,b2,b3,b4,b5,b6,b7⟩|⟨b1,b2,b3⟩
  · omega
  · exact absurd ⟨a1,a2,a3,a4,a5⟩ b1
  · exact absurd ⟨b1,b2,b3,b4,b5⟩ a1
  · omega
def ZX(W H N:Int->Int):Int->Value:=fun k=>if k%3=0 then .int .i64 (W (k/3)) else if k%3=1 then .int .i64 (H (k/3)) else .int .i64 (N (k/3))
theorem ZhV(W H N:Int->Int)(h:k=3*i):ZX W H N k= .int .i64 (W i):=by
  subst h;unfold ZX;rw [if_pos (by omega)];congr 2;omega
theorem ZhU(W H N:Int->Int)(h:k=3*i+1):ZX W H N k= .int .i64 (H i):=by
  subst h;unfold ZX;rw [if_neg (by omega),if_pos (by omega)];congr 2;omega
theorem ZhT(W H N:Int->Int)(h:k=3*i+2):ZX W H N k= .int .i64 (N i):=by
  subst h;unfold ZX;rw [if_neg (by omega),if_neg (by omega)];congr 2;omega
theorem Ut(W H N:Int->Int)(h:k=3*i):∀(j:Nat) u, [Value.int .i64 (W i),.int .i64 (H i),.int .i64 (N i)][j]? =some u->ZX W H N (k+j)=u:=fun j u hu=>by
  rcases j with _|_|_|j
  · cases hu;exact ZhV W H N (by omega)
  · cases hu;exact ZhU W H N (by omega)
  · cases hu;exact ZhT W H N (by omega)
  · simp at hu
theorem Zb0(W H N:Int->Int)(k:Int):(ZX W H N k).oneCell'=true:=by
  unfold ZX
  split
  · rfl
  · split<;>rfl
theorem KH{W' H' N':Int->Int}{n:Int}(h:∀k,0<=k->k<n->W k=W' k/\H k=H' k/\N k=N' k):∀k,0<=k->k<n*(3:Nat)->ZX W H N k=ZX W' H' N' k:=fun k k0 k1=>by
  obtain⟨h1,h2,h3⟩:=h (k/3) (by omega) (by omega)
  unfold ZX
  rw [h1,h2,h3]
structure DAt (w:World) (v:Value) (n:Int) (W H N:Int->Int):Prop where
  row:Row w v 3 n (ZX W H N)
  bw:∀i,-9223372036854775808<=W i/\W i<=9223372036854775807
  bh:∀i,-9223372036854775808<=H i/\H i<=9223372036854775807
  bn:∀i,-9223372036854775808<=N i/\N i<=9223372036854775807
theorem DAt.below{w w':World}{v:Value}{n:Int}{W H N:Int->Int}(h:DAt w v n W H N)(hb:Below w.heap.size w w'):DAt w' v n W H N:=⟨h.row.below hb,h.bw,h.bh,h.bn⟩
theorem DAt.of{w:World}{v:Value}{n:Int}{c:Int->Value}(h:Row w v 3 n c)(e:∀i,0<=i->i<n->c (3*i)= .int .i64 (W i)/\c (3*i+1)= .int .i64 (H i)/\c (3*i+2)= .int .i64 (N i))
    (bw:∀i,-9223372036854775808<=W i/\W i<=9223372036854775807) (bh:∀i,-9223372036854775808<=H i/\H i<=9223372036854775807) (bn:∀i,-9223372036854775808<=N i/\N i<=9223372036854775807):DAt w v n W H N:=
  ⟨h.congr fun k k0 k1=>by
    obtain⟨e0,e1,e2⟩:=e (k/3) (by omega) (by omega)
    unfold ZX
    by_cases h0:k%3=0
    · rw [if_pos h0,<-e0];congr 1;omega
    · rw [if_neg h0]
      by_cases h1:k%3=1
      · rw [if_pos h1,<-e1];congr 1;omega
      · rw [if_neg h1,<-e2];congr 1;omega,bw,bh,bn⟩
theorem Zcb(W H N:Int->Int)(n a b c:Int):cat (n*3) (ZX W H N) (ZX (fun _=>a) (fun _=>b) (fun _=>c))=ZX (snoc W n a) (snoc H n b) (snoc N n c):=by
  funext k
  unfold cat ZX snoc
  by_cases h:k<n*3
  · have:k/3<n:=by omega
    simp only [if_pos h,if_pos this]
  · have:¬k/3<n:=by omega
    have e:(k-n*3)%3=k%3:=by omega
    simp only [if_neg h,if_neg this,e]
end Go.Proofs.Gw
namespace Go.Proofs.Gw
open Go Go.RowKit
structure Sht where
  w:Int
  h:Int
  kf:Int
structure Dem where
  n:Int
  W:Int->Int
  H:Int->Int
  N:Int->Int
structure Crt where
  a:Int
  p:Int
  b:Int
  q:Int
def Dem.each(d:Dem)(i:Int):Prop:=1<=d.W i/\d.W i<=2000/\1<=d.H i/\d.H i<=2000/\0<=d.N i/\d.N i<=1000
structure DOk (d:Dem) (s:Sht):Prop where
  few:d.n<=20
  w1:1<=s.w
  w2:s.w<=2000
  h1:1<=s.h
  h2:s.h<=2000
  k1:0<=s.kf
  k2:s.kf<=50
  all:∀i,0<=i->i<d.n->d.each i
def Dem.great(d:Dem)(s:Sht)(i:Int):Prop:=0<d.N i/\(s.w<d.W i\/s.h<d.H i)
def Vz(d:Dem)(s:Sht):Prop:=∃i,0<=i/\i<d.n/\d.great s i
def Crt.ok(x:Crt)(s:Sht):Prop:=okF x.a x.p (s.w+s.kf)/\okF x.b x.q (s.h+s.kf)
def Crt.f(x:Crt)(s:Sht)(n:Int):Int:=dfv x.a x.p n (s.w+s.kf)
def Crt.g(x:Crt)(s:Sht)(n:Int):Int:=dfv x.b x.q n (s.h+s.kf)
def Crt.term(x:Crt)(d:Dem)(s:Sht)(i:Int):Int:=d.N i*x.f s (d.W i+s.kf)*x.g s (d.H i+s.kf)
def Crt.top(x:Crt)(s:Sht):Int:=x.f s (s.w+s.kf)*x.g s (s.h+s.kf)
def Crt.sum(x:Crt)(d:Dem)(s:Sht)(n:Nat):Int:=Zd (x.term d s) n
def Crt.val(x:Crt)(d:Dem)(s:Sht):Int:=(x.sum d s d.n.toNat+x.top s-1).tdiv (x.top s)
def ValueR(x:Crt)(d:Dem)(s:Sht)(a e:Int):Prop:=
  (¬(DOk d s/\x.ok s)/\a=0/\e=1)\/(DOk d s/\x.ok s/\Vz d s/\a=0/\e=19)\/(DOk d s/\x.ok s/\¬Vz d s/\a=x.val d s/\e=0)
theorem ValueR.same{x:Crt}{d:Dem}{s:Sht}{a e a' e':Int}(h:ValueR x d s a e)(h':ValueR x d s a' e'):a=a'/\e=e':=by
  rcases h with⟨a1,a2,a3⟩|⟨a1,a2,a3,a4,a5⟩|⟨a1,a2,a3,a4,a5⟩<;>rcases h' with⟨b1,b2,b3⟩|⟨b1,b2,b3,b4,b5⟩|⟨b1,b2,b3,b4,b5⟩<;>first
    |omega
    |exact absurd ⟨b1,b2⟩ a1
    |exact absurd ⟨a1,a2⟩ b1
    |exact absurd a3 b3
    |exact absurd b3 a3
end Go.Proofs.Gw
namespace Go.Proofs.Gw
open Go Go.RowKit
structure FL (l:List (Int×Int)) (n:Int) (K A:Int->Int):Prop where
  len:(l.length:Int)=n
  get:∀(k:Nat) x,l[k]? =some x->K k=x.1/\A k=x.2
theorem FL.snoc {l:List (Int×Int)} {n:Int} {K A:Int->Int} (h:FL l n K A) (a b:Int):FL (l++ [(a,b)]) (n+1) (snoc K n a) (snoc A n b):=by
  refine⟨by simp [<-h.len],fun k x hx=> ?_⟩
  have hl:=h.len
  rw [List.getElem?_append] at hx
  by_cases hk:k<l.length
  · rw [if_pos hk] at hx
    rw [Zu (by omega),Zu (by omega)];exact h.get k x hx
  · rw [if_neg hk] at hx
    rw [Zv (by omega),Zv (by omega)]
    have:k-l.length=0:=by
      rcases Nat.eq_zero_or_pos (k-l.length) with h|h
      · exact h
      · obtain⟨q,hq⟩:∃q,k-l.length=q+1:=⟨k-l.length-1,by omega⟩
        rw [hq] at hx;simp at hx
    rw [this] at hx
    simp at hx
    subst hx;exact⟨rfl,rfl⟩
theorem FL.at{l:List (Int×Int)}{n:Int}{K A:Int->Int}(h:FL l n K A){k:Int}(h0:0<=k)(h1:k<n):l[k.toNat]? =some (K k,A k):=by
  have hl:=h.len
  have hk:k.toNat<l.length:=by omega
  have:=h.get k.toNat _ (List.getElem?_eq_getElem hk)
  rw [Int.toNat_of_nonneg h0] at this
  rw [List.getElem?_eq_getElem hk,this.1,this.2]
theorem FL.congr{l m:List (Int×Int)}{n:Int}{K A:Int->Int}(h:FL l n K A)(e:l=m):FL m n K A:=e▸h
def base(k:Nat):List (Int×Int):=(0,0)::(List.range k).map fun i:Nat=>(1,(i:Int)+1)
def CandL(S:Int->Prop)(l:List (Int×Int)):Prop:=∃m:List Int,l=base 5++m.map (fun a=>((2:Int),a))/\m.Pairwise (· < ·)/\∀a,a∈m↔S a
theorem CandL.same{S:Int->Prop}{l l':List (Int×Int)}(h:CandL S l)(h':CandL S l'):l=l':=by
  obtain⟨m,rfl,h1,h2⟩:=h
  obtain⟨m',rfl,h3,h4⟩:=h'
  rw [UG h1 h3 fun a=>(h2 a).trans (h4 a).symm]
theorem CandL.congr{S S':Int->Prop}{l:List (Int×Int)}(h:CandL S l)(e:∀a,S a↔S' a):CandL S' l:=by
  have:S=S':=funext fun a=>propext (e a)
  exact this▸h
theorem CandL.start:CandL (fun _=>False) (base 5):=⟨[],by simp,.nil,by simp⟩
theorem CandL.snoc{S:Int->Prop}{l:List (Int×Int)}(h:CandL S l){x:Int}(hx:∀a,S a->a<x):CandL (fun a=>S a\/a=x) (l++ [(2,x)]):=by
  obtain⟨m,rfl,h1,h2⟩:=h
  refine⟨m++ [x],by simp,List.pairwise_append.2 ⟨h1,List.pairwise_singleton _ _,fun a ha b hb=> ?_⟩,fun a=> ?_⟩
  · rw [List.mem_singleton] at hb;subst hb;exact hx a ((h2 a).1 ha)
  · rw [List.mem_append,List.mem_singleton,h2]
theorem CandL.len{S:Int->Prop}{l:List (Int×Int)}(h:CandL S l):6<=l.length/\l[0]? =some (0,0):=by
  obtain⟨m,rfl,_⟩:=h
  exact⟨by simp [base],rfl⟩
theorem CandL.ok{S:Int->Prop}{l:List (Int×Int)}(h:CandL S l){c:Int}(hS:∀a,S a->1<=a/\a<=c.tdiv 2){k:Nat}{x:Int×Int}(hx:l[k]? =some x):okF x.1 x.2 c:=by
  obtain⟨m,rfl,_,h2⟩:=h
  have:=List.mem_of_getElem? hx
  rcases List.mem_append.1 this with h|h
  · simp only [base,List.mem_cons,List.mem_map,List.mem_range] at h
    rcases h with rfl|⟨i,hi,rfl⟩
    · exact .inl ⟨rfl,rfl⟩
    · exact .inr (.inl ⟨rfl,by dsimp only;omega,by dsimp only;omega⟩)
  · obtain⟨a,ha,rfl⟩:=List.mem_map.1 h
    exact .inr (.inr ⟨rfl,hS a ((h2 a).1 ha)⟩)
noncomputable def Uw(S:Int->Prop):List (Int×Int):=by
  classical exact if h:∃l,CandL S l then Classical.choose h else []
theorem CandL.eq{S:Int->Prop}{l:List (Int×Int)}(h:CandL S l):l=Uw S/\CandL S (Uw S):=by
  have h2:CandL S (Uw S):=by
    unfold Uw
    rw [dif_pos ⟨l,h⟩]
    exact Classical.choose_spec (p:=CandL S) ⟨l,h⟩
  exact⟨h.same h2,h2⟩
def Kept(f g:Int->Int)(n:Int):Prop:=∀a,1<=a->((∃k,0<=k/\k<n/\g k=a)↔∃k,0<=k/\k<n/\f k=a)
theorem Kept.refl(f:Int->Int)(n:Int):Kept f f n:=fun _ _=>Iff.rfl
theorem Kept.trans{f g k:Int->Int}{n:Int}(h:Kept f g n)(h2:Kept g k n):Kept f k n:=fun a ha=>(h2 a ha).trans (h a ha)
def Zjg(d:Dem)(W:Int->Int)(kf i:Int):Int->Prop:=fun a=>∃k,0<=k/\k<i/\0<d.N k/\W k+kf=a
def SzInv(f:Int->Int)(m:Int)(d:Dem)(W:Int->Int)(kf i:Int):Prop:=∀a,(∃k,0<=k/\k<m/\f k=a)↔Zjg d W kf i a
theorem SzInv.start(f:Int->Int)(d:Dem)(W:Int->Int)(kf:Int):SzInv f 0 d W kf 0:=fun a=>⟨fun⟨k,h0,h1,_⟩=>by omega,fun⟨k,h0,h1,_⟩=>by omega⟩
theorem SzInv.more{f:Int->Int}{m:Int}{d:Dem}{W:Int->Int}{kf i:Int}(h:SzInv f m d W kf i)(hm:0<=m)(hi:0<=i)(hN:0<d.N i):SzInv (snoc f m (W i+kf)) (m+1) d W kf (i+1):=fun a=>by
  constructor
  · rintro⟨k,k0,k1,e⟩
    by_cases hk:k<m
    · rw [Zu hk] at e
      obtain⟨j,j0,j1,j2⟩:=(h a).1 ⟨k,k0,hk,e⟩
      exact⟨j,j0,by omega,j2⟩
    · rw [Zv hk] at e
      exact⟨i,hi,by omega,hN,e⟩
  · rintro⟨j,j0,j1,j2,e⟩
    by_cases hj:j=i
    · subst hj;exact⟨m,hm,by omega,by rw [Zv (by omega)];exact e⟩
    · obtain⟨k,k0,k1,e'⟩:=(h a).2 ⟨j,j0,by omega,j2,e⟩
      exact⟨k,k0,by omega,by rw [Zu k1];exact e'⟩
def Zeg(d:Dem)(W:Int->Int)(kf c:Int):Int->Prop:=fun a=>1<=a/\a<=c.tdiv 2/\Zjg d W kf d.n a
def VV(d:Dem)(s:Sht)(x y:Int×Int):Int:=Crt.val ⟨x.1,x.2,y.1,y.2⟩ d s
noncomputable def LA(d:Dem)(s:Sht):List (Int×Int):=Uw (Zeg d d.W s.kf (s.w+s.kf))
noncomputable def LB(d:Dem)(s:Sht):List (Int×Int):=Uw (Zeg d d.H s.kf (s.h+s.kf))
theorem ValueR.val{x:Crt}{d:Dem}{s:Sht}{a e:Int}(h:ValueR x d s a e)(hk:DOk d s)(hx:x.ok s)(hg:¬Vz d s):a=x.val d s:=by
  rcases h with⟨a1,_⟩|⟨_,_,a1,_⟩|⟨_,_,_,a1,_⟩
  · exact absurd ⟨hk,hx⟩ a1
  · exact absurd a1 hg
  · exact a1
def before(i j I J:Int):Prop:=i<I\/(i=I/\j<J)
structure Top (V:Int×Int->Int×Int->Int) (la lb:List (Int×Int)) (I J best:Int) (x y:Int×Int) (i0 j0:Nat):Prop where
  x0:la[i0]? =some x
  y0:lb[j0]? =some y
  at0:before i0 j0 I J
  val:best=V x y
  le:∀(i j:Nat) a b,la[i]? =some a->lb[j]? =some b->before i j I J->V a b<=best
  lt:∀(i j:Nat) a b,la[i]? =some a->lb[j]? =some b->before i j i0 j0->V a b<best
def Best1(V:Int×Int->Int×Int->Int)(la lb:List (Int×Int))(I J best:Int)(x y:Int×Int):Prop:=
  (I=0/\J=0/\(best= -1\/(best=V x y/\la[0]? =some x/\lb[0]? =some y)))\/∃i0 j0,Top V la lb I J best x y i0 j0
def BestOf(V:Int×Int->Int×Int->Int)(la lb:List (Int×Int))(best:Int)(x y:Int×Int):Prop:=∃i0 j0,Top V la lb la.length 0 best x y i0 j0
section
variable {V:Int×Int->Int×Int->Int} {la lb:List (Int×Int)} {I J best:Int} {x y a b:Int×Int}
theorem Zbo{i j:Nat}{I J:Int}(h:before i j I (J+1)):before i j I J\/((i:Int)=I/\(j:Int)=J):=by
  unfold before at*;omega
theorem Best1.more(h:Best1 V la lb I J best x y)(hI:0<=I)(hJ:0<=J)(ha:la[I.toNat]? =some a)(hb:lb[J.toNat]? =some b)(hv:best<V a b):Best1 V la lb I (J+1) (V a b) a b:=by
  refine .inr ⟨I.toNat,J.toNat,ha,hb,by unfold before;omega,rfl,fun i j a' b' ha' hb' hbf=> ?_,fun i j a' b' ha' hb' hbf=> ?_⟩
  · rcases Zbo hbf with hbf|⟨e1,e2⟩
    · rcases h with⟨rfl,rfl,_⟩|⟨i0,j0,h⟩
      · unfold before at hbf;omega
      · have:=h.le i j a' b' ha' hb' hbf;omega
    · have e1':i=I.toNat:=by omega
      have e2':j=J.toNat:=by omega
      subst e1';subst e2'
      rw [ha] at ha';rw [hb] at hb'
      cases ha';cases hb';exact Int.le_refl _
  · rw [Int.toNat_of_nonneg hI,Int.toNat_of_nonneg hJ] at hbf
    rcases h with⟨rfl,rfl,_⟩|⟨i0,j0,h⟩
    · unfold before at hbf;omega
    · have:=h.le i j a' b' ha' hb' hbf;omega
theorem Best1.row(h:Best1 V la lb I lb.length best x y)(hl:1<=lb.length):Best1 V la lb (I+1) 0 best x y:=by
  rcases h with⟨_,h,_⟩|⟨i0,j0,h⟩
  · omega
  · refine .inr ⟨i0,j0,h.x0,h.y0,?_,h.val,fun i j a' b' ha' hb' hbf=>h.le i j a' b' ha' hb' ?_,h.lt⟩
    · have:=h.at0;unfold before at*;omega
    · have:=(List.getElem?_eq_some_iff.1 hb').1
      unfold before at*;omega
theorem Best1.fin(h:Best1 V la lb la.length 0 best x y)(hl:1<=la.length):BestOf V la lb best x y:=by
  rcases h with⟨h,_⟩|h
  · omega
  · exact h
theorem BestOf.same{best':Int}{x' y':Int×Int}(h:BestOf V la lb best x y)(h':BestOf V la lb best' x' y'):best=best'/\x=x'/\y=y':=by
  obtain⟨i0,j0,h⟩:=h
  obtain⟨i1,j1,h'⟩:=h'
  have hi0:=(List.getElem?_eq_some_iff.1 h.x0).1
  have hi1:=(List.getElem?_eq_some_iff.1 h'.x0).1
  have e:best=best':=by
    have h1:=h.le i1 j1 x' y' h'.x0 h'.y0 (by unfold before;omega)
    have h2:=h'.le i0 j0 x y h.x0 h.y0 (by unfold before;omega)
    have h3:=h.val;have h4:=h'.val;omega
  have ne1:¬before i0 j0 i1 j1:=fun hb=>by
    have:=h'.lt i0 j0 x y h.x0 h.y0 hb;have:=h.val;omega
  have ne2:¬before i1 j1 i0 j0:=fun hb=>by
    have:=h.lt i1 j1 x' y' h'.x0 h'.y0 hb;have:=h'.val;omega
  have e1:i0=i1:=by unfold before at*;omega
  have e2:j0=j1:=by unfold before at*;omega
  subst e1;subst e2
  have ex:=h.x0.symm.trans h'.x0
  have ey:=h.y0.symm.trans h'.y0
  exact⟨e,Option.some.inj ex,Option.some.inj ey⟩
theorem BestOf.is(h:BestOf V la lb best x y):best=V x y/\∃i j:Nat,la[i]? =some x/\lb[j]? =some y:=by
  obtain⟨i0,j0,h⟩:=h
  exact⟨h.val,i0,j0,h.x0,h.y0⟩
end
def BestR (d:Dem) (s:Sht) (a:Int) (x y:Int×Int) (e:Int):Prop:=
  (¬DOk d s/\a=0/\x=(0,0)/\y=(0,0)/\e=1)\/(DOk d s/\Vz d s/\a=0/\x=(0,0)/\y=(0,0)/\e=19)\/
    (DOk d s/\¬Vz d s/\e=0/\CandL (Zeg d d.W s.kf (s.w+s.kf)) (LA d s)/\CandL (Zeg d d.H s.kf (s.h+s.kf)) (LB d s)/\BestOf (VV d s) (LA d s) (LB d s) a x y)
theorem BestR.same{d:Dem}{s:Sht}{a a' e e':Int}{x y x' y':Int×Int}(h:BestR d s a x y e)(h':BestR d s a' x' y' e'):a=a'/\e=e'/\x=x'/\y=y':=by
  rcases h with⟨a1,a2,a3,a4,a5⟩|⟨a1,a2,a3,a4,a5,a6⟩|⟨a1,a2,a3,_,_,a4⟩<;>rcases h' with⟨b1,b2,b3,b4,b5⟩|⟨b1,b2,b3,b4,b5,b6⟩|⟨b1,b2,b3,_,_,b4⟩<;>first
    |contradiction
    |exact⟨by omega,by omega,by rw [a3,b3],by rw [a4,b4]⟩
    |exact⟨by omega,by omega,by rw [a4,b4],by rw [a5,b5]⟩
    |exact⟨(a4.same b4).1,by omega,(a4.same b4).2⟩
end Go.Proofs.Gw
namespace Go.Proofs.Gw
open Go Go.RowKit
variable {a c e k kind x:Int}
structure DMore (d d':Dem):Prop where
  n:d'.n=d.n
  W:∀i,0<=i->i<d.n->d.W i<=d'.W i
  H:∀i,0<=i->i<d.n->d.H i<=d'.H i
  N:∀i,0<=i->i<d.n->d.N i<=d'.N i
theorem CandL.one{S:Int->Prop}{l:List (Int×Int)}(h:CandL S l):l[1]? =some (1,1):=by
  obtain⟨m,rfl,_⟩:=h
  rfl
theorem BestR.ok{d:Dem}{s:Sht}{x y:Int×Int}(h:BestR d s a x y e)(he:e=0):DOk d s/\¬Vz d s/\CandL (Zeg d d.W s.kf (s.w+s.kf)) (LA d s)/\CandL (Zeg d d.H s.kf (s.h+s.kf)) (LB d s)/\BestOf (VV d s) (LA d s) (LB d s) a x y:=by
  rcases h with⟨_,_,_,_,h⟩|⟨_,_,_,_,_,h⟩|⟨h1,h2,_,h3,h4,h5⟩
  · omega
  · omega
  · exact⟨h1,h2,h3,h4,h5⟩
theorem BestR.err{d:Dem}{s:Sht}{x y:Int×Int}(h:BestR d s a x y e)(he:e≠0):a=0:=by
  rcases h with⟨_,h,_⟩|⟨_,_,h,_⟩|⟨h1,h2,h,_⟩
  · exact h
  · exact h
  · exact absurd h he
theorem ValueR.ok{x:Crt}{d:Dem}{s:Sht}{a e:Int}(h:ValueR x d s a e)(he:e=0):DOk d s/\x.ok s/\¬Vz d s/\a=x.val d s:=by
  rcases h with⟨_,_,h⟩|⟨_,_,_,_,h⟩|⟨h1,h2,h3,h4,_⟩
  · omega
  · omega
  · exact⟨h1,h2,h3,h4⟩
theorem ValueR.err{x:Crt}{d:Dem}{s:Sht}(h:ValueR x d s a e)(he:e≠0):a=0:=by
  rcases h with⟨_,h,_⟩|⟨_,_,_,h,_⟩|⟨_,_,_,_,h⟩
  · exact h
  · exact h
  · exact absurd h he
theorem ApplyR.ok(h:ApplyR kind k x c a e)(he:e=0):okF kind k c/\a=dfv kind k x c:=by
  rcases h with⟨_,_,h1,_,_,h2,_⟩|⟨_,_,h⟩
  · exact⟨h1,h2⟩
  · omega
theorem ApplyR.err(h:ApplyR kind k x c a e)(he:e≠0):a=0:=by
  rcases h with⟨_,_,_,_,_,_,h⟩|⟨_,h,_⟩
  · exact absurd h he
  · exact h
theorem ApplyR.is(h:ApplyR kind k x c a e)(h1:1<=c)(h2:c<=4000)(h3:okF kind k c)(h4:0<=x)(h5:x<=c):a=dfv kind k x c/\e=0:=by
  rcases h with⟨_,_,_,_,_,a6,a7⟩|⟨a1,_⟩
  · exact⟨a6,a7⟩
  · exact absurd ⟨h1,h2,h3,h4,h5⟩ a1
end Go.Proofs.Gw
namespace Go.Proofs.YtkichmnjjblodaaGreat
open Go Go.RowKit Go.Proofs.Gw
variable {vI:Value}
theorem Zko:Zc Tryz.prog 221=true:=by kernel_rfl
theorem Zkn:Zc Tryz.prog 222=true:=by kernel_rfl
theorem Zkk:Zc Tryz.prog 230=true:=by kernel_rfl
theorem Uu:Zc Tryz.prog 231=true:=by kernel_rfl
theorem fd_247_0:Zr Tryz.prog 247 0=some 0:=by kernel_rfl
theorem fd_247_1:Zr Tryz.prog 247 1=some 1:=by kernel_rfl
theorem fd_247_2:Zr Tryz.prog 247 2=some 2:=by kernel_rfl
theorem XE:ZI Tryz.prog 246=some (247,3):=by kernel_rfl
theorem Kh:Zy Tryz.prog 247=some 3:=by kernel_rfl
theorem Zno{a b c:Int}(w0:World):
    Calls Tryz.prog 221 [.agg #[.int .i64 a,.int .i64 b,.int .i64 c]].toArray w0 fun e w=>∃v,e= .returned v/\v=B (¬Xa a b c)/\Sat w0 w []:=by
  refine zenG Tryz.func221 Tryz.ntmps221 fun w hS=> ?_
  refine zsr<|zla (xbx (cs:= [_,_,_]) hS) ?_;rintro _ w ⟨g1,rfl,hS⟩
  refine(zP)<|zlz<|(zV (xfb 0 fd_247_0))<|(zV (xlb 0 pl_3 hS))<|(zP)<|(zP)<|zlb 6 ?_ ?_<;>intro hc;rotate_left
  refine(zV (xfb 0 fd_247_0))<|(zV (xlb 0 pl_3 hS))<|(zP)<|(zP)<|(zP)<|zlb 11 ?_ ?_<;>intro hc;rotate_left
  refine(zV (xfb 1 fd_247_1))<|(zV (xlb 0 pl_3 hS))<|(zP)<|(zP)<|(zP)<|zlb 16 ?_ ?_<;>intro hc;rotate_left
  refine(zV (xfb 1 fd_247_1))<|(zV (xlb 0 pl_3 hS))<|(zP)<|(zP)<|(zP)<|zlb 21 ?_ ?_<;>intro hc;rotate_left
  refine(zV (xfb 2 fd_247_2))<|(zV (xlb 0 pl_3 hS))<|(zP)<|(zP)<|(zP)<|zlb 26 ?_ ?_<;>intro hc;rotate_left
  refine(zV (xfb 2 fd_247_2))<|(zV (xlb 0 pl_3 hS))<|(zP)<|(zP)<|(zP)<|zx1<|zf1 ⟨_,rfl,?_⟩
  exact⟨Zk (by unfold Xa;omega),hS.nl⟩
  all_goals
   refine zOps ?_
   refine zx1<|zf1 ⟨_,rfl,?_⟩
   exact⟨Z7 (by unfold Xa;omega),hS.nl⟩
theorem Zgv{t:Its}(w0:World)(hI:Row w0 vI 3 t.n (ZX t.S t.V t.M)):
    Calls Tryz.prog 230 [vI,.func (.func 221) #[] #[]].toArray w0 fun e w=>∃v,e= .returned v/\∃r:Int,v= .int .i64 r/\((r= -1/\∀k,0<=k->k<t.n->¬(¬Xa (t.S k) (t.V k) (t.M k)))\/(0<=r/\r<t.n/\(¬Xa (t.S r) (t.V r) (t.M r))))/\Sat w0 w []:=by
  have hn:=hI.slh.n0;have hn1:=hI.slh.n1
  refine zenG Tryz.func230 Tryz.ntmps230 fun w hS=> ?_
  refine zsr<|(zP)<|zx5<|(zP)<|(zV (xln XE hI.slh))<|(zP)<|zx6<|zlp (fun mm M w=>∃(i:Int),mm=((t.n-i).toNat)/\(0<=i)/\(i<=t.n)/\(∀k,0<=k->k<i->¬(¬Xa (t.S k) (t.V k) (t.M k)))/\M= [(0,vI),(1,.func (.func 221) #[] #[]),(7,.int .i64 t.n),(8,.int .i64 i)]/\Sat w0 w []) ⟨0,rfl,(by omega),(by omega),?_,rfl,hS⟩ ?_
  ·
   intro k h0 h1;omega
  clear hS w
  rintro mm M w ⟨i,rfl,h0,h1,qa,rfl,hS⟩
  refine zsr<|(zP)<|zx7<|Zf ?_ ?_<;>intro hc
  ·
   refine zx3<|(zP)<|(zP)<|zlz<|(zP)<|(zP)<|(zP)<|(zV (xix (kk:=3*i) XE hI.slh))<|(zV (xlw (cs:= [.int .i64 (t.S i),.int .i64 (t.V i),.int .i64 (t.M i)]) Kh (hI.below hS.below) (Ut (k:=3*i) (i:=i) t.S t.V t.M (by omega))))<|zlc (xc0 Zko) (Zno (a:=(t.S i)) (b:=(t.V i)) (c:=(t.M i)) w) ?_;rintro _ w ⟨rfl,hS'⟩
   replace hS:=hS.cmp hS';clear hS'
   refine zlt<|Zf ?_ ?_<;>intro hc
   ·
    refine zsr<|(zP)<|(zP)<|zx2<|zf1 ⟨_,rfl,?_⟩
    exact⟨i,rfl,.inr ⟨by omega,by omega,‹¬Xa (t.S i) (t.V i) (t.M i)›⟩,hS⟩
   refine zx4<|(zV (Zh (r:=i+1)))<|(zP)<|zln<|zlq ⟨i+1,rfl,(by omega),(by omega),?_,rfl,hS⟩
   ·
    intro k h0' h1';rcases Int.lt_or_eq_of_le (show k<=i by omega) with hk|hk;exact qa k h0' hk;rw [hk];assumption
  refine zx8<|(zP)<|zx1<|zf1 ⟨_,rfl,?_⟩
  exact⟨-1,rfl,.inl ⟨rfl,fun k h0 h1=>qa k h0 (by omega)⟩,hS⟩
theorem ZgC{t:Its}(w0:World)(hI:Row w0 vI 3 t.n (ZX t.S t.V t.M)):
    Calls Tryz.prog 222 [vI,.func (.func 221) #[] #[]].toArray w0 fun e w=>∃v,e= .returned v/\v=B (∃k,0<=k/\k<t.n/\(¬Xa (t.S k) (t.V k) (t.M k)))/\Sat w0 w []:=by
  refine zenG Tryz.func222 Tryz.ntmps222 fun w hS=> ?_
  refine zsr<|(zP)<|zlz<|(zP)<|(zP)<|zlc (xc0 Zkk) (Zgv w (hI.below hS.below)) ?_;rintro _ w ⟨r1,rfl,hr1,hS'⟩
  replace hS:=hS.cmp hS';clear hS'
  refine(zP)<|(zP)<|zx1<|zf1 ⟨_,rfl,?_⟩
  exact⟨Zk (by
   rcases hr1 with⟨h1,h2⟩|⟨h1,h2,h3⟩
   · exact⟨fun h=>by omega,fun⟨k,h4,h5,h6⟩=>absurd h6 (h2 k h4 h5)⟩
   · exact⟨fun _=>⟨_,h1,h2,h3⟩,fun _=>h1⟩),hS⟩
theorem Zgs{t:Its}{cap:Int}(w0:World)(hI:Row w0 vI 3 t.n (ZX t.S t.V t.M)):
    Calls Tryz.prog 209 [vI,.int .i64 cap].toArray w0 fun e w=>∃v,e= .returned v/\v=B (t.Ok cap)/\Sat w0 w []:=by
  have hn:=hI.slh.n0
  refine zenG Tryz.func209 Tryz.ntmps209 fun w hS=> ?_
  refine zsr<|(zP)<|zlz<|(zP)<|zlz<|(zP)<|(zV (xln XE hI.slh))<|(zP)<|(zP)<|zlb 9 ?_ ?_<;>intro hc
  ·
   refine zs4 ?_
   refine zlb 13 ?_ ?_<;>intro hc
   ·
    refine zs4 ?_
    refine zlb 17 ?_ ?_<;>intro hc
    ·
     refine(zP)<|(zP)<|zlc (xc0 Zkn) (ZgC (t:=t) w (hI.below hS.below)) ?_;rintro _ w ⟨rfl,hS'⟩
     replace hS:=hS.cmp hS';clear hS'
     refine(zP)<|(zP)<|(zP)<|zx1<|zf1 ⟨_,rfl,?_⟩
     exact⟨Zk (by exact⟨fun hx=>⟨by omega,by omega,by omega,fun k k0 k1=>Classical.not_not.1 fun hh=>hx ⟨k,k0,k1,hh⟩⟩,fun hok ⟨k,k0,k1,hh⟩=>hh (hok.all k k0 k1)⟩),hS⟩
    iterate 4 refine zlo ?_
    refine(zP)<|(zP)<|zx1<|zf1 ⟨_,rfl,?_⟩
    exact⟨Ze (by rintro⟨h1,h2,h3,h4⟩;omega),hS⟩
   refine(zO)<|(zO)<|zs2 ?_
   iterate 4 refine zlo ?_
   refine(zP)<|(zP)<|zx1<|zf1 ⟨_,rfl,?_⟩
   exact⟨Ze (by rintro⟨h1,h2,h3,h4⟩;omega),hS⟩
  refine(zO)<|(zO)<|(zP)<|(zP)<|(zO)<|zlo ?_
  refine zs2 ?_
  iterate 4 refine zlo ?_
  refine(zP)<|(zP)<|zx1<|zf1 ⟨_,rfl,?_⟩
  exact⟨Ze (by rintro⟨h1,h2,h3,h4⟩;omega),hS⟩
theorem Ux{vN:Value}{n s y m r:Int}{T:Int->Int}{gn gr gx:Nat}{k:Int}(w0:World)(hGn:(Ent.blk gn [vN]).holds w0)(hGr:(Ent.blk gr [.int .i64 r]).holds w0)(hGx:(Ent.blk gx [.int .i64 s,.int .i64 y,.int .i64 m]).holds w0)(hN:Row w0 vN 1 n (ints T))(hTB:∀c,0<=c->c<n->0<=T c/\T c<=4398046511104)(hs:1<=s)(hn4:n<=4001)(hy:0<=y/\y<=1073741824)(r0:0<=r)(k0:0<=k)(hkn:r+k*s<n):
    Calls Tryz.prog 231 [.int .i64 k,.pointer (some ⟨gn,0,none⟩),.pointer (some ⟨gr,0,none⟩),.pointer (some ⟨gx,0,none⟩)].toArray w0 fun e w=>∃v,e= .returned v/\v= .int .i64 (T (r+k*s)-k*y)/\Sat w0 w []:=by
  have hn1:=hN.slh.n1
  have fD:=ZeT k0 hs
  have hjs:=RB hs r0 k0 (Int.le_refl _) hkn
  have hjy:=X6 k0 (by omega) hy.1 hy.2
  have htk:=hTB (r+k*s) (by omega) (by omega)
  refine zenG Tryz.func231 Tryz.ntmps231 fun w hS=> ?_
  refine zsr<|(zP)<|zx7<|zdst [] [] 1000 mx_ hS ?_;clear hS;intro w hS
  refine(zDl 0 (fun w hS=>(xlf pl_22 (Ent.holds.cell hGn (o:=0) rfl) hS)))<|(zDl 1 (fun w hS=>(xlf pl_3 (Ent.holds.cell hGr (o:=0) rfl) hS)))<|(zDw 2 xmv)<|(zDw 3 (xfb 0 fd_247_0))<|(zDl 4 (fun w hS=>(xlf pl_3 (Ent.holds.cell hGx (o:=0) rfl) hS)))<|(zDw 5 (Z2 (r:=(k*s)) (e:=rfl)))<|(zDw 6 (Zh (r:=r+(k*s))))<|(zDw 7 (xix (kk:=r+(k*s)) Zb hN.slh))<|(zDl 8 (fun w hS=>(xlr (u:= .int .i64 (T (r+(k*s)))) pl_3 (hN.below hS.below))))<|(zDw 9 xmv)<|(zDw 10 (xfb 1 fd_247_1))<|(zDl 11 (fun w hS=>(xlf pl_3 (Ent.holds.cell hGx (o:=1) rfl) hS)))<|(zDw 12 (Z2 (r:=(k*y)) (e:=rfl)))<|(zDw 13 (Zq (r:=(T (r+(k*s)))-(k*y))))<|zDrv 14 xas ?_
  refine zdd<|ztn<|zrt<|zf1 ⟨_,rfl,?_⟩
  exact⟨rfl,hS⟩
theorem Zik{vN:Value}{n s y m:Int}{T:Int->Int}(w0:World)(hN:Row w0 vN 1 n (ints T))(hTB:∀c,0<=c->c<n->0<=T c/\T c<=4398046511104)(hs:1<=s)(hs4:s<=4000)(hn4:n<=4001)(hy:0<=y/\y<=1073741824)(hm:0<=m/\m<=1000):
    Calls Tryz.prog 223 [.agg #[.int .i64 s,.int .i64 y,.int .i64 m],vN].toArray w0 fun e w=>∃v,e= .returned v/\∃r,v=r/\Slh r n/\Sat w0 w [.own r 1 3 n (ints (R T s y m.toNat))]:=by
  have hn0:=hN.slh.n0
  refine zenG Tryz.func223 Tryz.ntmps223 fun w hS=> ?_
  refine zsr<|zla (xbx (cs:= [_,_,_]) hS) ?_;rintro _ w ⟨g1,rfl,hS⟩
  refine zla (xbx (cs:= [_]) hS (hc:=Slh.cells hN.slh)) ?_;rintro _ w ⟨g2,rfl,hS⟩
  refine(zP)<|zlz<|(zV (xlb 1 pl_22 hS))<|(zV (xln Zb hN.slh))<|zla (xmk Zb Zt hS) ?_;rintro v1 w ⟨hS,hv1⟩
  refine(zP)<|zx5<|(zV (xfb 0 fd_247_0))<|(zV (xlb 0 pl_3 hS))<|(zV (xlb 1 pl_22 hS))<|(zV (xln Zb hN.slh))<|(zV (U5 (r:=(min s n))))<|(zP)<|zx6<|zlp (fun mm M w=>∃(r:Int) (g:Int->Int),mm=((min s n-r).toNat)/\(0<=r)/\(r<=min s n)/\(∀c,0<=c->c<n->c%s<r->g c=R T s y m.toNat c)/\M= [(2,.pointer (some ⟨g1,0,none⟩)),(3,.pointer (some ⟨g2,0,none⟩)),(4,.slice none 0 0),(5,v1),(17,.int .i64 (min s n)),(18,.int .i64 r)]/\Sat w0 w [.blk g1 [.int .i64 s,.int .i64 y,.int .i64 m],.blk g2 [vN],.own v1 1 3 n (ints g)]) ⟨0,(fun _=>0),rfl,(by omega),(by omega),?_,rfl,hS⟩ ?_
  ·
   intro c c0 c1 c2;have:=Int.emod_nonneg c (show s≠0 by omega);omega
  clear hS w
  rintro mm M w ⟨r,g,rfl,r0,r1,hg,rfl,hS⟩
  refine zsr<|(zP)<|zx7<|Zf ?_ ?_<;>intro hc
  ·
   refine zx3<|(zP)<|zla (xal (cs:= [_]) Zt hS) ?_;rintro _ w ⟨g3,rfl,hS⟩
   refine zle (xsb 3 pl_3 hS) ?_;clear hS;rintro w hS
   refine zlz<|(zP)<|zlz<|(zV xmf)<|(zP)<|zlz<|(zP)<|zx6 ?_
   replace hS:=hS.dqnil 3 (fun _=>0)
   refine zlp (fun mm M w=>∃(q:Int) (k:Int) (gg2:Int->Int) (wq:Value) (fq:Int->Int),mm=((n-k).toNat)/\(0<=k)/\(k<=n)/\(DQ (fun j=>T (r+j*s)-j*y) m k q fq)/\(LY T s y m n r k gg2)/\(Slh wq q)/\M= [(2,.pointer (some ⟨g1,0,none⟩)),(3,.pointer (some ⟨g2,0,none⟩)),(4,.slice none 0 0),(5,v1),(6,.pointer (some ⟨g3,0,none⟩)),(7,wq),(8,.func (.func 231) #[] #[.pointer (some ⟨g2,0,none⟩),.pointer (some ⟨g3,0,none⟩),.pointer (some ⟨g1,0,none⟩)]),(9,.int .i64 k),(17,.int .i64 (min s n)),(18,.int .i64 r)]/\Sat w0 w [.blk g1 [.int .i64 s,.int .i64 y,.int .i64 m],.blk g2 [vN],.own v1 1 3 n (ints gg2),.blk g3 [.int .i64 r],.sem (Frame.dq 3 wq q fq)]) ⟨0,0,g,(.slice none 0 0),(fun _=>0),rfl,(by omega),(by omega),?_,?_,?_,rfl,hS⟩ ?_
   ·
    exact DQ.start _ _ _
   ·
    exact LY.start T hg
   ·
    exact slh_nil
   clear hS w
   rintro mm M w ⟨q,k,gg2,wq,fq,rfl,k0,k1,hdq,hLY,hwq,rfl,hS⟩
   refine zx11<|(zV (xlb 3 pl_3 hS))<|(zP)<|(zV (xfb 0 fd_247_0))<|(zV (xlb 0 pl_3 hS))<|zlv (Z2 (r:=(k*s)) (e:=rfl) (hr:=(by have h1:=Int.mul_nonneg k0 (show 0<=s by omega);have h2:=Int.mul_le_mul (show k<=4001 by omega) hs4 (by omega) (show 0<=(4001:Int) by omega);unfold I64;omega))) ?_
   have fD:=ZeT k0 hs
   have jR:0<=k*s/\k*s<=16008000:=by have h1:=Int.mul_nonneg k0 (show 0<=s by omega);have h2:=Int.mul_le_mul (show k<=4001 by omega) hs4 (by omega) (show 0<=(4001:Int) by omega);omega
   refine(zV (Zh (r:=r+(k*s))))<|(zV (xlb 1 pl_22 hS))<|(zV (xln Zb hN.slh))<|(zP)<|zlt<|Zf ?_ ?_<;>intro hc
   ·
    refine zsk<|ztn<|zsq<|zbk<|zsq<|zbk ?_
    have fL:=hdq.p
    refine zlp (fun mm M w=>∃(q3:Int) (wp:Value),mm=q3.toNat/\(DQp (fun j=>T (r+j*s)-j*y) m k q3 fq)/\(q3<=k)/\(Slh wp q3)/\M= [(2,.pointer (some ⟨g1,0,none⟩)),(3,.pointer (some ⟨g2,0,none⟩)),(4,.slice none 0 0),(5,v1),(6,.pointer (some ⟨g3,0,none⟩)),(7,wp),(8,.func (.func 231) #[] #[.pointer (some ⟨g2,0,none⟩),.pointer (some ⟨g3,0,none⟩),.pointer (some ⟨g1,0,none⟩)]),(9,.int .i64 k),(17,.int .i64 (min s n)),(18,.int .i64 r)]/\Sat w0 w [.blk g1 [.int .i64 s,.int .i64 y,.int .i64 m],.blk g2 [vN],.own v1 1 3 n (ints gg2),.blk g3 [.int .i64 r],.sem (Frame.dq 3 wp q3 fq)]) ⟨q,wq,rfl,?_,?_,?_,rfl,hS⟩ ?_
    ·
     exact fL
    ·
     exact hdq.len k0
    ·
     exact hwq
    clear hS w
    rintro mm M w ⟨q3,wp,rfl,hdp,hqk,hwp,rfl,hS⟩
    have jF:=hdp.q0
    refine zx11<|(zP)<|(zV (xln Zb hwp))<|(zP)<|(zP)<|zlb 36 ?_ ?_<;>intro hc
    ·
     refine(zP)<|(zP)<|(zP)<|(zV (xln Zb hwp))<|(zV (Zq (r:=q3-1)))<|(zV (xix (kk:=q3-1) Zb hwp))<|zlv (xlr (u:= .int .i64 (fq (q3-1))) pl_3 (Frame.dq.row (hS.dqOf 4 rfl))) ?_
     have hq9:=hdp.rng (q3-1) (by omega) (by omega)
     have jS:=RB hs r0 (show 0<=fq (q3-1) by omega) (show fq (q3-1)<=k by omega) (show r+k*s<n by omega)
     refine zlc (xcc (vs:= [_]) Uu) (Ux (k:=(fq (q3-1))) (n:=n) (T:=T) w (hS.holds _ (List.mem_of_getElem? (i:=1) rfl)) (hS.holds _ (List.mem_of_getElem? (i:=3) rfl)) (hS.holds _ (List.mem_of_getElem? (i:=0) rfl)) (hN.below hS.below) hTB hs hn4 hy (by omega) (by omega) (by omega)) ?_;rintro _ w ⟨rfl,hS'⟩
     replace hS:=hS.cmp hS';clear hS'
     refine(zP)<|(zP)<|zlc (xcc (vs:= [_]) Uu) (Ux (k:=k) (n:=n) (T:=T) w (hS.holds _ (List.mem_of_getElem? (i:=1) rfl)) (hS.holds _ (List.mem_of_getElem? (i:=3) rfl)) (hS.holds _ (List.mem_of_getElem? (i:=0) rfl)) (hN.below hS.below) hTB hs hn4 hy (by omega) (by omega) (by omega)) ?_;rintro _ w ⟨rfl,hS'⟩
     replace hS:=hS.cmp hS';clear hS'
     refine(zP)<|(zP)<|zlt<|Zf ?_ ?_<;>intro hc
     ·
      refine zsk<|ztn<|zbk<|zrg<|(zP)<|(zP)<|(zV (xln Zb hwp))<|(zV (Zq (r:=q3-1)))<|zlv (ZbB (i:=q3-1) (q3-1).toNat Zb hwp (Frame.dq.roomy (hS.dqOf 4 rfl))) ?_
      have zQ:=(RN (e:=q3-1) hwp (by omega) (by omega))
      replace hS:=hS.dqpre (n:=q3) 4 (q3-1).toNat (by omega)
      replace hS:=hS.dqn 4 (by omega:((q3-1).toNat:Int)=q3-1)
      refine(zP)<|zln<|zbn<|zlq ⟨q3-1,(TW wp (q3-1).toNat),rfl,?_,?_,?_,rfl,hS⟩
      ·
       exact hdp.pop (by omega) (by show T _-_<=T _-_;omega)
      ·
       omega
      ·
       exact zQ
     refine zx8<|(zP)<|(zP)<|zla (xli (n:=1) (len:=1) (pv:= [(0,.int .i64 k)]) (cs:= [.int .i64 k]) (c:=ints (fun _=>k)) Zb Zt hS) ?_;rintro v2 w ⟨hS,hv2⟩
     refine zla (Zjj 4 Zb Zt hS (hS.rowN 5 rfl)) ?_;rintro v3 w ⟨hS,hv3⟩
     have hda:=hdp.push k0 hm.1 (by show _<=_\/T _-_<T _-_;omega)
     have hdr:=hda.rng 0 (by omega) (by omega)
     refine(zP)<|zlt<|zsq<|zsq<|zdst [0,1,2,3,4,5] [0,1,2,3,4,5] 1000 mx_ hS ?_;clear hS;intro w hS
     refine(zDw 0 xmv)<|(zDw 1 (xix (kk:=0) Zb hv3))<|(zDl 2 (fun w hS=>(xlr (u:= .int .i64 ((snoc fq q3 k) 0)) pl_3 (Frame.dq.row (hS.dqOf 4 rfl)))))<|(zDw 3 xmv)<|(zDw 4 (xfb 2 fd_247_2))<|(zDl 5 (fun w hS=>(xlb 0 pl_3 hS)))<|(zDw 6 (Zq (r:=k-m)))<|(zDw 7 Z0)<|zdd<|ztn ?_
     refine Zf ?_ ?_<;>intro hc
     ·
      refine zrg<|zlv xmv ?_
      have hdm:=hda.more hm.1 (by omega)
      refine R5 rfl rfl rfl (YC (q:=1) rfl Zb rfl rfl rfl hv3 rfl (by omega) (by omega)) ?_
      have bT:=(RM (m:=q3) hv3 (Frame.dq.roomy (hS.dqOf 4 rfl)) (by omega) (by omega))
      replace hS:=hS.dqsuf (n:=q3+1) 4 1 (by omega)
      replace hS:=hS.dqn 4 (by omega:(q3+1-((1:Nat):Int):Int)=q3)
      replace hS:Sat w0 w [.blk g1 [.int .i64 s,.int .i64 y,.int .i64 m],.blk g2 [vN],.own v1 1 3 n (ints gg2),.blk g3 [.int .i64 r],.sem (Frame.dq 3 (Xd v3 1) q3 (fun z9=>(snoc fq q3 k) (z9+1))),.own v2 1 3 1 (ints (fun _=>k))]:=hS
      refine(zP)<|zlt<|zdst [0,1,2,3,4,5] [0,1,3,4,5] 18 mx_ hS ?_;clear hS;intro w hS
      refine zDrv 0 xmv ?_
      have yu:DQ (fun j=>T (r+j*s)-j*y) m (k+1) (q3) ((fun z9=>(snoc fq q3 k) (z9+1))):=hda.drop k0 hm.1 (by omega)
      have qM:=yu.best k0 hm.1
      have hb2:max 0 (k-m)<=((fun z9=>(snoc fq q3 k) (z9+1))) 0:=qM.2.1
      have hb3:((fun z9=>(snoc fq q3 k) (z9+1))) 0<=k:=qM.2.2.1
      have cQ:=RB hs r0 (show 0<=((fun z9=>(snoc fq q3 k) (z9+1))) 0 by omega) hb3 (show r+k*s<n by omega)
      have cN:=X6 k0 (by omega) hy.1 hy.2
      have cP:=X6 (show 0<=((fun z9=>(snoc fq q3 k) (z9+1))) 0 by omega) (by omega) hy.1 hy.2
      have cA:=hTB (r+((fun z9=>(snoc fq q3 k) (z9+1))) 0*s) (by omega) (by omega)
      refine(zDl 1 (fun w hS=>(xlb 2 pl_3 hS)))<|(zDw 2 xmv)<|(zDw 3 (xfb 0 fd_247_0))<|(zDl 4 (fun w hS=>(xlb 0 pl_3 hS)))<|(zDw 5 (Z2 (r:=(k*s)) (e:=rfl)))<|(zDw 6 (Zh (r:=r+(k*s))))<|(zDw 7 xmv)<|(zDw 8 xmv)<|(zDw 9 (xix (kk:=0) Zb bT))<|(zDl 10 (fun w hS=>(xlr (u:= .int .i64 ((fun z9=>(snoc fq q3 k) (z9+1)) 0)) pl_3 (Frame.dq.row (hS.dqOf 3 rfl)))))<|(zDw 12 xmv)<|(zDw 13 (xfb 1 fd_247_1))<|(zDl 14 (fun w hS=>(xlb 0 pl_3 hS)))<|(zDw 15 (Z2 (r:=(k*y)) (e:=rfl)))<|zdc 11 (xcc (vs:= [_]) Uu) (Ux (k:=((fun z9=>(snoc fq q3 k) (z9+1)) 0)) (n:=n) (T:=T) w (hS.holds _ (List.mem_of_getElem? (i:=1) rfl)) (hS.holds _ (List.mem_of_getElem? (i:=3) rfl)) (hS.holds _ (List.mem_of_getElem? (i:=0) rfl)) (hN.below hS.below) hTB hs hn4 hy (by omega) (by omega) (by omega)) ?_;rintro _ w ⟨rfl,hS'⟩
      replace hS:=hS.cmp hS';clear hS'
      refine⟨⟨fun _=>hS,hS.pk [0,1,3,4,5]⟩,?_⟩
      refine(zDw 16 (Zh (r:=(T (r+((fun z9=>(snoc fq q3 k) (z9+1)) 0)*s)-((fun z9=>(snoc fq q3 k) (z9+1)) 0)*y)+(k*y))))<|(zDw 17 (xix (kk:=r+(k*s)) Zb hv1))<|zde 18 (xso 2 pl_3 hS (Zx _ _ _)) ?_;clear hS;rintro w hS
      refine⟨⟨fun h=>absurd h (by decide),hS.pk [0,1,3,4,5]⟩,?_⟩
      refine zdd<|zbn<|ztn<|zrg ?_
      refine(zP)<|(zV (Zh (r:=k+1)))<|(zP)<|zln<|zlq ⟨q3,k+1,(upd gg2 (r+(k*s)) ((T (r+((fun z9=>(snoc fq q3 k) (z9+1)) 0)*s)-((fun z9=>(snoc fq q3 k) (z9+1)) 0)*y)+(k*y))),(Xd v3 1),(fun z9=>(snoc fq q3 k) (z9+1)),rfl,(by omega),(by omega),?_,?_,?_,rfl,hS.pk [0,1,2,3,4]⟩
      ·
       exact yu
      ·
       exact hLY.step hs r0 (by omega) k0 (U4 hs hm.1 r0 (by omega) k0 qM.2.1 qM.2.2.1 (fun j j0 j1=>qM.2.2.2 j j0 j1))
      ·
       exact bT
     refine zsk<|ztn<|zdst [0,1,2,3,4,5] [0,1,3,4,5] 18 mx_ hS ?_;clear hS;intro w hS
     refine zDrv 0 xmv ?_
     have yu:DQ (fun j=>T (r+j*s)-j*y) m (k+1) (q3+1) ((snoc fq q3 k)):=hda.keep k0 (by omega)
     have qM:=yu.best k0 hm.1
     have hb2:max 0 (k-m)<=((snoc fq q3 k)) 0:=qM.2.1
     have hb3:((snoc fq q3 k)) 0<=k:=qM.2.2.1
     have cQ:=RB hs r0 (show 0<=((snoc fq q3 k)) 0 by omega) hb3 (show r+k*s<n by omega)
     have cN:=X6 k0 (by omega) hy.1 hy.2
     have cP:=X6 (show 0<=((snoc fq q3 k)) 0 by omega) (by omega) hy.1 hy.2
     have cA:=hTB (r+((snoc fq q3 k)) 0*s) (by omega) (by omega)
     refine(zDl 1 (fun w hS=>(xlb 2 pl_3 hS)))<|(zDw 2 xmv)<|(zDw 3 (xfb 0 fd_247_0))<|(zDl 4 (fun w hS=>(xlb 0 pl_3 hS)))<|(zDw 5 (Z2 (r:=(k*s)) (e:=rfl)))<|(zDw 6 (Zh (r:=r+(k*s))))<|(zDw 7 xmv)<|(zDw 8 xmv)<|(zDw 9 (xix (kk:=0) Zb hv3))<|(zDl 10 (fun w hS=>(xlr (u:= .int .i64 ((snoc fq q3 k) 0)) pl_3 (Frame.dq.row (hS.dqOf 3 rfl)))))<|(zDw 12 xmv)<|(zDw 13 (xfb 1 fd_247_1))<|(zDl 14 (fun w hS=>(xlb 0 pl_3 hS)))<|(zDw 15 (Z2 (r:=(k*y)) (e:=rfl)))<|zdc 11 (xcc (vs:= [_]) Uu) (Ux (k:=((snoc fq q3 k) 0)) (n:=n) (T:=T) w (hS.holds _ (List.mem_of_getElem? (i:=1) rfl)) (hS.holds _ (List.mem_of_getElem? (i:=3) rfl)) (hS.holds _ (List.mem_of_getElem? (i:=0) rfl)) (hN.below hS.below) hTB hs hn4 hy (by omega) (by omega) (by omega)) ?_;rintro _ w ⟨rfl,hS'⟩
     replace hS:=hS.cmp hS';clear hS'
     refine⟨⟨fun _=>hS,hS.pk [0,1,3,4,5]⟩,?_⟩
     refine(zDw 16 (Zh (r:=(T (r+((snoc fq q3 k) 0)*s)-((snoc fq q3 k) 0)*y)+(k*y))))<|(zDw 17 (xix (kk:=r+(k*s)) Zb hv1))<|zde 18 (xso 2 pl_3 hS (Zx _ _ _)) ?_;clear hS;rintro w hS
     refine⟨⟨fun h=>absurd h (by decide),hS.pk [0,1,3,4,5]⟩,?_⟩
     refine zdd<|zbn<|ztn<|zrg ?_
     refine(zP)<|(zV (Zh (r:=k+1)))<|(zP)<|zln<|zlq ⟨q3+1,k+1,(upd gg2 (r+(k*s)) ((T (r+((snoc fq q3 k) 0)*s)-((snoc fq q3 k) 0)*y)+(k*y))),v3,(snoc fq q3 k),rfl,(by omega),(by omega),?_,?_,?_,rfl,hS.pk [0,1,2,3,4]⟩
     ·
      exact yu
     ·
      exact hLY.step hs r0 (by omega) k0 (U4 hs hm.1 r0 (by omega) k0 qM.2.1 qM.2.2.1 (fun j j0 j1=>qM.2.2.2 j j0 j1))
     ·
      exact hv3
    iterate 12 refine zlo ?_
    refine(zP)<|zlt<|zcf<|zxt<|ztx<|ztx<|zbh<|ztn<|zsr ?_
    refine(zP)<|(zP)<|zla (xli (n:=1) (len:=1) (pv:= [(0,.int .i64 k)]) (cs:= [.int .i64 k]) (c:=ints (fun _=>k)) Zb Zt hS) ?_;rintro v4 w ⟨hS,hv4⟩
    refine zla (Zjj 4 Zb Zt hS (hS.rowN 5 rfl)) ?_;rintro v5 w ⟨hS,hv5⟩
    have hda:=hdp.push k0 hm.1 (by show _<=_\/T _-_<T _-_;omega)
    have hdr:=hda.rng 0 (by omega) (by omega)
    refine(zP)<|zlt<|zsq<|zsq<|zdst [0,1,2,3,4,5] [0,1,2,3,4,5] 1000 mx_ hS ?_;clear hS;intro w hS
    refine(zDw 0 xmv)<|(zDw 1 (xix (kk:=0) Zb hv5))<|(zDl 2 (fun w hS=>(xlr (u:= .int .i64 ((snoc fq q3 k) 0)) pl_3 (Frame.dq.row (hS.dqOf 4 rfl)))))<|(zDw 3 xmv)<|(zDw 4 (xfb 2 fd_247_2))<|(zDl 5 (fun w hS=>(xlb 0 pl_3 hS)))<|(zDw 6 (Zq (r:=k-m)))<|(zDw 7 Z0)<|zdd<|ztn ?_
    refine Zf ?_ ?_<;>intro hc
    ·
     refine zrg<|zlv xmv ?_
     have hdm:=hda.more hm.1 (by omega)
     refine R5 rfl rfl rfl (YC (q:=1) rfl Zb rfl rfl rfl hv5 rfl (by omega) (by omega)) ?_
     have bS:=(RM (m:=q3) hv5 (Frame.dq.roomy (hS.dqOf 4 rfl)) (by omega) (by omega))
     replace hS:=hS.dqsuf (n:=q3+1) 4 1 (by omega)
     replace hS:=hS.dqn 4 (by omega:(q3+1-((1:Nat):Int):Int)=q3)
     replace hS:Sat w0 w [.blk g1 [.int .i64 s,.int .i64 y,.int .i64 m],.blk g2 [vN],.own v1 1 3 n (ints gg2),.blk g3 [.int .i64 r],.sem (Frame.dq 3 (Xd v5 1) q3 (fun z9=>(snoc fq q3 k) (z9+1))),.own v4 1 3 1 (ints (fun _=>k))]:=hS
     refine(zP)<|zlt<|zdst [0,1,2,3,4,5] [0,1,3,4,5] 18 mx_ hS ?_;clear hS;intro w hS
     refine zDrv 0 xmv ?_
     have yu:DQ (fun j=>T (r+j*s)-j*y) m (k+1) (q3) ((fun z9=>(snoc fq q3 k) (z9+1))):=hda.drop k0 hm.1 (by omega)
     have qM:=yu.best k0 hm.1
     have hb2:max 0 (k-m)<=((fun z9=>(snoc fq q3 k) (z9+1))) 0:=qM.2.1
     have hb3:((fun z9=>(snoc fq q3 k) (z9+1))) 0<=k:=qM.2.2.1
     have cQ:=RB hs r0 (show 0<=((fun z9=>(snoc fq q3 k) (z9+1))) 0 by omega) hb3 (show r+k*s<n by omega)
     have cN:=X6 k0 (by omega) hy.1 hy.2
     have cP:=X6 (show 0<=((fun z9=>(snoc fq q3 k) (z9+1))) 0 by omega) (by omega) hy.1 hy.2
     have cA:=hTB (r+((fun z9=>(snoc fq q3 k) (z9+1))) 0*s) (by omega) (by omega)
     refine(zDl 1 (fun w hS=>(xlb 2 pl_3 hS)))<|(zDw 2 xmv)<|(zDw 3 (xfb 0 fd_247_0))<|(zDl 4 (fun w hS=>(xlb 0 pl_3 hS)))<|(zDw 5 (Z2 (r:=(k*s)) (e:=rfl)))<|(zDw 6 (Zh (r:=r+(k*s))))<|(zDw 7 xmv)<|(zDw 8 xmv)<|(zDw 9 (xix (kk:=0) Zb bS))<|(zDl 10 (fun w hS=>(xlr (u:= .int .i64 ((fun z9=>(snoc fq q3 k) (z9+1)) 0)) pl_3 (Frame.dq.row (hS.dqOf 3 rfl)))))<|(zDw 12 xmv)<|(zDw 13 (xfb 1 fd_247_1))<|(zDl 14 (fun w hS=>(xlb 0 pl_3 hS)))<|(zDw 15 (Z2 (r:=(k*y)) (e:=rfl)))<|zdc 11 (xcc (vs:= [_]) Uu) (Ux (k:=((fun z9=>(snoc fq q3 k) (z9+1)) 0)) (n:=n) (T:=T) w (hS.holds _ (List.mem_of_getElem? (i:=1) rfl)) (hS.holds _ (List.mem_of_getElem? (i:=3) rfl)) (hS.holds _ (List.mem_of_getElem? (i:=0) rfl)) (hN.below hS.below) hTB hs hn4 hy (by omega) (by omega) (by omega)) ?_;rintro _ w ⟨rfl,hS'⟩
     replace hS:=hS.cmp hS';clear hS'
     refine⟨⟨fun _=>hS,hS.pk [0,1,3,4,5]⟩,?_⟩
     refine(zDw 16 (Zh (r:=(T (r+((fun z9=>(snoc fq q3 k) (z9+1)) 0)*s)-((fun z9=>(snoc fq q3 k) (z9+1)) 0)*y)+(k*y))))<|(zDw 17 (xix (kk:=r+(k*s)) Zb hv1))<|zde 18 (xso 2 pl_3 hS (Zx _ _ _)) ?_;clear hS;rintro w hS
     refine⟨⟨fun h=>absurd h (by decide),hS.pk [0,1,3,4,5]⟩,?_⟩
     refine zdd<|zbn<|ztn<|zrg ?_
     refine(zP)<|(zV (Zh (r:=k+1)))<|(zP)<|zln<|zlq ⟨q3,k+1,(upd gg2 (r+(k*s)) ((T (r+((fun z9=>(snoc fq q3 k) (z9+1)) 0)*s)-((fun z9=>(snoc fq q3 k) (z9+1)) 0)*y)+(k*y))),(Xd v5 1),(fun z9=>(snoc fq q3 k) (z9+1)),rfl,(by omega),(by omega),?_,?_,?_,rfl,hS.pk [0,1,2,3,4]⟩
     ·
      exact yu
     ·
      exact hLY.step hs r0 (by omega) k0 (U4 hs hm.1 r0 (by omega) k0 qM.2.1 qM.2.2.1 (fun j j0 j1=>qM.2.2.2 j j0 j1))
     ·
      exact bS
    refine zsk<|ztn<|zdst [0,1,2,3,4,5] [0,1,3,4,5] 18 mx_ hS ?_;clear hS;intro w hS
    refine zDrv 0 xmv ?_
    have yu:DQ (fun j=>T (r+j*s)-j*y) m (k+1) (q3+1) ((snoc fq q3 k)):=hda.keep k0 (by omega)
    have qM:=yu.best k0 hm.1
    have hb2:max 0 (k-m)<=((snoc fq q3 k)) 0:=qM.2.1
    have hb3:((snoc fq q3 k)) 0<=k:=qM.2.2.1
    have cQ:=RB hs r0 (show 0<=((snoc fq q3 k)) 0 by omega) hb3 (show r+k*s<n by omega)
    have cN:=X6 k0 (by omega) hy.1 hy.2
    have cP:=X6 (show 0<=((snoc fq q3 k)) 0 by omega) (by omega) hy.1 hy.2
    have cA:=hTB (r+((snoc fq q3 k)) 0*s) (by omega) (by omega)
    refine(zDl 1 (fun w hS=>(xlb 2 pl_3 hS)))<|(zDw 2 xmv)<|(zDw 3 (xfb 0 fd_247_0))<|(zDl 4 (fun w hS=>(xlb 0 pl_3 hS)))<|(zDw 5 (Z2 (r:=(k*s)) (e:=rfl)))<|(zDw 6 (Zh (r:=r+(k*s))))<|(zDw 7 xmv)<|(zDw 8 xmv)<|(zDw 9 (xix (kk:=0) Zb hv5))<|(zDl 10 (fun w hS=>(xlr (u:= .int .i64 ((snoc fq q3 k) 0)) pl_3 (Frame.dq.row (hS.dqOf 3 rfl)))))<|(zDw 12 xmv)<|(zDw 13 (xfb 1 fd_247_1))<|(zDl 14 (fun w hS=>(xlb 0 pl_3 hS)))<|(zDw 15 (Z2 (r:=(k*y)) (e:=rfl)))<|zdc 11 (xcc (vs:= [_]) Uu) (Ux (k:=((snoc fq q3 k) 0)) (n:=n) (T:=T) w (hS.holds _ (List.mem_of_getElem? (i:=1) rfl)) (hS.holds _ (List.mem_of_getElem? (i:=3) rfl)) (hS.holds _ (List.mem_of_getElem? (i:=0) rfl)) (hN.below hS.below) hTB hs hn4 hy (by omega) (by omega) (by omega)) ?_;rintro _ w ⟨rfl,hS'⟩
    replace hS:=hS.cmp hS';clear hS'
    refine⟨⟨fun _=>hS,hS.pk [0,1,3,4,5]⟩,?_⟩
    refine(zDw 16 (Zh (r:=(T (r+((snoc fq q3 k) 0)*s)-((snoc fq q3 k) 0)*y)+(k*y))))<|(zDw 17 (xix (kk:=r+(k*s)) Zb hv1))<|zde 18 (xso 2 pl_3 hS (Zx _ _ _)) ?_;clear hS;rintro w hS
    refine⟨⟨fun h=>absurd h (by decide),hS.pk [0,1,3,4,5]⟩,?_⟩
    refine zdd<|zbn<|ztn<|zrg ?_
    refine(zP)<|(zV (Zh (r:=k+1)))<|(zP)<|zln<|zlq ⟨q3+1,k+1,(upd gg2 (r+(k*s)) ((T (r+((snoc fq q3 k) 0)*s)-((snoc fq q3 k) 0)*y)+(k*y))),v5,(snoc fq q3 k),rfl,(by omega),(by omega),?_,?_,?_,rfl,hS.pk [0,1,2,3,4]⟩
    ·
     exact yu
    ·
     exact hLY.step hs r0 (by omega) k0 (U4 hs hm.1 r0 (by omega) k0 qM.2.1 qM.2.2.1 (fun j j0 j1=>qM.2.2.2 j j0 j1))
    ·
     exact hv5
   refine zx21<|(zV (Zh (r:=r+1)))<|(zP)<|zln<|zlq ⟨r+1,gg2,rfl,(by omega),(by omega),?_,rfl,hS.pk [0,1,2]⟩
   ·
    exact hLY.fin (by omega)
  refine zx8<|(zP)<|(zP)<|zx1<|zf1 ⟨_,rfl,?_⟩
  obtain⟨hs1,hs2⟩:r=min s n/\r<=n:=by omega
  replace hS:=hS.recont 2 rfl (d:=ints (R T s y m.toNat)) (fun c c0 c1=>by
    unfold ints;rw [hg c c0 (by omega) (by rcases Int.lt_or_le c s with h1|h1;rw [Int.emod_eq_of_lt c0 h1];omega;have:=Int.emod_lt_of_pos c (show 0<s by omega);omega)])
  exact⟨_,rfl,hv1,hS.pk [2]⟩
end Go.Proofs.YtkichmnjjblodaaGreat
namespace Go.Proofs.YtkichmnjjblodaaGreat
open Go Go.RowKit Go.Proofs.Gw
theorem Zkm:Zc Tryz.prog 223=true:=by kernel_rfl
theorem Sat.revrows{w w0:World}{l:List Ent}{E:TypeId}{n:Int}{vv:Int->Value}{ln:Int->Int}{f:Int->Int->Int}(i:Nat)(h:Sat w0 w l)(hi:l[i]? =some (.sem (Frame.rows E n vv ln f))):Sat w0 w (l.set i (.sem (Frame.rows E n (fun k=>vv (n-1-k)) (fun k=>ln (n-1-k)) (fun k=>f (n-1-k))))):=
  h.resem i hi (fun⟨h1,h2⟩=>⟨fun k k0 k1=>h1 (n-1-k) (by omega) (by omega),fun a b a0 a1 b0 b1 hab=>h2 (n-1-a) (n-1-b) (by omega) (by omega) (by omega) (by omega) (by omega)⟩) fun g ⟨k,k0,k1,hk⟩=>⟨n-1-k,by omega,by omega,hk⟩
theorem Zjq{w:World}{v:Value}{n:Int}{f g:Int->Int}(h:Row w v 1 n (ints f))(e:f=g):Row w v 1 n (ints g):=e▸h
theorem Zgr{vI:Value}{t:Its}{cap:Int}(w0:World)(hI:Row w0 vI 3 t.n (ZX t.S t.V t.M))(hk:t.Ok cap):
    Calls Tryz.prog 210 [vI,.int .i64 cap].toArray w0 fun e w=>∃v,e= .returned v/\∃r vv,v=r/\Slh r (t.n+1)/\Sat w0 w [.own r 1 22 (t.n+1) vv,.sem (Frame.rows 3 (t.n+1) vv (fun _=>cap+1) (KI t))]:=by
  have hn:=hI.slh.n0
  have hk1:=hk.n;have hk2:=hk.c0;have hk3:=hk.c1
  refine zenG Tryz.func210 Tryz.ntmps210 fun w hS=> ?_
  refine zsr<|(zP)<|zlz<|(zP)<|(zV (xln XE hI.slh))<|(zV (Zh (r:=t.n+1)))<|zla (xmk Zm Ya hS) ?_;rintro v1 w ⟨hS,hv1⟩
  refine(zP)<|zlz<|(zP)<|(zP)<|(zV (xln XE hI.slh))<|(zP)<|(zV (Zh (r:=cap+1)))<|zla (xmk Zb Zt hS) ?_;rintro v2 w ⟨hS,hv2⟩
  refine(zV (xix (kk:=t.n) Zm hv1))<|zle (xso 0 pl_22 hS rfl (hv:=hv2.one)) ?_;clear hS;rintro w hS
  refine zx5<|(zP)<|(zV (xln XE hI.slh))<|(zV (Zq (r:=t.n-1)))<|(zP)<|zx6 ?_
  replace hS:=hS.addrows 3 (fun _=>Value.slice none 0 0) (fun _=>cap+1) (fun j=>KI t (t.n-j))
  have aL:=fun k (k0:0<=k) (k1:k<0)=>hS.slhIn 2 rfl k0 k1
  replace hS:=Sat.merge2 (l1:= [_]) (l2:= []) (l3:= []) hS (by omega)
  have qY:=fun k (k0:0<=k) (k1:k<1)=>hS.slhIn 1 rfl k0 k1
  replace hS:=hS.rerows (vv':=gsn (fun _=>Value.slice none 0 0) 0 v2) (ln':=fun _=>cap+1) (f':=fun j=>KI t (t.n-j)) 1 rfl (fun k k0 k1=>by
    by_cases e:k<0
    · exact⟨rfl,ZA e,fun j _ _=>by rw [ZA e]⟩
    · have hk9:k=0:=by omega
      refine⟨rfl,ZJ e,fun j _ _=> ?_⟩
      rw [ZJ e,hk9];rw [show t.n-(0:Int)=t.n by omega,ZgV])
  have gQ:=fun k (k0:0<=k) (k1:k<1)=>hS.slhIn 1 rfl k0 k1
  refine zlp (fun mm M w=>∃(nC:Int) (wv:Int->Value) (rv:Int->Value) (i:Int),mm=((i+1).toNat)/\(-1<=i)/\(i<=t.n-1)/\(nC=t.n-i)/\(∀j,0<=j->j<nC->wv (t.n-j)=rv j)/\M= [(0,vI),(4,.slice none 0 0),(5,v1),(6,.int .i64 i)]/\Sat w0 w [.own v1 1 22 (t.n+1) wv,.sem (Frame.rows 3 nC rv (fun _=>cap+1) (fun j=>KI t (t.n-j)))]) ⟨1,upd (fun _=> .slice none 0 0) t.n (v2),gsn (fun _=>Value.slice none 0 0) 0 v2,(t.n-1),rfl,(by omega),(by omega),(by omega),?_,rfl,hS⟩ ?_
  ·
   intro j j0 j1;obtain rfl:j=0:=by omega
   rw [show t.n-(0:Int)=t.n by omega,gu_self,ZJ (by omega)]
  clear hS w
  rintro mm M w ⟨nC,wv,rv,i,rfl,i0,i1,hnC,hwv,rfl,hS⟩
  have yz:=fun k (k0:0<=k) (k1:k<nC)=>hS.slhIn 1 rfl k0 k1
  refine zx11<|(zP)<|(zP)<|zlt<|Zf ?_ ?_<;>intro hc
  ·
   refine zx29<|zdst [0,1] [1] 13 mx_ hS ?_;clear hS;intro w hS
   refine(zDw 0 xmv)<|(zDw 1 xmv)<|(zDw 2 xmv)<|(zDw 3 xmv)<|(zDw 4 (xix (kk:=3*i) XE hI.slh))<|zdla 5 (fun w hS=>(xlw (cs:= [.int .i64 (t.S i),.int .i64 (t.V i),.int .i64 (t.M i)]) Kh (hI.below hS.below) (Ut (k:=3*i) (i:=i) t.S t.V t.M (by omega)))) ?_
   have hev:=hk.all i (by omega) (by omega);unfold Its.each Xa at hev
   refine(zDw 6 xmv)<|(zDw 7 xmv)<|(zDw 8 (Zh (r:=i+1)))<|(zDw 9 (xix (kk:=i+1) Zm hv1))<|zdl 10 (fun w hS=>(xlr (u:=(rv (t.n-i-1))) pl_22 (hS.rowN 0 rfl) (e:=(by have:=hwv (t.n-i-1) (by omega) (by omega);rwa [show t.n-(t.n-i-1)=i+1 by omega] at this)))) ?_
   refine zdc 11 (xc0 Zkm) (Zik (n:=cap+1) (s:=(t.S i)) (y:=(t.V i)) (m:=(t.M i)) (T:=KI t (i+1)) w (Zjq (hS.rowIn (k:=t.n-i-1) 1 rfl (by omega) (by omega)) (by show KI t (t.n-(t.n-i-1))=_;congr 1;omega)) (fun c c0 c1=>by have:=Wi hk (i:=i+1) (by omega) (by omega) c0;omega) (by omega) (by omega) (by omega) (by omega) (by omega)) ?_;rintro aj w ⟨_,rfl,cm,hS'⟩
   replace hS:=(hS.comp hS').n3;clear hS'
   refine⟨⟨fun _=>hS.pk [0,1],hS.pk [1]⟩,?_⟩
   refine(zDw 12 (xix (kk:=i) Zm hv1))<|zde 13 (xso 0 pl_22 hS rfl (hv:=cm.one)) ?_;clear hS;rintro w hS
   refine⟨⟨fun h=>absurd h (by decide),hS.pk [1]⟩,?_⟩
   refine zdd<|zbn<|ztn<|zrg ?_
   refine(zP)<|(zV (Zq (r:=i-1)))<|(zP)<|zln ?_
   replace hS:=Sat.merge (l1:= [_]) (l2:= []) (l3:= []) hS (by omega)
   have jE:=fun k (k0:0<=k) (k1:k<nC+1)=>hS.slhIn 1 rfl k0 k1
   replace hS:=hS.rerows (vv':=gsn rv nC aj) (ln':=fun _=>cap+1) (f':=fun j=>KI t (t.n-j)) 1 rfl (fun k k0 k1=>by
     by_cases e:k<nC
     · exact⟨rfl,ZA e,fun j _ _=>by rw [ZA e]⟩
     · have hk9:k=nC:=by omega
       refine⟨rfl,ZJ e,fun j _ _=> ?_⟩
       rw [ZJ e,hk9];rw [hnC,show t.n-(t.n-i)=i by omega,Zdm t (i:=i) (by omega) (by omega)])
   have gP:=fun k (k0:0<=k) (k1:k<nC+1)=>hS.slhIn 1 rfl k0 k1
   refine zlq ⟨nC+1,upd wv i (aj),gsn rv nC aj,i-1,rfl,(by omega),(by omega),(by omega),?_,rfl,hS⟩
   ·
    intro j j0 j1;by_cases e:j=nC
    · rw [e,hnC,show t.n-(t.n-i)=i by omega,gu_self,ZJ (by omega)]
    · rw [gu_ne (by omega),ZA (by omega)];exact hwv j j0 (by omega)
  refine zx8<|(zP)<|(zP)<|zx1<|zf1 ⟨_,rfl,?_⟩
  obtain rfl:i= -1:=by omega
  obtain rfl:nC=t.n+1:=by omega
  replace hS:=Sat.revrows 1 hS rfl
  replace hS:=hS.rerows (vv':=wv) (ln':=fun _=>cap+1) (f':=KI t) 1 rfl (fun k k0 k1=>⟨by rw [<-hwv _ (by omega) (by omega)];congr 1;omega,rfl,fun j _ _=>by show KI t (t.n-(t.n+1-1-k)) j=_;congr 1;omega⟩)
  exact⟨_,_,rfl,hv1,hS.pk [0,1]⟩
end Go.Proofs.YtkichmnjjblodaaGreat
namespace Go.Proofs.YtkichmnjjblodaaGreat
open Go Go.RowKit Go.Proofs.Gw
variable {cap i j:Int}
theorem Zkx:Zc Tryz.prog 209=true:=by kernel_rfl
theorem Zkw:Zc Tryz.prog 210=true:=by kernel_rfl
theorem ZbX:ZW Tryz.prog 247=some (.agg #[.int .i64 0,.int .i64 0,.int .i64 0],3,24):=by kernel_rfl
def ZnC(t:Its)(cap n:Int)(x:Int->Int)(val e:Int):Prop:=(¬t.Ok cap/\n=0/\val=0/\e=1)\/(t.Ok cap/\n=t.n/\KX t cap x t.n/\val=KI t 0 cap/\e=0)
theorem ZcG{t:Its}(hk:t.Ok cap){c:Int}(i0:0<=i)(i1:i<t.n)(j0:0<=j)(j1:j<=c.tdiv (t.S i))(c0:0<=c):0<=j*t.S i/\j*t.S i<=c:=by
  have he:=hk.all i i0 i1
  unfold Its.each Xa at he
  have hq:=Yv (a:=c) (b:=t.S i) c0 he.1
  have h1:=Int.mul_nonneg j0 (show 0<=t.S i by omega)
  have h2:=Int.mul_le_mul_of_nonneg_right j1 (show 0<=t.S i by omega)
  omega
theorem ZeV{t:Its}(hk:t.Ok cap){c:Int}(i0:0<=i)(i1:i<t.n)(h:j*t.S i<=c)(c0:0<=c):j<=c.tdiv (t.S i):=by
  have he:=hk.all i i0 i1
  unfold Its.each Xa at he
  rw [Int.tdiv_eq_ediv_of_nonneg c0]
  exact(Int.le_ediv_iff_mul_le (by omega)).2 h
theorem ZeU{t:Its}(hk:t.Ok cap)(i0:0<=i)(i1:i<t.n)(j0:0<=j)(j1:j<=4001):0<=j*t.V i/\j*t.V i<=4296041037824:=by
  have he:=hk.all i i0 i1
  unfold Its.each Xa at he
  exact X6 j0 j1 he.2.2.1 he.2.2.2.1
theorem Zgt{vI:Value}{t:Its}(w0:World)(hI:Row w0 vI 3 t.n (ZX t.S t.V t.M)):
    Calls Tryz.prog 192 [vI,.int .i64 cap].toArray w0 fun e w=>∃v,e= .returned v/\∃r n x val e,v= .tuple #[r,.int .i64 val,.int .i64 e]/\ZnC t cap n x val e/\Slh r n/\Sat w0 w [.own r 1 3 n (ints x)]:=by
  have hn:=hI.slh.n0
  refine zenG Tryz.func192 Tryz.ntmps192 fun w hS=> ?_
  refine zsr<|(zP)<|(zP)<|(zP)<|zx5<|(zP)<|(zP)<|zlc (xc0 Zkx) (Zgs (t:=t) (cap:=cap) w (hI.below hS.below)) ?_;rintro _ w ⟨rfl,hS'⟩
  replace hS:=hS.cmp hS';clear hS'
  refine(zP)<|zlt<|Zf ?_ ?_<;>intro hc
  ·
   refine zsr<|(zP)<|(zP)<|(zP)<|zx14<|zf3 ⟨_,rfl,?_⟩
   exact⟨_,0,fun _=>0,0,1,rfl,.inl ⟨‹¬t.Ok cap›,rfl,rfl,rfl⟩,slh_nil,(hS.addnil 1 3 (ints fun _=>0)).pk [0]⟩
  refine ZT<|zlv xmv ?_
  have hk:t.Ok cap:=by first|assumption|exact Classical.not_not.1 ‹_›
  refine(zP)<|zlc (xc0 Zkw) (Zgr (t:=t) (cap:=cap) w (hI.below hS.below) hk) ?_;rintro yF w ⟨_,yf,rfl,yK,hS'⟩
  replace hS:=(hS.comp hS').n2;clear hS'
  have zr:=fun k (k0:0<=k) (k1:k<(t.n+1))=>hS.slhIn 1 rfl k0 k1
  refine(zP)<|zlz<|(zP)<|(zP)<|zx5<|(zP)<|(zV (xln XE hI.slh))<|(zP)<|zx6 ?_
  replace hS:=hS.addnil 1 3 (ints (fun _=>0))
  have hk1:=hk.n;have hk2:=hk.c0;have hk3:=hk.c1
  refine zlp (fun mm M w=>∃(nx:Int) (c:Int) (i:Int) (wx:Value) (fx:Int->Int),mm=((t.n-i).toNat)/\(0<=i)/\(i<=t.n)/\(nx=i)/\(0<=c)/\(c<=cap)/\(c=cap-KU t fx i.toNat)/\(KX t cap fx i)/\(Slh wx nx)/\M= [(1,.int .i64 cap),(4,wx),(5,.int .i64 0),(6,.int .i64 0),(7,yF),(8,.int .i64 c),(20,vI),(21,.int .i64 t.n),(22,.int .i64 i)]/\Sat w0 w [.own yF 1 22 (t.n+1) yf,.sem (Frame.rows 3 (t.n+1) yf (fun _=>cap+1) (KI t)),.own wx 1 3 nx (ints fx)]) ⟨0,cap,0,(.slice none 0 0),(fun _=>0),rfl,(by omega),(by omega),(by omega),(by omega),(by omega),?_,?_,?_,rfl,hS⟩ ?_
  ·
   show cap=cap-0;omega
  ·
   intro k k0 k1;omega
  ·
   exact slh_nil
  clear hS w
  rintro mm M w ⟨nx,c,i,wx,fx,rfl,i0,i1,hnx,c0,c1,hcu,hkx,hwx,rfl,hS⟩
  refine zsr<|(zP)<|zx7<|Zf ?_ ?_<;>intro hc
  ·
   refine zx3<|(zP)<|(zV (xix (kk:=3*i) XE hI.slh))<|zlv (xlw (cs:= [.int .i64 (t.S i),.int .i64 (t.V i),.int .i64 (t.M i)]) Kh (hI.below hS.below) (Ut (k:=3*i) (i:=i) t.S t.V t.M (by omega))) ?_
   have hev:=hk.all i i0 (by omega);unfold Its.each Xa at hev
   obtain⟨j0,hj0,hj1,hj2,hj3⟩:=ZnD hk i0 (by omega:i<t.n) (c:=c) (by omega)
   have hjd:=ZeV hk i0 (by omega:i<t.n) hj2 (by omega)
   have hqf:=Yv (a:=c) (b:=t.S i) (by omega) hev.1
   refine zla (xal (cs:= [_,_,_]) ZbX hS) ?_;rintro _ w ⟨g1,rfl,hS⟩
   refine(zP)<|zle (xsw 3 Kh hS) ?_;clear hS;rintro w hS
   refine zx7<|zdst [0,1,2,3] [0,1,2,3] 1000 mx_ hS ?_;clear hS;intro w hS
   refine(zDw 0 (xfb 2 fd_247_2))<|(zDl 1 (fun w hS=>(xlb 3 pl_3 hS)))<|(zDw 2 xmv)<|(zDw 3 (xfb 0 fd_247_0))<|(zDl 4 (fun w hS=>(xlb 3 pl_3 hS)))<|(zDw 5 (VB (r:=(Int.tdiv c (t.S i)))))<|(zDw 6 (U5 (r:=(min (t.M i) (Int.tdiv c (t.S i))))))<|(zDw 7 xas)<|zdd<|ztn<|zsq<|zbk<|zlp (fun mm M w=>∃(n:Int),mm=((n-j0).toNat)/\(j0<=n)/\(n<=min (t.M i) (c.tdiv (t.S i)))/\(∀j,n<j->j<=t.M i->j*t.S i<=c->KI t (i+1) (c-j*t.S i)+j*t.V i≠KI t i c)/\M= [(1,.int .i64 cap),(4,wx),(5,.int .i64 0),(6,.int .i64 0),(7,yF),(8,.int .i64 c),(9,.int .i64 i),(10,.pointer (some ⟨g1,0,none⟩)),(11,.int .i64 n),(20,vI),(21,.int .i64 t.n),(22,.int .i64 i)]/\Sat w0 w [.own yF 1 22 (t.n+1) yf,.sem (Frame.rows 3 (t.n+1) yf (fun _=>cap+1) (KI t)),.own wx 1 3 nx (ints fx),.blk g1 [.int .i64 (t.S i),.int .i64 (t.V i),.int .i64 (t.M i)]]) ⟨(min (t.M i) (c.tdiv (t.S i))),rfl,(by omega),(by omega),?_,rfl,hS⟩ ?_
   ·
    intro j h1 h2 h3;have:=ZeV hk i0 (by omega:i<t.n) h3 (by omega);omega
   clear hS w
   rintro mm M w ⟨n,rfl,hnj,hnm,qa,rfl,hS⟩
   refine zsq<|zsq<|zdst [0,1,2,3] [0,1,2,3] 1000 mx_ hS ?_;clear hS;intro w hS
   refine(zDw 0 xmv)<|(zDw 1 xmv)<|(zDw 2 (Zh (r:=i+1)))<|(zDw 3 (xix (kk:=i+1) Zm yK))<|(zDl 4 (fun w hS=>(xlr (u:=(yf (i+1))) pl_22 (hS.rowN 0 rfl))))<|(zDw 5 xmv)<|zDrv 6 xmv ?_
   have hjs:=ZcG hk i0 (by omega:i<t.n) (show 0<=n by omega) (show n<=c.tdiv (t.S i) by omega) (by omega)
   have hjv:=ZeU hk i0 (by omega:i<t.n) (show 0<=n by omega) (by omega)
   have hkb:=Wi hk (i:=i+1) (by omega) (by omega) (c:=c-n*t.S i) (by omega)
   have hkc:=Wi hk (i:=i) (by omega) (by omega) (c:=c) (by omega)
   refine(zDw 7 (xfb 0 fd_247_0))<|(zDl 8 (fun w hS=>(xlb 3 pl_3 hS)))<|(zDw 9 (Z2 (r:=(n*(t.S i))) (e:=rfl)))<|(zDw 10 (Zq (r:=c-(n*(t.S i)))))<|(zDw 11 (xix (kk:=c-(n*(t.S i))) Zb (zr (i+1) (by omega) (by omega))))<|(zDl 12 (fun w hS=>(xlr (u:= .int .i64 ((KI t) (i+1) (c-(n*(t.S i))))) pl_3 (hS.rowIn (k:=i+1) 1 rfl (by omega) (by omega)))))<|(zDw 13 xmv)<|(zDw 14 (xfb 1 fd_247_1))<|(zDl 15 (fun w hS=>(xlb 3 pl_3 hS)))<|(zDw 16 (Z2 (r:=(n*(t.V i))) (e:=rfl)))<|(zDw 17 (Zh (r:=((KI t) (i+1) (c-(n*(t.S i))))+(n*(t.V i)))))<|(zDw 18 xmv)<|(zDw 19 xmv)<|(zDw 20 (xix (kk:=i) Zm yK))<|zdla 21 (fun w hS=>(xlr (u:=(yf i)) pl_22 (hS.rowN 0 rfl))) ?_
   refine(zDw 22 xmv)<|(zDw 23 (xix (kk:=c) Zb (zr i (by omega) (by omega))))<|(zDl 24 (fun w hS=>(xlr (u:= .int .i64 ((KI t) i c)) pl_3 (hS.rowIn (k:=i) 1 rfl (by omega) (by omega)))))<|(zDw 25 YY)<|zdd<|ztn ?_
   refine Zf ?_ ?_<;>intro hc
   ·
    refine zsk<|ztn<|zbk<|zrg<|(zP)<|(zV (Zq (r:=n-1)))<|(zP)<|zln<|zbn ?_
    have hne:j0≠n:=fun hh=>by rw [hh] at hj3;omega
    refine zlq ⟨n-1,rfl,(by omega),(by omega),?_,rfl,hS⟩
    ·
     intro j h1 h2 h3;by_cases e:j=n
     · rw [e];assumption
     · exact qa j (by omega) h2 h3
   refine zx8<|zlv xmv ?_
   have hjs:=ZcG hk i0 (by omega:i<t.n) (show 0<=n by omega) (show n<=c.tdiv (t.S i) by omega) (by omega)
   have hjv:=ZeU hk i0 (by omega:i<t.n) (show 0<=n by omega) (by omega)
   have hkb:=Wi hk (i:=i+1) (by omega) (by omega) (c:=c-n*t.S i) (by omega)
   have hkc:=Wi hk (i:=i) (by omega) (by omega) (c:=c) (by omega)
   have hqe:KI t (i+1) (c-n*t.S i)+n*t.V i=KI t i c:=by omega
   refine(zP)<|zla (xli (n:=1) (len:=1) (pv:= [(0,.int .i64 n)]) (cs:= [.int .i64 n]) (c:=ints (fun _=>n)) Zb Zt hS) ?_;rintro v1 w ⟨hS,hv1⟩
   refine zla (xap 2 (r:=nx+1) Zb Zt hS (hS.rowN 4 rfl) (Yu _ _ _)) ?_;rintro v2 w ⟨hS,hv2⟩
   refine(zP)<|zlt<|zrg<|(zP)<|(zP)<|(zV (xfb 0 fd_247_0))<|(zV (xlb 3 pl_3 hS))<|(zV (Z2 (r:=(n*(t.S i))) (e:=rfl)))<|(zV (Zq (r:=c-(n*(t.S i)))))<|(zP)<|zx10<|(zV (Zh (r:=i+1)))<|(zP)<|zln<|zlq ⟨nx+1,c-(n*(t.S i)),i+1,v2,(snoc fx nx n),rfl,(by omega),(by omega),(by omega),(by omega),(by omega),?_,?_,?_,rfl,hS.pk [0,1,2]⟩
   ·
    rw [hnx,ZiK t fx n i0];omega
   ·
    rw [hnx];rw [hcu] at qa hjs hqe;exact KX.snoc hkx i0 (by omega) (by omega) (by omega) hqe (fun j j0 j1 j2=>qa j j0 j1 j2)
   ·
    exact hv2
  refine zxt<|ztx<|ztx<|zbh<|ztn<|zsq<|zdst [0,1,2] [0,1,2] 1000 mx_ hS ?_;clear hS;intro w hS
  refine(zDw 0 xmv)<|(zDw 1 xmv)<|zDrv 2 (xix (kk:=0) Zm yK) ?_
  have hk0:=Wi hk (i:=0) (by omega) (by omega) (c:=cap) (by omega)
  refine(zDl 3 (fun w hS=>(xlr (u:=(yf 0)) pl_22 (hS.rowN 0 rfl))))<|(zDw 4 xmv)<|(zDw 5 (xix (kk:=cap) Zb (zr 0 (by omega) (by omega))))<|(zDl 6 (fun w hS=>(xlr (u:= .int .i64 ((KI t) 0 cap)) pl_3 (hS.rowIn (k:=0) 1 rfl (by omega) (by omega)))))<|(zDw 7 xas)<|(zDw 8 xas)<|(zDw 9 xas)<|zdd<|ztn<|zrt<|zf3 ⟨_,rfl,?_⟩
  obtain rfl:i=t.n:=by omega
  subst hnx
  exact⟨_,_,_,_,0,rfl,.inr ⟨hk,rfl,hkx,rfl,rfl⟩,hwx,hS.pk [2]⟩
end Go.Proofs.YtkichmnjjblodaaGreat
namespace Go.Proofs.YtkichmnjjblodaaGreat
open Go Go.RowKit Go.Proofs.Gw
variable {y:Int->Int}
theorem ZkH:Zc Tryz.prog 191=true:=by kernel_rfl
theorem ZkG:Zc Tryz.prog 192=true:=by kernel_rfl
theorem Zky:Zc Tryz.prog 208=true:=by kernel_rfl
def Ts(n:Int):Prop:=n<0\/1073741824<n
def T3(p:Prob)(n:Int)(y:Int->Int):Prop:=p.Ok/\n=p.m/\Wy p y
def X0(p:Prob)(y:Int->Int):Its:=⟨p.m,fun i=>p.L i+p.kerf,y,p.D⟩
theorem Zjy{p:Prob}(hp:p.Ok)(hy:Wy p y):(X0 p y).Ok (p.stock+p.kerf):=by
  have h1:=hp.m2;have h2:=hp.s1;have h3:=hp.s2;have h4:=hp.k1;have h5:=hp.k2
  refine⟨h1,by omega,by omega,fun i i0 i1=> ?_⟩
  have h6:=hp.all i i0 i1
  have h7:=hy i i0 i1
  unfold Prob.each at h6
  show Xa (p.L i+p.kerf) (y i) (p.D i)
  unfold Xa;omega
def WC(p:Prob)(y:Int->Int):Int:=KI (X0 p y) 0 (p.stock+p.kerf)
noncomputable def aC(p:Prob)(y:Int->Int):Int->Int:= @dite _ (∃x,KX (X0 p y) (p.stock+p.kerf) x p.m) (Classical.propDecidable _) (fun h=>Classical.choose h) fun _ _=>0
theorem Zny{p:Prob}(hm:0<=p.m){x:Int->Int}(h:KX (X0 p y) (p.stock+p.kerf) x p.m):∀i,0<=i->i<p.m->x i=aC p y i:=by
  have hex:∃x,KX (X0 p y) (p.stock+p.kerf) x p.m:=⟨x,h⟩
  have h2:=Classical.choose_spec hex
  unfold aC
  rw [dif_pos hex]
  intro i i0 i1
  exact KX.same (n:=p.m.toNat) (by rw [Int.toNat_of_nonneg hm];exact h) (by rw [Int.toNat_of_nonneg hm];exact h2) i i0 (by omega)
def Zcn(p:Prob)(n:Int)(y:Int->Int)(na:Int)(a:Int->Int)(worth e:Int):Prop:=(¬T3 p n y/\na=0/\worth=0/\e=1)\/(T3 p n y/\na=p.m/\a=aC p y/\(∃x,KX (X0 p y) (p.stock+p.kerf) x p.m)/\worth=WC p y/\e=0)
theorem ZlC{x:Int}(w0:World):
    Calls Tryz.prog 208 [.int .i64 x].toArray w0 fun e w=>∃v,e= .returned v/\v=B (Ts x)/\Sat w0 w []:=by
  refine zenG Tryz.func208 Tryz.ntmps208 fun w hS=> ?_
  refine zsr<|(zP)<|zlz<|(zP)<|(zP)<|(zP)<|zlb 5 ?_ ?_<;>intro hc
  ·
   refine(zO)<|(zO)<|(zP)<|(zP)<|zx1<|zf1 ⟨_,rfl,?_⟩
   exact⟨Z7 (by unfold Ts;omega),hS⟩
  refine zs4 ?_
  refine zx1<|zf1 ⟨_,rfl,?_⟩
  exact⟨Zk (by unfold Ts;omega),hS⟩
theorem Zil{v:Value}{n:Int}{f:Int->Int}(w0:World)(hR:Row w0 v 1 n (ints f)):
    Calls Tryz.prog 159 [v,.func (.func 208) #[] #[]].toArray w0 fun e w=>∃v,e= .returned v/\∃r:Int,v= .int .i64 r/\((r= -1/\∀k,0<=k->k<n->¬(Ts (f k)))\/(0<=r/\r<n/\(Ts (f r))))/\Sat w0 w []:=by
  have hn:=hR.slh.n0;have hn1:=hR.slh.n1
  refine zenG Tryz.func159 Tryz.ntmps159 fun w hS=> ?_
  refine zsr<|(zP)<|zx5<|(zP)<|(zV (xln Zb hR.slh))<|(zP)<|zx6<|zlp (fun mm M w=>∃(i:Int),mm=((n-i).toNat)/\(0<=i)/\(i<=n)/\(∀k,0<=k->k<i->¬(Ts (f k)))/\M= [(0,v),(1,.func (.func 208) #[] #[]),(7,.int .i64 n),(8,.int .i64 i)]/\Sat w0 w []) ⟨0,rfl,(by omega),(by omega),?_,rfl,hS⟩ ?_
  ·
   intro k h0 h1;omega
  clear hS w
  rintro mm M w ⟨i,rfl,h0,h1,qa,rfl,hS⟩
  refine zsr<|(zP)<|zx7<|Zf ?_ ?_<;>intro hc
  ·
   refine zx3<|(zP)<|(zP)<|zlz<|(zP)<|(zP)<|(zP)<|(zV (xix (kk:=i) Zb hR.slh))<|(zV (xlr (u:= .int .i64 (f i)) pl_3 (hR.below hS.below)))<|zlc (xc0 Zky) (ZlC (x:=(f i)) w) ?_;rintro _ w ⟨rfl,hS'⟩
   replace hS:=hS.cmp hS';clear hS'
   refine zlt<|Zf ?_ ?_<;>intro hc
   ·
    refine zsr<|(zP)<|(zP)<|zx2<|zf1 ⟨_,rfl,?_⟩
    exact⟨i,rfl,.inr ⟨by omega,by omega,‹Ts (f i)›⟩,hS⟩
   refine zx4<|(zV (Zh (r:=i+1)))<|(zP)<|zln<|zlq ⟨i+1,rfl,(by omega),(by omega),?_,rfl,hS⟩
   ·
    intro k h0' h1';rcases Int.lt_or_eq_of_le (show k<=i by omega) with hk|hk;exact qa k h0' hk;rw [hk];assumption
  refine zx8<|(zP)<|zx1<|zf1 ⟨_,rfl,?_⟩
  exact⟨-1,rfl,.inl ⟨rfl,fun k h0 h1=>qa k h0 (by omega)⟩,hS⟩
theorem Ziu{v:Value}{n:Int}{f:Int->Int}(w0:World)(hR:Row w0 v 1 n (ints f)):
    Calls Tryz.prog 151 [v,.func (.func 208) #[] #[]].toArray w0 fun e w=>∃v,e= .returned v/\v=B (∃k,0<=k/\k<n/\(Ts (f k)))/\Sat w0 w []:=by
  refine zenG Tryz.func151 Tryz.ntmps151 fun w hS=> ?_
  refine zsr<|(zP)<|zlz<|(zP)<|(zP)<|zlc (xc0 WO) (Zil w (hR.below hS.below)) ?_;rintro _ w ⟨r1,rfl,hr1,hS'⟩
  replace hS:=hS.cmp hS';clear hS'
  refine(zP)<|(zP)<|zx1<|zf1 ⟨_,rfl,?_⟩
  exact⟨Zk (by
   rcases hr1 with⟨h1,h2⟩|⟨h1,h2,h3⟩
   · exact⟨fun h=>by omega,fun⟨k,h4,h5,h6⟩=>absurd h6 (h2 k h4 h5)⟩
   · exact⟨fun _=>⟨_,h1,h2,h3⟩,fun _=>h1⟩),hS⟩
theorem Zgf{vL vD:Value}{p:Prob}{vY:Value}{n:Int}(w0:World)(h:PAt w0 vL vD p)(hY:Row w0 vY 1 n (ints y)):
    Calls Tryz.prog 191 [.agg #[vL,vD,.int .i64 p.stock,.int .i64 p.kerf],vY].toArray w0 fun e w=>∃v,e= .returned v/\v=B (T3 p n y)/\Sat w0 w []:=by
  have hm:=h.L.slh.n0;have hm1:=h.L.slh.n1;have hd:=h.D.slh.n0;have hd1:=h.D.slh.n1;have hs:=h.is;have hk:=h.ik
  have hn0:=hY.slh.n0;have hn1:=hY.slh.n1
  refine zenG Tryz.func191 Tryz.ntmps191 fun w hS=> ?_
  refine zsr<|zla (xbx (cs:= [_,_,_,_]) hS) ?_;rintro _ w ⟨g1,rfl,hS⟩
  refine(zP)<|zlz<|(zV (xls 0 st_32 hS))<|zlc (xc0 XL) (Yb (p:=p) w (h.below hS.below)) ?_;rintro _ w ⟨rfl,hS'⟩
  replace hS:=hS.cmp hS';clear hS'
  refine(zP)<|zlb 7 ?_ ?_<;>intro hc
  ·
   refine(zP)<|(zV (xln Zb hY.slh))<|(zV (xfb 0 fd_32_0))<|(zV (xlb 0 pl_22 hS))<|(zV (xln Zb h.L.slh))<|(zP)<|(zP)<|(zP)<|zlb 15 ?_ ?_<;>intro hc
   ·
    refine(zP)<|zlc (xc0 WP) (Ziu (n:=n) (f:=y) w (hY.below hS.below)) ?_;rintro _ w ⟨rfl,hS'⟩
    replace hS:=hS.cmp hS';clear hS'
    refine(zP)<|(zP)<|(zP)<|zx1<|zf1 ⟨_,rfl,?_⟩
    exact⟨Zk (by exact⟨fun hx=>⟨by assumption,by omega,fun k k0 k1=>by have:¬Ts (y k):=fun hh=>hx ⟨k,k0,by omega,hh⟩;unfold Ts at this;omega⟩,fun⟨h1,h2,h3⟩ ⟨k,k0,k1,hk⟩=>by have:=h3 k k0 (by omega);unfold Ts at hk;omega⟩),hS.nl⟩
   iterate 3 refine zlo ?_
   refine(zP)<|(zP)<|zx1<|zf1 ⟨_,rfl,?_⟩
   exact⟨Ze (by rintro⟨h1,h2,h3⟩;first|exact absurd h1 ‹_›|omega),hS.nl⟩
  iterate 6 refine zlo ?_
  refine zs2 ?_
  iterate 3 refine zlo ?_
  refine(zP)<|(zP)<|zx1<|zf1 ⟨_,rfl,?_⟩
  exact⟨Ze (by rintro⟨h1,h2,h3⟩;first|exact absurd h1 ‹_›|omega),hS.nl⟩
theorem Zig{vL vD:Value}{p:Prob}{vY:Value}{n:Int}(w0:World)(h:PAt w0 vL vD p)(hY:Row w0 vY 1 n (ints y)):
    Calls Tryz.prog 165 [.agg #[vL,vD,.int .i64 p.stock,.int .i64 p.kerf],vY].toArray w0 fun e w=>∃v,e= .returned v/\∃r na a worth e,v= .tuple #[r,.int .i64 worth,.int .i64 e]/\Zcn p n y na a worth e/\Slh r na/\Sat w0 w [.own r 1 3 na (ints a)]:=by
  have hm:=h.L.slh.n0;have hm1:=h.L.slh.n1;have hd:=h.D.slh.n0;have hd1:=h.D.slh.n1;have hs:=h.is;have hk:=h.ik
  have hn0:=hY.slh.n0;have hn1:=hY.slh.n1
  refine zenG Tryz.func165 Tryz.ntmps165 fun w hS=> ?_
  refine zsr<|zla (xbx (cs:= [_,_,_,_]) hS) ?_;rintro _ w ⟨g1,rfl,hS⟩
  refine(zP)<|(zP)<|(zP)<|zx5<|(zV (xls 0 st_32 hS))<|(zP)<|zlc (xc0 ZkH) (Zgf (p:=p) (n:=n) (y:=y) w (h.below hS.below) (hY.below hS.below)) ?_;rintro _ w ⟨rfl,hS'⟩
  replace hS:=hS.cmp hS';clear hS'
  refine(zP)<|zlt<|Zf ?_ ?_<;>intro hc
  ·
   refine zsr<|(zP)<|(zP)<|(zP)<|zx14<|zf3 ⟨_,rfl,?_⟩
   exact⟨_,0,fun _=>0,0,1,rfl,.inl ⟨‹¬T3 p n y›,rfl,rfl,rfl⟩,slh_nil,(hS.addnil 1 3 (ints fun _=>0)).pk [1]⟩
  refine ZT<|(zP)<|zx5<|(zV (xfb 0 fd_32_0))<|(zV (xlb 0 pl_22 hS))<|(zV (xln Zb h.L.slh))<|(zP)<|zx6 ?_
  have hpr:T3 p n y:=by first|assumption|exact Classical.not_not.1 ‹_›
  obtain⟨hok,hnm,hyp⟩:=id hpr
  have hs1:=hok.s1;have hs2:=hok.s2;have hk1:=hok.k1;have hk2:=hok.k2;have hm2:=hok.m2;have hmd:=hok.d
  replace hS:=hS.addnil 3 247 (ZX (fun _=>0) (fun _=>0) (fun _=>0))
  refine zlp (fun mm M w=>∃(nC:Int) (fS:Int->Int) (fV:Int->Int) (fM:Int->Int) (i:Int) (wC:Value),mm=((p.m-i).toNat)/\(0<=i)/\(i<=p.m)/\(nC=i)/\(∀k,0<=k->k<i->fS k=(X0 p y).S k/\fV k=(X0 p y).V k/\fM k=(X0 p y).M k)/\(Slh wC nC)/\M= [(1,vY),(2,.pointer (some ⟨g1,0,none⟩)),(4,.slice none 0 0),(5,.int .i64 0),(6,.int .i64 0),(7,wC),(15,vL),(16,.int .i64 p.m),(17,.int .i64 i)]/\Sat w0 w [.blk g1 [vL,vD,.int .i64 p.stock,.int .i64 p.kerf],.own wC 3 247 nC (ZX fS fV fM)]) ⟨0,(fun _=>0),(fun _=>0),(fun _=>0),0,(.slice none 0 0),rfl,(by omega),(by omega),(by omega),?_,?_,rfl,hS⟩ ?_
  ·
   intro k k0 k1;omega
  ·
   exact slh_nil
  clear hS w
  rintro mm M w ⟨nC,fS,fV,fM,i,wC,rfl,h0,h1,hnC,hcc,hwC,rfl,hS⟩
  refine zsr<|(zP)<|zx7<|Zf ?_ ?_<;>intro hc
  ·
   refine zx3<|(zP)<|(zV (xix (kk:=i) Zb h.L.slh))<|zlv (xlr (u:= .int .i64 (p.L i)) pl_3 (h.L.below hS.below)) ?_
   have hbv:=h.iL i
   have he:=hok.all i h0 (by omega);unfold Prob.each at he
   refine(zP)<|(zP)<|zlt<|zdst [0] [0] 1000 mx_ hS ?_;clear hS;intro w hS
   refine(zDw 0 xmv)<|(zDw 1 xmv)<|(zDw 2 (xfb 3 fd_32_3))<|(zDl 3 (fun w hS=>(xlb 0 pl_3 hS)))<|(zDw 4 (Zh (r:=p.L i+p.kerf)))<|(zDw 5 xmv)<|(zDw 6 xmv)<|(zDw 7 (xix (kk:=i) Zb hY.slh))<|(zDl 8 (fun w hS=>(xlr (u:= .int .i64 (y i)) pl_3 (hY.below hS.below))))<|(zDw 9 (xfb 1 fd_32_1))<|(zDl 10 (fun w hS=>(xlb 0 pl_22 hS)))<|(zDw 11 xmv)<|(zDw 12 (xix (kk:=i) Zb h.D.slh))<|zdla 13 (fun w hS=>(xlr (u:= .int .i64 (p.D i)) pl_3 (h.D.below hS.below))) ?_
   have hbv:=h.iD i
   refine(zDw 14 (xany (v:= .agg #[.int .i64 (p.L i+p.kerf),.int .i64 (y i),.int .i64 (p.D i)])))<|zda 15 (xli (n:=1) (len:=1) (pv:= [(0,.agg #[.int .i64 (p.L i+p.kerf),.int .i64 (y i),.int .i64 (p.D i)])]) (cs:= [.int .i64 (p.L i+p.kerf),.int .i64 (y i),.int .i64 (p.D i)]) (c:=ZX (fun _=>p.L i+p.kerf) (fun _=>(y i)) (fun _=>p.D i)) XE ZbX hS) ?_;rintro v1 w ⟨hS,hv1⟩
   refine⟨⟨fun _=>hS.pk [0],hS.pk [0]⟩,?_⟩
   refine zda 16 (xap 1 (r:=nC+1) XE ZbX hS (hS.rowN 2 rfl) (Zcb ..) (h1:=(fun k _ _=>Zb0 _ _ _ k))) ?_;rintro v2 w ⟨hS,hv2⟩
   refine⟨⟨fun _=>hS.pk [0],hS.pk [0]⟩,?_⟩
   refine(zDw 17 xas)<|zdd<|zbn<|ztn<|zrg ?_
   refine(zV (Zh (r:=i+1)))<|(zP)<|zln<|zlq ⟨nC+1,(snoc fS nC (p.L i+p.kerf)),(snoc fV nC (y i)),(snoc fM nC (p.D i)),i+1,v2,rfl,(by omega),(by omega),(by omega),?_,?_,rfl,hS.pk [0,1]⟩
   ·
    intro k k0 k1;by_cases e:k<i
    · rw [Zu (by omega),Zu (by omega),Zu (by omega)];exact hcc k k0 e
    · obtain rfl:k=i:=by omega
      rw [Zv (by omega),Zv (by omega),Zv (by omega)];exact⟨rfl,rfl,rfl⟩
   ·
    exact hv2
  refine zx8<|zlv xmv ?_
  obtain rfl:i=p.m:=by omega
  subst hnC
  replace hS:=hS.recont 1 rfl (d:=ZX (X0 p y).S (X0 p y).V (X0 p y).M) (KH hcc)
  refine(zV (xfb 2 fd_32_2))<|(zV (xlb 0 pl_3 hS))<|(zV (xfb 3 fd_32_3))<|(zV (xlb 0 pl_3 hS))<|(zV (Zh (r:=p.stock+p.kerf)))<|zlc (xc0 ZkG) (Zgt (t:=(X0 p y)) (cap:=(p.stock+p.kerf)) w (hS.rowN 1 rfl)) ?_;rintro _ w ⟨gA,dE,gk,gz,jq,rfl,cM,cn,hS'⟩
  replace hS:=(hS.comp hS').n3;clear hS'
  refine zs6 ?_
  refine zx1<|zf3 ⟨_,rfl,?_⟩
  have hio:=Zjy hok hyp
  obtain⟨_,q2,q3,q4,q5⟩:=cM.resolve_left (fun hh=>hh.1 hio)
  replace q2:dE=p.m:=q2
  subst q2
  replace hS:=hS.recont 2 rfl (d:=ints (aC p y)) (fun k k0 k1=>by unfold ints;rw [Zny (by omega) q3 k k0 (by omega)])
  exact⟨_,_,_,_,_,rfl,.inr ⟨hpr,rfl,rfl,⟨_,q3⟩,q4,q5⟩,cn,hS.pk [2]⟩
end Go.Proofs.YtkichmnjjblodaaGreat
namespace Go.Proofs.YtkichmnjjblodaaGreat
open Go Go.RowKit Go.Proofs.Gw
def BoundR(p:Prob)(n:Int)(y:Int->Int)(num den e:Int):Prop:=(¬T3 p n y/\num=0/\den=0/\e=1)\/(T3 p n y/\WC p y=0/\num=0/\den=1/\e=0)\/
  (T3 p n y/\WC p y≠0/\num=(Tot p.D y p.m.toNat).tdiv (Int.gcd (Tot p.D y p.m.toNat) (WC p y))/\den=(WC p y).tdiv (Int.gcd (Tot p.D y p.m.toNat) (WC p y))/\e=0)
theorem BoundR.same{p:Prob}{n:Int}{y:Int->Int}{a b e a2 b2 e2:Int}(h:BoundR p n y a b e)(h':BoundR p n y a2 b2 e2):a=a2/\b=b2/\e=e2:=by
  rcases h with⟨h1,h2,h3,h4⟩|⟨h1,h2,h3,h4,h5⟩|⟨h1,h2,h3,h4,h5⟩<;>rcases h' with⟨g1,g2,g3,g4⟩|⟨g1,g2,g3,g4,g5⟩|⟨g1,g2,g3,g4,g5⟩<;>
    first
    |exact absurd ‹T3 p n y› ‹¬T3 p n y›
    |exact absurd ‹WC p y=0› ‹WC p y≠0›
    |(subst_vars;exact⟨rfl,rfl,rfl⟩)
end Go.Proofs.YtkichmnjjblodaaGreat
namespace Go.Proofs.Gw
open Go Go.RowKit
section
variable {P:Program} {L:List (Nat×Value)} {w w0:World} {o:Oper} {x y z:Operand} {T T':TypeId} {l:List Ent} {E:TypeId}
theorem UF (g q:Nat) (E:TypeId):∀(vs:List Value) (k:Nat) (cur:List Value) (w:World),w.heap[g]? =some (.cells cur.toArray E (0,0))->q+k+vs.length<=cur.length->(∀v∈vs,v.oneCell'=true)->
    ∃w',(storeCells ⟨g,q,none⟩ vs k).run P w= .ok () w'/\w'.heap[g]? =some (.cells (cur.take (q+k)++vs++cur.drop (q+k+vs.length)).toArray E (0,0))/\(∀j,j≠g->w'.heap[j]? =w.heap[j]?)/\w'.tape=w.tape/\w'.os=w.os/\w'.output=w.output/\w'.heap.size=w.heap.size
  | [],k,cur,w,hg,hk,_=>⟨w,rfl,by simp [hg],fun _ _=>rfl,rfl,rfl,rfl,rfl⟩
  | v ::vs,k,cur,w,hg,hk,h1=>by
    simp only [List.length_cons] at hk
    have hv:=h1 v (by simp)
    have hlt:q+k<cur.length:=by omega
    have hc:w.cell? ⟨g,q+k,none⟩=some cur[q+k]:=by simp [World.cell?,hg,hlt]
    have hf:w.frozen? ⟨g,q+k,none⟩=false:=by simp [World.frozen?,hg]
    have hg':(w.setCell ⟨g,q+k,none⟩ v).heap[g]? =some (.cells (cur.set (q+k) v).toArray E (0,0)):=by simp [World.setCell,Array.getElem?_modify,hg]
    obtain⟨w',h2,h3,h4,h5,h6,h7,h8⟩:=UF g q E vs (k+1) (cur.set (q+k) v) (w.setCell ⟨g,q+k,none⟩ v) hg' (by simp;omega) (fun u hu=>h1 u (by simp [hu]))
    refine⟨w',?_,?_,fun j hj=> ?_,h5,h6,h7,?_⟩
    · have e0:(⟨g,q,none⟩:Addr).add k=⟨g,q+k,none⟩:=by rw [Addr.add_eq _ rfl]
      simp only [storeCells,Sem.run_bind,e0]
      rw [run_store P w _ v _ hv,hc]
      simp only [hf]
      exact h2
    · rw [h3]
      congr 3
      have e1:(cur.set (q+k) v).take (q+(k+1))=cur.take (q+k)++ [v]:=by
        rw [show q+(k+1)=q+k+1 by omega,List.take_set,List.take_succ_eq_append_getElem hlt,List.set_append_right _ _ (by simp;omega)]
        simp [Nat.min_eq_left (Nat.le_of_lt hlt)]
      have e2:(cur.set (q+k) v).drop (q+(k+1)+vs.length)=cur.drop (q+k+(v::vs).length):=by
        rw [List.drop_set_of_lt (by omega)];congr 1;simp;omega
      rw [e1,e2];simp
    · rw [h4 j hj];exact Below.heap_setCell _ _ _ _ hj
    · rw [h8];simp [World.setCell]
theorem xsp(i:Nat){g q k:Nat}{cs ds es:List Value}(ht:Zy P T=some k)(hS:Sat w0 w l)(ho:o.op= .store T x y:=by exact rfl)(hi:l[i]? =some (.blk g cs):=by exact rfl)(hx:evL L x=some (.pointer (some ⟨g,q,none⟩)):=by exact rfl)(hy:evL L y=some (.agg ds.toArray):=by exact rfl)
    (hl:ds.length=k:=by exact rfl) (hc:Nat.ble (q+ds.length) cs.length=true:=by exact rfl) (he:cs.take q++ds++cs.drop (q+ds.length)=es:=by exact rfl) (hd:∀v∈ds,v.oneCell'=true:=by repeat' first|exact Zi|apply Za rfl):∃w',Runs P L w o .skip w'/\Sat w0 w' (l.set i (.blk g es)):=by
  obtain⟨_,hsz⟩:=Xe (w:=w) ht
  obtain⟨E,hg⟩:=hS.holds _ (List.mem_of_getElem? hi)
  obtain⟨w',h3,h4,h5,h6,h7,h8,h9⟩:=UF (P:=P) g q E ds 0 cs w hg (by have:=Nat.le_of_ble_eq_true hc;omega) hd
  refine⟨w',fun ρ h=> ?_,?_⟩
  · simp [execOp,ho,h _ _ hx,h _ _ hy,Instr.storeAt,Instr.sureAddr,storeVar,Value.cells,hsz,hl,h3]
  · have hS':=hS
    rw [ZY hi] at hS'
    rw [Yz hi]
    refine hS'.turn (fun j _ hj=>h5 j (fun e=>hj (by rw [e];rfl))) h6 h7 h8 (by omega) ⟨E,?_⟩ (fun _ h=> .inl h)
    rw [h4,Nat.add_zero,he]
theorem Zmb {l:List Ent} (h:(Frame.bun l).holds w) (is:List Nat) (hn:is.Nodup:=by decide):(Frame.bun (pkL l is)).holds w:=by
  refine⟨fun e he=> ?_,?_⟩
  · obtain⟨i,_,hi⟩:=XW he;exact h.1 e (List.mem_of_getElem? hi)
  · have hs:=h.2
    induction is with
    |nil=>exact List.Pairwise.nil
    | cons i is ih=>
      obtain⟨hni,hn⟩:=List.nodup_cons.1 hn
      unfold pkL
      cases hi:l[i]? with
      |none=>exact ih hn
      | some e=>
        refine List.pairwise_cons.2 ⟨fun e' he'=> ?_,ih hn⟩
        obtain⟨j,hj,hj'⟩:=XW he'
        have hil:=(List.getElem?_eq_some_iff.1 hi)
        have hjl:=(List.getElem?_eq_some_iff.1 hj')
        obtain⟨eF,eE⟩:=hil
        obtain⟨eD,eC⟩:=hjl
        have hij:i≠j:=fun e=>hni (e▸hj)
        rcases Nat.lt_or_gt_of_ne hij with h1|h1
        · have:=List.pairwise_iff_getElem.1 hs i j eF eD h1
          rw [eE,eC] at this;exact this
        · have:=List.pairwise_iff_getElem.1 hs j i eD eF h1
          rw [eE,eC] at this;exact this.symm
theorem ZiE{l:List Ent}(is:List Nat){g:Nat}(h:(Frame.bun (pkL l is)).has g):(Frame.bun l).has g:=by
  obtain⟨e,he,hg⟩:=h
  obtain⟨i,_,hi⟩:=XW he
  exact⟨e,List.mem_of_getElem? hi,hg⟩
def Frame.gives(F:Frame)(l:List Ent):Prop:=(∀w,F.holds w->(Frame.bun l).holds w)/\∀g,(Frame.bun l).has g->F.has g
theorem TA{l m:List Ent}(is:List Nat)(e:pkL l is=m:=by exact rfl)(hn:is.Nodup:=by decide):(Frame.bun l).gives m:=by
  subst e;exact⟨fun w h=>Zmb h is hn,fun g h=>ZiE is h⟩
theorem Sat.given{l:List Ent}(h:Sat w0 w l)(i:Nat){F:Frame}{m:List Ent}(hF:F.gives m)(hi:l[i]? =some (.sem F):=by exact rfl):Sat w0 w (l.set i (.sem (Frame.bun m))):=by
  have h':=h
  rw [ZY hi] at h'
  rw [Yz hi]
  exact h'.turn (d:= .sem F) (fun k _ _=>rfl) rfl rfl rfl (Nat.le_refl _) (hF.1 _ (h.holds _ (List.mem_of_getElem? hi))) (fun g hg=> .inl (hF.2 g hg))
end
end Go.Proofs.Gw
namespace Go.Proofs.Gw
open Go Go.RowKit
def FZ(r:Option Nat):Fence:={fn:=fun _=>True,depth:=none,alive:=false,round:=r}
theorem WU{P:Program}{f:FuncId}{args:Array Value}{w:World}{R:Ending->World->Prop}{r:Option Nat}{n:Nat}(h:Calls P f args w R):CallsIn (FZ r) n P f args w R:=
  (callsIn_wide (n:=n)).2 h
theorem R1{P:Program}{f:FuncId}{args:Array Value}{w:World}{R:Ending->World->Prop}{r:Option Nat}{n:Nat}(h:CallsIn (FZ r) n P f args w R):Calls P f args w R:=
  (callsIn_wide (n:=n)).1 h
abbrev Frd(a:Act)(n:Nat)(ds:List Deferred)(L:List (Nat×Value)):Prop:=Fr a n ds L
def ndf(o:Oper):Bool:=match o.op with
  | .defer _=>false
  |_=>true
theorem XZ{o:Oper}(h:ndf o=true)(r:Option Nat)(ρ:Operand->Value):o.semAt r ρ=execOp ρ o:=
  Oper.semAt_eq _ _ _ (by intro c hc;unfold ndf at h;rw [hc] at h;cases h)
section
variable {P:Program} {l rest:List Oper} {Q Q':Exit->Act->World->Prop} {w w' w0:World} {o:Oper} {n d:Nat} {L M:List (Nat×Value)} {x y:Code} {c:Operand} {e:Exit} {p:Prop} {r:Option Nat} {ds:List Deferred}
def Hl(P:Program)(r:Option Nat)(n:Nat)(l:List Oper)(Q:Exit->Act->World->Prop)(rest:List Oper)(ds:List Deferred)(L:List (Nat×Value))(w:World):Prop:=∀a,Frd a n ds L->wpListIn (FZ r) 0 P l.toArray Q rest a w
def Hc(P:Program)(r:Option Nat)(n:Nat)(Q:Exit->Act->World->Prop)(x:Code)(ds:List Deferred)(L:List (Nat×Value))(w:World):Prop:=∀a,Frd a n ds L->x.wpIn (FZ r) 0 P Q a w
abbrev He(n:Nat)(Q:Exit->Act->World->Prop)(e:Exit)(ds:List Deferred)(L:List (Nat×Value))(w:World):Prop:=Ge n ds Q e L w
theorem VY{b:Bool}{a:Act}(hF:Frd a n ds L)(h:gdB l L o=some b):Region.wanted o (yielded l.toArray a.tmps)=b:=by
  exact(Z9 h).wanted hF
theorem hlv{v:Value}(hr:Runs P L w o (.value v) w')(K:Hl P r n l Q rest ds ((d,v)::L) w')(hg:gdB l L o=some true:=by exact rfl)(hd:o.dst=some d:=by exact rfl)(hdn:Nat.blt d n=true:=by exact rfl)(hn:ndf o=true:=by exact rfl):Hl P r n l Q (o::rest) ds L w:=fun a hF=>by
  unfold wpListIn
  rw [if_pos (VY hF hg)]
  refine⟨fun _ _=>trivial,?_⟩
  rw [XZ hn,hr _ hF.agr,Oper.uponIn_value,hd]
  exact K _ (hF.put (by simpa [Nat.blt_eq] using hdn) v)
theorem hlo(K:Hl P r n l Q rest ds ((d,undef)::L) w)(hg:gdB l L o=some false:=by exact rfl)(hd:o.dst=some d:=by exact rfl)(hdn:Nat.blt d n=true:=by exact rfl):Hl P r n l Q (o::rest) ds L w:=fun a hF=>by
  unfold wpListIn
  rw [if_neg (by rw [VY hF hg];simp)]
  refine⟨fun _ _=>trivial,?_⟩
  rw [hd]
  exact K _ (hF.put (by simpa [Nat.blt_eq] using hdn) undef)
theorem hle{R:World->Prop}(hr:∃w',Runs P L w o .skip w'/\R w')(K:∀w',R w'->Hl P r n l Q rest ds L w')(hg:gdB l L o=some true:=by exact rfl)(hd:o.dst=none:=by exact rfl)(hn:ndf o=true:=by exact rfl):Hl P r n l Q (o::rest) ds L w:=fun a hF=>by
  obtain⟨w',hr,hR⟩:=hr
  unfold wpListIn
  rw [if_pos (VY hF hg)]
  refine⟨fun _ _=>trivial,?_⟩
  rw [XZ hn,hr _ hF.agr,Oper.uponIn_skip,hd]
  exact K w' hR a hF
theorem hlc{f:FuncId}{args:Array Value}{R:Value->World->Prop}(hr:Runs P L w o (.enter f args) w)(hc:Calls P f args w fun e w'=>∃v,e= .returned v/\R v w')(K:∀v w',R v w'->Hl P r n l Q rest ds ((d,v)::L) w')
    (hg:gdB l L o=some true:=by exact rfl) (hd:o.dst=some d:=by exact rfl) (hdn:Nat.blt d n=true:=by exact rfl) (hn:ndf o=true:=by exact rfl):Hl P r n l Q (o::rest) ds L w:=fun a hF=>by
  unfold wpListIn
  rw [if_pos (VY hF hg)]
  refine⟨fun _ _=>trivial,?_⟩
  rw [XZ hn,hr _ hF.agr,Oper.uponIn_enter]
  refine⟨fun h=>(by cases h),WU (hc.mono fun e w' ⟨v,he,hR⟩=> ?_)⟩
  subst he
  rw [hd]
  exact K v w' hR _ (hF.put (by simpa [Nat.blt_eq] using hdn) v)
def Yld(P:Program)(l:Nat)(vs:List Value)(w:World)(R:Value->World->Prop):Prop:=
  ∃fn tmps assign body,(Instr.yield l vs.toArray).run P w= .ok (.round l fn tmps assign body) w/\RoundIn (FZ none) 0 P l fn tmps assign body w fun e w'=>∃v,e= .returned v/\R v w'
theorem xyl{l0:Nat}{xs:Array Operand}{ts:Array TypeId}{vs:List Value}{z:Operand}{N:Next}(hy:(Instr.yield l0 vs.toArray).run P w= .ok N w)(ho:o.op= .call {callee:= .value z,args:=xs,argTypes:=ts})(hx:evL L z=some (.func (.yield l0) #[] #[]))(ha:UC L xs vs):Runs P L w o N w:=fun ρ h=>by
  have h1:=ha ρ h
  simp [execOp,ho,resolve,h _ _ hx,Deferred.ofValue,invoke,h1,hy]
theorem hly{l0:Nat}{xs:Array Operand}{ts:Array TypeId}{vs:List Value}{z:Operand}{R:Value->World->Prop}(hY:Yld P l0 vs w R)(K:∀v w',R v w'->Hl P none n l Q rest ds ((d,v)::L) w')
    (ho:o.op= .call {callee:= .value z,args:=xs,argTypes:=ts}:=by exact rfl) (hx:evL L z=some (.func (.yield l0) #[] #[]):=by exact rfl) (ha:UC L xs vs:=by repeat' first|exact Zbq|apply Wh rfl)
    (hg:gdB l L o=some true:=by exact rfl) (hd:o.dst=some d:=by exact rfl) (hdn:Nat.blt d n=true:=by exact rfl):Hl P none n l Q (o::rest) ds L w:=fun a hF=>by
  obtain⟨fn,tmps,assign,body,hy,hR⟩:=hY
  have hr:=xyl (P:=P) (L:=L) (o:=o) hy ho hx ha
  unfold wpListIn
  rw [if_pos (VY hF hg)]
  refine⟨fun _ _=>trivial,?_⟩
  rw [XZ (by unfold ndf;rw [ho]),hr _ hF.agr,Oper.uponIn_round]
  refine⟨fun h=>(by cases h),hR.mono fun e w' ⟨v,he,hR⟩=> ?_⟩
  subst he
  rw [hd]
  exact K v w' hR _ (hF.put (by simpa [Nat.blt_eq] using hdn) v)
theorem hln(K:He n Q .normal ds L w):Hl P r n l Q [] ds L w:=K
theorem hlb(d:Nat)(ht:p->Hl P r n l Q rest ds ((d,.bool true)::L) w)(hf:¬p->Hl P r n l Q rest ds ((d,.bool false)::L) w)(hd:lk L d=some (B p):=by exact rfl):Hl P r n l Q rest ds L w:=fun a hF=>
  K1 hF hd (fun hp h=>ht hp _ h) (fun hp h=>hf hp _ h)
theorem hsq(h:Hc P r n (Exit.then (y.wpIn (FZ r) 0 P Q) Q) x ds L w):Hc P r n Q (.seq x y) ds L w:=fun a hF=>wpIn_seq (h a hF)
theorem hrg{id:Nat}(h:Hl P r n l Q l ds L w):Hc P r n Q (.region id l.toArray false) ds L w:=fun a hF=>wpIn_region_lit (h a hF)
def Tu(Q:Exit->Act->World->Prop):Exit->Act->World->Prop:=fun e a w=>e= .normal/\Q .normal a w
theorem ZaS:¬LetsOut (Tu Q):=fun⟨_,_,h⟩=>by cases h.1
theorem Zhd{row:String}{args:Array Value}{R:Value->World->Prop}(h:Rows P row args w R):RowsIn (FZ r) 0 P row args w R:=fun c cs _=>by
  obtain⟨v,w',h1,h2⟩:=h c cs
  exact⟨v,w',h1,(stepsIn_wide (P:=P)).2 h2⟩
theorem Wq {ops:Array Oper} {Qn:Exit->Act->World->Prop} (q1:∀a w,Qn .normal a w->Q .normal a w) (q2:∀ch a w,¬Qn (.panic ch) a w) (q3:¬LetsOut Qn) (hn:ops.toList.all ndf=true):∀(is:List Nat) (a:Act) (w:World),wpOps P ops Qn is a w->wpOpsIn (FZ r) 0 P ops Q is a w
  | [],a,w,h=>q1 _ _ h
  | i ::is,a,w,h=>by
    unfold wpOps at h
    unfold wpOpsIn
    cases ho:ops[i]? with
    |none=>simp only [ho] at h⊢;exact Wq q1 q2 q3 hn is a w h
    | some o=>
      simp only [ho] at h⊢
      have fu:ndf o=true:=List.all_eq_true.1 hn o (by
        obtain⟨hi,rfl⟩:=Array.getElem?_eq_some_iff.1 ho
        simp)
      by_cases hw:Region.wanted o (yielded ops a.tmps)=true
      · rw [if_pos hw] at h⊢
        refine⟨fun _ _=>trivial,?_⟩
        rw [XZ fu]
        rcases h with h|h
        · unfold Oper.wp at h
          cases he:(execOp a.eval o).run P w with
          | ok N w1=>
            rw [he] at h
            cases N with
            |value v=>exact Wq q1 q2 q3 hn is _ _ h
            |skip=>exact Wq q1 q2 q3 hn is _ _ h
            |defer d=>exact Wq q1 q2 q3 hn is _ _ h
            | enter f args=>
              refine⟨fun h=>(by cases h),WU (Calls.mono h fun e w' hh=> ?_)⟩
              cases e with
              |returned v=>exact Wq q1 q2 q3 hn is _ _ hh
              |panicked ch=>exact absurd hh (q2 _ _ _)
              |outgrown=>exact absurd hh q3
            | row rw args=>
              refine⟨fun h=>(by cases h),Zhd (Rows.mono h fun v w' hh=>Wq q1 q2 q3 hn is _ _ hh)⟩
            |_=>exact h.elim
          | halt x w1=>
            rw [he] at h
            cases x with
            |panic v=>exact absurd h (q2 _ _ _)
            |_=>exact h.elim
        · exact absurd h.2 q3
      · rw [if_neg hw] at h⊢
        exact⟨fun _ _=>trivial,Wq q1 q2 q3 hn is _ _ h⟩
theorem Zmr:∀a w,Tu Q .normal a w->Q .normal a w:=fun _ _ h=>h.2
theorem Zmq:∀ch a w,¬Tu Q (.panic ch) a w:=fun _ _ _ h=>by cases h.1
theorem zh(h:Ge n ds Q .normal L w):Ge n ds (Tu Q) .normal L w:=fun a hF=>⟨rfl,h a hF⟩
theorem ZaQ{ops:Array Oper}{a:Act}(h:wpList P ops Q ops.toList a w):wpOps P ops Q (List.range ops.size) a w:=by
  rw [List.range_eq_range',<-Array.length_toList,wpOps_eq_wpList ops.toList 0 (by simp)];exact h
theorem hrz{id:Nat}(h:Gl P n ds l (Tu Q) l L w)(hn:l.all ndf=true:=by exact rfl):Hc P r n Q (.region id l.toArray false) ds L w:=fun a hF=>
  wpIn_region (Wq Zmr Zmq ZaS (by simpa using hn) _ _ _ (ZaQ (by have:=h a hF;simpa using this)))
theorem hdst{w0:World}{id:Nat}{m m0 m1:List Ent}{fuel:Nat}(is js:List Nat)(brk:Nat)(hm:P.follows .mixedOrders=true)(hS:Sat w0 w m)(K:∀w',Sat w0 w' m->Gd P n ds l (Tu Q) (fun w'=>Sat w0 w' m0) (fun w'=>Sat w0 w' m1) brk fuel (Array.replicate fuel false) L w')
    (h0:pkL m is=m0:=by exact rfl) (h1:pkL m js=m1:=by exact rfl) (hn0:is.Nodup:=by decide) (hn1:js.Nodup:=by decide) (hn:l.length=fuel:=by exact rfl) (hnd:l.all ndf=true:=by exact rfl):Hc P r n Q (.region id l.toArray true) ds L w:=fun a hF=>by
  subst h0;subst h1;subst hn
  refine wpIn_region_draw fun t=>Wq (Qn:=NoPanic (Tu Q)) (fun _ _ h=>h.2) (fun _ _ _ h=>h.elim) (fun⟨_,_,h⟩=>by cases h.1) (by simpa using hnd) _ _ _ ?_
  simp only [Region.schedule,hm,Bool.true_or,if_true]
  have hcl:Closed l.toArray (Array.replicate l.length false):=by have:=Closed.start (ops:=l.toArray);simpa using this
  have h2:=Vl _ _ _ _ (K w.drew hS.draw hcl ⟨fun _=>hS.draw.pk is hn0,hS.draw.pk js hn1⟩ a hF)
  have h3:=wpAny_sound l.length t _ a _ h2
  have e:l.toArray.size=l.length:=by simp
  first|exact h3|(unfold Region.linearise;rw [e];exact h3)
theorem Y0(ht:p->Hc P r n Q x ds L w)(hf:¬p->Hc P r n Q y ds L w)(hc:evL L c=some (B p):=by exact rfl):Hc P r n Q (.cond c x y) ds L w:=fun a hF=>by
  have:=hF.agr _ _ hc
  by_cases hp:p
  · exact wpIn_cond_true (by rw [this,ZK hp]) (ht hp a hF)
  · exact wpIn_cond_false (by rw [this,Zz hp]) (hf hp a hF)
theorem hct(h:Hc P r n Q x ds L w)(hc:evL L c=some (.bool true):=by exact rfl):Hc P r n Q (.cond c x y) ds L w:=fun a hF=>wpIn_cond_true (hF.agr _ _ hc) (h a hF)
theorem hcf(h:Hc P r n Q y ds L w)(hc:evL L c=some (.bool false):=by exact rfl):Hc P r n Q (.cond c x y) ds L w:=fun a hF=>wpIn_cond_false (hF.agr _ _ hc) (h a hF)
theorem hsk(h:He n Q .normal ds L w):Hc P r n Q .skip ds L w:=fun a hF=>wpIn_skip (h a hF)
theorem hrt(h:He n Q .ret ds L w):Hc P r n Q .ret ds L w:=fun a hF=>wpIn_ret (h a hF)
theorem hxt{id:Nat}(h:He n Q (.exit id) ds L w):Hc P r n Q (.exit id) ds L w:=fun a hF=>wpIn_exit (h a hF)
theorem hbk{id:Nat}(h:Hc P r n (Exit.inBlock id Q) x ds L w):Hc P r n Q (.block id x) ds L w:=fun a hF=>wpIn_block (h a hF)
theorem htn(h:Hc P r n Q y ds L w):He n (Exit.then (y.wpIn (FZ r) 0 P Q) Q') .normal ds L w:=h
theorem ZbD {F:Fence} {nn:Nat} {body:Code} {a:Act} (I:Nat->Act->World->Prop) {m:Nat} (h0:I m a w) (round:∀m a w,I m a w->body.wpIn F nn P (Exit.then (fun a' w'=>∃m',m'<m/\I m' a' w') Q) a w):(Code.loop body).wpIn F nn P Q a w:=by
  intro b k cs hro hb hr
  have key:∀m a w,I m a w->∃e a' w',Q e a' w'/\ArrivesIn (Machine.fenced P F) P (lone (b.atR a (.code body:: .inLoop body::k)) cs w) b k cs e a' w':=by
    intro m
    induction m using Nat.strongRecOn with
    | _ m ih=>
      intro a w hI
      obtain⟨e,a₁,w₁,hq,xn⟩:=round m a w hI b (.inLoop body::k) cs hro hb hr
      cases e with
      | normal=>
        obtain⟨m',hlt,hI₁⟩:=hq
        obtain⟨e₂,a₂,w₂,hq₂,harr₂⟩:=ih m' hlt a₁ w₁ hI₁
        exact⟨e₂,a₂,w₂,hq₂,.of_steps (StepsIn.trans xn (.one (fenced_calm hb hr rfl) stepR_inLoop)) harr₂⟩
      |exit id=>exact⟨_,a₁,w₁,hq,.pass (x:= .inLoop body) rfl (fun _ _=> .inl (by simp)) xn⟩
      |goto l=>exact⟨_,a₁,w₁,hq,.pass (x:= .inLoop body) rfl (fun _ _=> .inl (by simp)) xn⟩
      |ret=>exact⟨_,a₁,w₁,hq,.pass (x:= .inLoop body) rfl (fun _ _=> .inl (by simp)) xn⟩
      |panic ch=>exact⟨_,a₁,w₁,hq,.pass (x:= .inLoop body) rfl (fun _ _=> .inl (by simp)) xn⟩
      |outgrown=>exact⟨_,a₁,w₁,hq,.pass (x:= .inLoop body) rfl (fun _ _=> .inl (by simp)) xn⟩
  obtain⟨e,a',w',hq,xn⟩:=key m a w h0
  exact⟨e,a',w',hq,.of_steps (.one (fenced_calm hb hr rfl) stepR_loop) xn⟩
theorem hlp(J:Nat->List (Nat×Value)->World->Prop){m:Nat}(h0:J m M w)(round:∀m M w,J m M w->Hc P r n (Exit.then (fun a w=>∃m',m'<m/\∃M',J m' M' w/\Frd a n ds M') Q) x ds M w)
    (hM:Sub L M:=by repeat' first|exact R4|refine zpk rfl ?_):Hc P r n Q (.loop x) ds L w:=fun a hF=>
  ZbD (fun m a w=>∃M,J m M w/\Frd a n ds M) ⟨M,h0,hF.sub hM⟩ fun m a w ⟨M',hJ,hF'⟩=>round m M' w hJ a hF'
theorem hlq{J:Nat->List (Nat×Value)->World->Prop}{m m':Nat}(hJ:J m' M w)(hlt:m'<m:=by omega)(hM:Sub L M:=by repeat' first|exact R4|refine zpk rfl ?_):He n (Exit.then (fun a w=>∃m',m'<m/\∃M',J m' M' w/\Frd a n ds M') Q) .normal ds L w:=
  fun a hF=>⟨m',hlt,M,hJ,hF.sub hM⟩
theorem ZhA{f:FuncId}{fn:Func}{vs:List Value}{R:Ending->World->Prop}(hf:P.funcs[f]? =some fn)(hn:fn.ntmps=n)(K:∀w,Sat w0 w []->Hc P none n (bodyPostM (FZ none) 0 P fn R) x [] (num 0 vs) w)(hb:fn.body=some x:=by exact rfl)(hv:Nat.ble vs.length n=true:=by exact rfl):Calls P f vs.toArray w0 R:=
  R1 (r:=none) (n:=0) (callsIn_of_wp_marks hf hb trivial (by
    rw [hn]
    exact K _ (Sat.start w0) _ ((Fr.enter (vs:=vs.toArray) (by simpa using Nat.le_of_ble_eq_true hv) fun t v ht=>by have:=(Kv vs 0 t v ht).2;simpa using this))))
theorem ZeX{f:FuncId}{fn:Func}{vs:List Value}{R:Ending->World->Prop}(hf:P.funcs[f]? =some fn)(hn:fn.ntmps=n)(K:Hc P none n (bodyPost P fn R) x [] (num 0 vs) w)(hb:fn.body=some x:=by exact rfl)(hv:Nat.ble vs.length n=true:=by exact rfl):Calls P f vs.toArray w R:=
  enter hf hb hn hv fun a hF=>(wpIn_wide (n:=0)).1 (K a hF)
theorem Zjz{fn:Func}{R:Ending->World->Prop}(h:Ge n [] (bodyPost P fn R) .ret L w):He n (bodyPostM (FZ none) 0 P fn R) .ret [] L w:=fun a hF=>by
  obtain⟨_,v,h1,h2⟩:=h a hF
  have e:=hF.defers
  show LeavesInM _ _ _ _ _ _ a.defers _ _
  rw [e]
  exact⟨v,h1,h2⟩
def Frame.obj(g:Nat)(o:Obj):Frame where
  holds w:=w.heap[g]? =some o
  has k:=k=g
  keep h hk:=(hk g rfl).trans h
  lt h hg:=by rw [hg];exact(Array.getElem?_eq_some_iff.1 h).1
abbrev dfE(D:Nat)(b:Bool):Ent:= .sem (Frame.obj D (.deferred (if b then some [] else none)))
def mrk(D:Nat):Deferred:={target:= .collected D,args:= #[]}
theorem Sat.putObj{l1 l2:List Ent}{g:Nat}{o o':Obj}(h:Sat w0 w (l1++ .sem (Frame.obj g o)::l2)):Sat w0 (w.putObj g o') (l1++ .sem (Frame.obj g o')::l2):=by
  have hg:w.heap[g]? =some o:=h.get
  refine h.turn (d:= .sem (Frame.obj g o)) (fun k _ hk=>World.putObj_heap_other (fun e=>hk e)) rfl rfl rfl (by simp) ?_ (fun _ h=> .inl h)
  exact World.putObj_heap_same (Array.getElem?_eq_some_iff.1 hg).1
theorem ZbV{fn:Func}{R:Ending->World->Prop}{E:List Ent}{D:Nat}(i:Nat)(hS:Sat w0 w E)(K:∀w',Sat w0 w' (E.set i (dfE D false))->Ge n [] (bodyPost P fn R) .ret L w')(hi:E[i]? =some (dfE D true):=by exact rfl):He n (bodyPostM (FZ none) 0 P fn R) .ret [mrk D] L w:=fun a hF=>by
  have e:=hF.defers
  show LeavesInM _ _ _ _ _ _ a.defers _ _
  rw [e]
  have hD:w.heap[D]? =some (.deferred (some [])):=hS.holds _ (List.mem_of_getElem? hi)
  refine⟨by simp,.inl ⟨D,_,rfl,run_takeDeferred hD,?_⟩⟩
  have h1:Sat w0 (w.putObj D (.deferred none)) (E.set i (dfE D false)):=by
    have h':=hS
    rw [ZY hi] at h'
    rw [Yz hi]
    exact h'.putObj
  obtain⟨_,v,h2,h3⟩:=K _ h1 {a with defers:= []} ⟨hF.size,rfl,hF.get⟩
  exact⟨v,h2,h3⟩
end
theorem ZeY{J:List (Nat×Value)->List Ent->Prop}{F:List Ent->List Ent}{Q:Exit->Act->World->Prop}{w w0:World}{n:Nat}{L M:List (Nat×Value)}{es:List Ent}(hJ:J M es)(hS:Sat w0 w (F es))(hM:Sub L M:=by repeat' first|exact R4|refine zpk rfl ?_):
    Ge n [] (Exit.then (fun a w'=>∃M es,J M es/\Frd a n [] M/\Sat w0 w' (F es)) Q) .normal L w:=fun a hF=>⟨M,es,hJ,hF.sub hM,hS⟩
theorem Zmj{P:Program}{L:List (Nat×Value)}{w:World}{n:Nat}{fn:Func}{R:Ending->World->Prop}{T1 T2:TypeId}{s1 s2:Nat}{a1 a2:Addr}{v1 v2:Value}(t1:ZM P T1=true)(t2:ZM P T2=true)(c1:w.cell? a1=some v1)(c2:w.cell? a2=some v2)(h:R (.returned (.tuple #[v1,v2])) w)
    (hr:fn.results= #[.cell s1 T1,.cell s2 T2]:=by exact rfl) (h1:lk L s1=some (.pointer (some a1)):=by exact rfl) (h2:lk L s2=some (.pointer (some a2)):=by exact rfl):Ge n [] (bodyPost P fn R) .ret L w:=fun a hF=>by
  refine⟨hF.defers,_,?_,h⟩
  obtain⟨⟨_,_,q1⟩,_⟩:=WK (w:=w) t1
  obtain⟨⟨_,_,q2⟩,_⟩:=WK (w:=w) t2
  have e1:=hF.get s1 _ h1
  have e2:=hF.get s2 _ h2
  rw [Array.getD_eq_getD_getElem?] at e1 e2
  simp [results,hr,e1,e2,asAddr,loadVar,q1,q2,c1,c2]
theorem Yf{l m:List Ent}(h:∀f:Ent->Nat,(l.map f).sum=(m.map f).sum):l.Perm m:=by
  classical
  rw [List.perm_iff_count]
  intro z
  have:=h (fun x=>if x=z then 1 else 0)
  have e:∀l:List Ent,(l.map fun x=>if x=z then 1 else 0).sum=l.count z:=fun l=>by
    induction l with
    |nil=>rfl
    | cons x l ih=>
      rw [List.map_cons,List.sum_cons,ih,List.count_cons]
      by_cases hx:x=z
      · subst hx;simp;omega
      · simp [hx]
  rw [e,e] at this
  exact this
section
variable {P:Program} {Q:Exit->Act->World->Prop} {w w' w0:World} {n:Nat} {L:List (Nat×Value)} {ds:List Deferred}
def ItC {St X Tt:Type} (P:Program) (w0:World) (gf:FuncId) (lb:List Value) (Sh:List Ent) (enc:X->List Value) (Pre:St->X->Frame->Prop) (Nx:St->X->St->Prop) (Sx:St->X->Tt->Prop) (s0:St) (Fin:St->Frame->Prop) (FinX:Tt->Frame->Prop):Prop:=
  ∀ (l:Nat) (C:St->Frame) (D:Tt->Frame) (w:World),Sat w0 w (.sem (C s0)::Sh)->
    (∀s x rest w,Pre s x rest->Sat w0 w (.sem (C s)::(Sh++ [.sem rest]))->Yld P l (enc x) w fun v w'=>
      (v= .bool true/\∃s',Nx s x s'/\Sat w0 w' (.sem (C s')::(Sh++ [.sem rest])))\/(v= .bool false/\∃t,Sx s x t/\Sat w0 w' (.sem (D t)::(Sh++ [.sem rest]))))->
    Calls P gf (.func (.yield l) #[] #[]::lb).toArray w fun e w'=>∃v,e= .returned v/\
      ((∃s rest,Fin s rest/\Sat w0 w' (.sem (C s)::(Sh++ [.sem rest])))\/(∃t rest,FinX t rest/\Sat w0 w' (.sem (D t)::(Sh++ [.sem rest]))))
def R8:List Nat->List Value->List (Nat×Value)->List (Nat×Value)
  |t::ts,v::vs,L=>R8 ts vs ((t,v)::L)
  |_,_,L=>L
theorem R7{a:Act}:∀(ts:List Nat) (vs:List Value) (T:Array Value) {L:List (Nat×Value)},Frd {tmps:=T,defers:= []} n [] L->(ts.all fun t=>Nat.blt t n)=true->
    Frd {tmps:=(ts.zip vs).foldl (fun t (p:Nat×Value)=>t.setIfInBounds p.1 p.2) T,defers:= []} n [] (R8 ts vs L)
  | [],vs,T,L,h,_=>by simpa [R8] using h
  |t::ts, [],T,L,h,_=>by simpa [R8] using h
  | t::ts,v::vs,T,L,h,hb=>by
    simp only [List.all_cons,Bool.and_eq_true] at hb
    have h1:=h.put (by simpa [Nat.blt_eq] using hb.1) v
    simp only [List.zip_cons_cons,List.foldl_cons,R8]
    exact R7 (a:=a) ts vs _ h1 hb.2
def rdQ{St Tt:Type}(w0:World)(C:St->List Ent)(D:Tt->List Ent)(jc:Tt->Code)(Sh:List Ent)(N:St->Prop)(S:Tt->Prop)(rest:Frame):Exit->Act->World->Prop
  | .normal,_,w'=>∃s',N s'/\Sat w0 w' (C s'++(Sh++ [.sem rest]))
  | .ret,_,w'=>∃t,S t/\jc t= .ret/\Sat w0 w' (D t++(Sh++ [.sem rest]))
  | .exit id,_,w'=>∃t,S t/\jc t= .exit id/\Sat w0 w' (D t++(Sh++ [.sem rest]))
  |_,_,_=>False
theorem ZbU{St Tt:Type}{w0 w:World}{C:St->List Ent}{D:Tt->List Ent}{jc:Tt->Code}{Sh:List Ent}{N:St->Prop}{S:Tt->Prop}{rest:Frame}{n:Nat}{L:List (Nat×Value)}(s':St)(hN:N s')(hS:Sat w0 w (C s'++(Sh++ [.sem rest]))):Ge n [] (rdQ w0 C D jc Sh N S rest) .normal L w:=fun _ _=>⟨s',hN,hS⟩
theorem ZeW{St Tt:Type}{w0 w:World}{C:St->List Ent}{D:Tt->List Ent}{jc:Tt->Code}{Sh:List Ent}{N:St->Prop}{S:Tt->Prop}{rest:Frame}{n:Nat}{L:List (Nat×Value)}(t:Tt)(hN:S t)(hj:jc t= .ret)(hS:Sat w0 w (D t++(Sh++ [.sem rest]))):Ge n [] (rdQ w0 C D jc Sh N S rest) .ret L w:=fun _ _=>⟨t,hN,hj,hS⟩
def Zfe:Code->Exit
  | .ret=> .ret
  | .exit id=> .exit id
  |_=> .normal
theorem Sat.unbun{l1 l2 l3:List Ent}(h:Sat w0 w (l1++ .sem (Frame.bun l2)::l3)):Sat w0 w (l1++(l2++l3)):=h.unbundle
theorem hrf {St X Tt:Type} {gf:FuncId} {lb:List Value} {g:Operand} {ps:Array Tmp} {assign body:Code} {Sh:List Ent} {enc:X->List Value} {Pre:St->X->Frame->Prop} {Nx:St->X->St->Prop} {Sx:St->X->Tt->Prop} {Fin:St->Frame->Prop} {FinX:Tt->Frame->Prop}
    (C:St->List Ent) (D:Tt->List Ent) (jc:Tt->Code) (s0:St) (J:X->List (Nat×Value)->List Ent->Prop) (hit:ItC P w0 gf lb Sh enc Pre Nx Sx s0 Fin FinX) (hS:Sat w0 w (C s0++Sh)) (hcl:Zc P gf=true)
    (hpl:∀x,(enc x).length=ps.size) (hjc:∀t,jc t= .ret\/∃id,jc t= .exit id)
    (yX:∀l s x rest w,Pre s x rest->∀rest',(∀w,rest'.holds w->rest.holds w)->Sat w0 w (C s++(Sh++ [.sem rest']))->Hc P (some l) n (Exit.then (fun a w'=>∃M es,J x M es/\Frd a n [] M/\Sat w0 w' (C s++(Sh++(.sem rest'::es)))) (fun _ _ _=>False)) assign [] (R8 ps.toList (enc x) L) w)
    (bj:∀l s x M es rest w,Pre s x rest->J x M es->∀rest',(∀w,rest'.holds w->rest.holds w)->Sat w0 w (C s++(Sh++(.sem rest'::es)))->Hc P (some l) n (rdQ w0 C D jc Sh (Nx s x) (Sx s x) rest') body [] M w)
    (bb:∀Dk s rest w',Fin s rest->Sat w0 w' (C s++(Sh++ [.sem rest,dfE Dk true]))->He n Q .normal (mrk Dk::ds) L w')
    (aJ:∀Dk t rest w',FinX t rest->Sat w0 w' (D t++(Sh++ [.sem rest,dfE Dk true]))->He n Q (Zfe (jc t)) (mrk Dk::ds) L w')
    (hg:evL L g=some (.func (.func gf) #[] lb.toArray):=by exact rfl) (hpb:(ps.toList.all fun t=>Nat.blt t n)=true:=by exact rfl):Hc P none n Q (.rangeFunc g ps assign body) ds L w:=by
  intro a hF
  refine wpIn_rangeFunc ?_
  intro fn hfn
  obtain⟨rec,xa⟩:∃rec:LoopState->Option Code->Loop,rec=fun st pe=>{state:=st,pending:=pe,fn,tmps:=a.tmps,params:=ps,assign,body,defers:=w.heap.size}:=⟨_,rfl⟩
  obtain⟨W1,hW1⟩:∃W1,(w.alloc (.deferred (some []))).alloc (.loop (rec .ready none))=W1:=⟨_,rfl⟩
  obtain⟨l,hl⟩:∃l,w.heap.size+1=l:=⟨_,rfl⟩
  obtain⟨Dk,hDk⟩:∃Dk,w.heap.size=Dk:=⟨_,rfl⟩
  have hS1:Sat w0 W1 ((C s0++Sh)++ [dfE Dk true]++ [.sem (Frame.obj l (.loop (rec .ready none)))]):=by
    rw [<-hW1]
    refine(hS.alloc _ (e:=dfE Dk true) ?_ ?_).alloc _ (e:= .sem (Frame.obj l (.loop (rec .ready none)))) ?_ ?_
    · rw [<-hDk];exact heap_alloc_new w _
    · intro g hg;rw [<-hDk] at hg;exact hg
    · have:=heap_alloc_new (w.alloc (.deferred (some []))) (.loop (rec .ready none))
      rw [World.size_alloc,hl] at this;exact this
    · intro g hg;rw [World.size_alloc,hl];exact hg
  have eval:a.eval g= .func (.func gf) #[] lb.toArray:=hF.agr _ _ hg
  have cU:∃fnn,P.funcs[gf]? =some fnn/\fnn.body.isSome=true/\(fnn.name== "runtime.NumGoroutine")=false:=by
    unfold Zc at hcl
    cases hf:P.funcs[gf]? with
    |none=>simp [hf] at hcl
    | some fnn=>
      simp only [hf,Bool.and_eq_true,Bool.not_eq_true'] at hcl
      exact⟨fnn,rfl,hcl.1,hcl.2⟩
  obtain⟨fnn,hf1,hf2,hf3⟩:=cU
  have cZ:fnn.body≠none:=by intro e;rw [e] at hf2;simp at hf2
  have cY:fnn.name≠ "runtime.NumGoroutine" :=by simpa using hf3
  let C':St->Frame:=fun s=>Frame.bun (C s++ [.sem (Frame.obj l (.loop (rec .ready none))),dfE Dk true])
  let D':Tt->Frame:=fun t=>Frame.bun (D t++ [.sem (Frame.obj l (.loop (rec .done (some (jc t))))),dfE Dk true])
  have hS2:Sat w0 W1 (.sem (C' s0)::Sh):=by
    have h1:Sat w0 W1 (Sh++(C s0++ [.sem (Frame.obj l (.loop (rec .ready none))),dfE Dk true])):=hS1.perm (Yf fun f=>by simp only [List.map_append,List.map_cons,List.map_nil,List.sum_append,List.sum_cons,List.sum_nil];omega)
    have h2:=h1.bundle
    exact h2.perm List.perm_append_comm
  refine⟨l, [mrk Dk],W1,{target:= .fn (.func gf) lb.toArray,args:= #[.func (.yield l) #[] #[]]},W1,gf, #[.func (.yield l) #[] #[]]++lb.toArray,W1,?_,?_,?_,?_,fun h=>(by cases h),?_⟩
  · rw [<-hW1,xa,<-hl,<-hDk];exact run_enterLoop_outer _ _ _ _ _
  · simp only [resolve,eval]
    simp [go_sem]
  · intro f' hf';trivial
  · simp [invoke,go_sem,callFunc,hf1,cZ,cY]
  have eargs:(#[.func (.yield l) #[] #[]]++lb.toArray:Array Value)=(.func (.yield l) #[] #[]::lb).toArray:=by simp
  rw [eargs]
  refine WU ((hit l C' D' W1 hS2 ?_).mono ?_)
  ·
    intro s x rest W qr hSW
    have h1:Sat w0 W (C s++(Sh++ [.sem rest,.sem (Frame.obj l (.loop (rec .ready none))),dfE Dk true])):=by
      have:=Sat.unbun (l1:= []) hSW
      exact this.perm (Yf fun f=>by simp only [List.map_append,List.map_cons,List.map_nil,List.sum_append,List.sum_cons,List.sum_nil];omega)
    have hlr:W.heap[l]? =some (.loop (rec .ready none)):=h1.holds (.sem (Frame.obj l (.loop (rec .ready none)))) (by simp)
    have hy:=run_yield (P:=P) (args:=(enc x).toArray) hlr (by rw [xa];simp [hpl x])
    rw [xa] at hy
    refine⟨fn,_,assign,body,hy,roundIn_of_wpIn trivial ?_⟩
    clear hy
    let r1:Frame:=Frame.bun [.sem rest,.sem (Frame.obj l (.loop (rec .ready none))),dfE Dk true]
    have h2:Sat w0 W (C s++(Sh++ [.sem r1])):=by
      rw [<-List.append_assoc] at h1⊢
      exact h1.bundle
    have hfr:Frd {tmps:=(ps.zip (enc x).toArray).foldl (fun t (p,v)=>t.setIfInBounds p v) a.tmps,defers:= []} n [] (R8 ps.toList (enc x) L):=by
      have:=R7 (a:=a) (n:=n) ps.toList (enc x) a.tmps (L:=L) ⟨hF.size,rfl,hF.get⟩ hpb
      have e:(ps.zip (enc x).toArray).foldl (fun t (p,v)=>t.setIfInBounds p v) a.tmps=(ps.toList.zip (enc x)).foldl (fun t (p:Nat×Value)=>t.setIfInBounds p.1 p.2) a.tmps:=by
        rw [<-Array.foldl_toList,Array.toList_zip]
      rw [e];exact this
    refine Go.wpIn_mono (yX l s x rest W qr r1 (fun w h=>h.1 (.sem rest) (by simp)) h2 _ hfr) ?_
    intro e a1 Wa hp
    cases e<;>try exact hp.elim
    obtain⟨M,es,hJ,hFM,hSa⟩:=hp
    have h3:Sat w0 Wa ((C s++(Sh++([.sem rest]++es))++ [dfE Dk true])++ .sem (Frame.obj l (.loop (rec .ready none))):: []):=by
      have:=Sat.unbun (l1:=C s++Sh) (l3:=es) (by rw [List.append_assoc];exact hSa)
      exact this.perm (Yf fun f=>by simp only [List.map_append,List.map_cons,List.map_nil,List.sum_append,List.sum_cons,List.sum_nil];omega)
    have hlr:Wa.heap[l]? =some (.loop (rec .ready none)):=h3.get
    refine⟨_,run_beginRound hlr (by rw [xa]),?_⟩
    have h4:=h3.putObj (o':= .loop {rec .ready none with state:= .busy})
    let r2:Frame:=Frame.bun [.sem rest,.sem (Frame.obj l (.loop {rec .ready none with state:= .busy})),dfE Dk true]
    have h5:Sat w0 (Wa.putObj l (.loop {rec .ready none with state:= .busy})) (C s++(Sh++(.sem r2::es))):=by
      have h:Sat w0 (Wa.putObj l (.loop {rec .ready none with state:= .busy})) ((C s++(Sh++es))++ [.sem rest,.sem (Frame.obj l (.loop {rec .ready none with state:= .busy})),dfE Dk true]):=by
        exact h4.perm (Yf fun f=>by simp only [List.map_append,List.map_cons,List.map_nil,List.sum_append,List.sum_cons,List.sum_nil];omega)
      have hb:Sat w0 (Wa.putObj l (.loop {rec .ready none with state:= .busy})) ((C s++(Sh++es))++ [.sem r2]):=h.bundle
      exact hb.perm (Yf fun f=>by simp only [List.map_append,List.map_cons,List.map_nil,List.sum_append,List.sum_cons,List.sum_nil];omega)
    refine Go.wpIn_mono (bj l s x M es rest _ qr hJ r2 (fun w h=>h.1 (.sem rest) (by simp)) h5 _ hFM) ?_
    have fin:∀(jump:Option Code) (A:List Ent) (W3:World),Sat w0 W3 (A++(Sh++ [.sem r2]))->
        (Instr.endRound l jump).run P W3= .ok (.bool jump.isNone) (W3.putObj l (.loop (rec (if jump.isNone then .ready else .done) jump)))/\
        Sat w0 (W3.putObj l (.loop (rec (if jump.isNone then .ready else .done) jump))) (.sem (Frame.bun (A++ [.sem (Frame.obj l (.loop (rec (if jump.isNone then .ready else .done) jump))),dfE Dk true]))::(Sh++ [.sem rest])):=fun jump A W3 hA=>by
      have h6:Sat w0 W3 ((Sh++ [.sem rest]++(A++ [dfE Dk true]))++ .sem (Frame.obj l (.loop {rec .ready none with state:= .busy})):: []):=by
        have:=Sat.unbun (l1:=A++Sh) (l3:= []) (by rw [List.append_assoc];exact hA)
        exact this.perm (Yf fun f=>by simp only [List.map_append,List.map_cons,List.map_nil,List.sum_append,List.sum_cons,List.sum_nil];omega)
      have hlb:W3.heap[l]? =some (.loop {rec .ready none with state:= .busy}):=h6.get
      have hr:=run_endRound (P:=P) jump hlb
      have h7:=h6.putObj (o':= .loop (rec (if jump.isNone then .ready else .done) jump))
      refine⟨by rw [xa] at hr⊢;exact hr,?_⟩
      have h8:Sat w0 (W3.putObj l (.loop (rec (if jump.isNone then .ready else .done) jump))) ((Sh++ [.sem rest])++(A++ [.sem (Frame.obj l (.loop (rec (if jump.isNone then .ready else .done) jump))),dfE Dk true])):=by
        exact h7.perm (Yf fun f=>by simp only [List.map_append,List.map_cons,List.map_nil,List.sum_append,List.sum_cons,List.sum_nil];omega)
      exact h8.bundle.perm List.perm_append_comm
    intro e a3 W3 hp
    cases e with
    | normal=>
      obtain⟨s',hn,hA⟩:=hp
      obtain⟨hr,h6⟩:=fin none _ _ hA
      exact⟨_,_,hr,_,rfl,.inl ⟨rfl,s',hn,h6⟩⟩
    | ret=>
      obtain⟨t,hn,hj,hA⟩:=hp
      obtain⟨hr,h6⟩:=fin (some .ret) _ _ hA
      refine⟨_,_,hr,_,rfl,.inr ⟨rfl,t,hn,?_⟩⟩
      simp only [D',hj];exact h6
    | exit id=>
      obtain⟨t,hn,hj,hA⟩:=hp
      obtain⟨hr,h6⟩:=fin (some (.exit id)) _ _ hA
      refine⟨_,_,hr,_,rfl,.inr ⟨rfl,t,hn,?_⟩⟩
      simp only [D',hj];exact h6
    |goto t=>exact hp.elim
    |panic ch=>exact hp.elim
    |outgrown=>exact hp.elim
  ·
    have out:∀(st:LoopState) (pe:Option Code) (A:List Ent) (rest:Frame) (W2:World),st≠ .busy->Sat w0 W2 (.sem (Frame.bun (A++ [.sem (Frame.obj l (.loop (rec st pe))),dfE Dk true]))::(Sh++ [.sem rest]))->
        (Instr.endLoop l).run P W2= .ok pe (W2.putObj l (.loop {rec st pe with state:= .exhausted}))/\Sat w0 (W2.putObj l (.loop {rec st pe with state:= .exhausted})) (A++(Sh++ [.sem rest,dfE Dk true])):=fun st pe A rest W2 hst h=>by
      have h1:=Sat.unbun (l1:= []) h
      have h2:Sat w0 W2 ((A++(Sh++ [.sem rest,dfE Dk true]))++ .sem (Frame.obj l (.loop (rec st pe))):: []):=by
        exact h1.perm (Yf fun f=>by simp only [List.map_append,List.map_cons,List.map_nil,List.sum_append,List.sum_cons,List.sum_nil];omega)
      have hl:W2.heap[l]? =some (.loop (rec st pe)):=h2.get
      have h3:=h2.putObj (o':= .loop {rec st pe with state:= .exhausted})
      refine⟨?_,h3.sub (List.sublist_append_left _ _)⟩
      have:=run_endLoop (P:=P) hl (by rw [xa];exact hst)
      rw [xa] at this⊢;exact this
    rintro e W2 ⟨v,rfl,h⟩
    have hF':∀{L'},Frd a n ds L'->Frd {a with defers:= [mrk Dk]++a.defers} n (mrk Dk::ds) L':=fun h=>⟨h.size,by rw [<-h.defers];rfl,h.get⟩
    rcases h with⟨s,rest,qA,h⟩|⟨t,rest,qA,h⟩
    · obtain⟨h1,h2⟩:=out .ready none _ rest W2 (by simp) h
      exact⟨none,_,h1,bb Dk s rest _ qA h2 _ (hF' hF)⟩
    · obtain⟨h1,h2⟩:=out .done (some (jc t)) _ rest W2 (by simp) h
      refine⟨some (jc t),_,h1,?_⟩
      have h3:=aJ Dk t rest _ qA h2 _ (hF' hF)
      rcases hjc t with hj|⟨id,hj⟩
      · rw [hj] at h3⊢;exact wpIn_ret h3
      · rw [hj] at h3⊢;exact wpIn_exit h3
end
end Go.Proofs.Gw
namespace Go.Proofs.YtkichmnjjblodaaGreat
open Go Go.RowKit Go.Proofs.Gw
theorem ZkZ:Zc Tryz.prog 162=true:=by kernel_rfl
theorem ZkY:Zc Tryz.prog 163=true:=by kernel_rfl
theorem cl_164:Zc Tryz.prog 164=true:=by kernel_rfl
theorem ZkX:Zc Tryz.prog 165=true:=by kernel_rfl
theorem ZbY:ZW Tryz.prog 184=some (.agg #[.slice none 0 0,.slice none 0 0,.slice none 0 0,.int .i64 0,.int .i64 0,.int .i64 0],6,96):=by kernel_rfl
theorem fd_141_1:Zr Tryz.prog 141 1=some 1:=by kernel_rfl
theorem fd_184_0:Zr Tryz.prog 184 0=some 0:=by kernel_rfl
theorem WM:Zr Tryz.prog 184 1=some 5:=by kernel_rfl
theorem pl_49:ZM Tryz.prog 49=true:=by kernel_rfl
theorem Ue:Zy Tryz.prog 184=some 6:=by kernel_rfl
structure CX where
  u:Int
  vP:Value
  vv:Int->Value
  ml:Int->Int
  mf:Int->Int->Int
  vX:Value
  vY:Value
  s:So
  e:Int
inductive CRn (p:Prob):Int->(Int->Int)->(Int->Int->Int)->Int->Prop
  |start {u e:Int} {ml:Int->Int} {mf:Int->Int->Int} (h:Zdk p u ml mf e):CRn p u ml mf e
  |go {u na worth f:Int} {ml:Int->Int} {mf:Int->Int->Int} {a:Int->Int} {s:So} (h:CRn p u ml mf 0) (hs:MSolveR p u ml mf s 0) (hp:Zcn p s.m s.Y na a worth f) (hn:¬(f=0/\worth<=s.den)):CRn p (u+1) (gsn ml u na) (gsn mf u a) f
def ZgW(p:Prob)(s:So):Prop:=∃na a worth,Zcn p s.m s.Y na a worth 0/\worth<=s.den
def ZnV(x:CX):List Ent:= [.own x.vP 1 22 x.u x.vv,.sem (Frame.rows 3 x.u x.vv x.ml x.mf),.own x.vX 1 3 x.s.n (ints x.s.X),.own x.vY 1 3 x.s.m (ints x.s.Y)]
def ZiL(p:Prob)(s:List CX)(x:CX)(rest:Gw.Frame):Prop:=(∀y∈s,y.e=0)/\Slh x.vP x.u/\Slh x.vX x.s.n/\Slh x.vY x.s.m/\(x.e=0->Frame.gives rest (ZnV x))/\
  ∃e,CRn p x.u x.ml x.mf e/\((e≠0/\x.e=e/\x.s=So.zero)\/(e=0/\MSolveR p x.u x.ml x.mf x.s x.e))
def ZnW(p:Prob)(s:List CX)(rest:Gw.Frame):Prop:=∃s' x,s=s'++ [x]/\ZiL p s' x rest/\(x.e=0->ZgW p x.s)
theorem MSolveR.few{p:Prob}{u:Int}{ml:Int->Int}{mf:Int->Int->Int}{s:So}(h:MSolveR p u ml mf s 0):p.Ok/\u<=60/\s.m=p.m:=by
  rcases h with⟨_,_,h⟩|⟨_,_,_,h⟩|⟨_,_,_,_,_,_,h⟩|⟨h1,h2,h3,h4,h5,h6,h7⟩|⟨h1,h2,h3,h4,h5⟩
  · omega
  · omega
  · omega
  · exact⟨h1.1,h3,by rw [h6];rfl⟩
  · refine⟨h1.1,h3,?_⟩
    have:=(SolveR.chk (p:=Zhs p u mf) (by have:=h1.1.m1;show 0<=p.m;omega) h5 rfl).m
    exact this
theorem MSolveR.zero{p:Prob}{u e:Int}{ml:Int->Int}{mf:Int->Int->Int}{s:So}(h:MSolveR p u ml mf s e)(he:e≠0):s=So.zero:=by
  rcases h with⟨_,h,_⟩|⟨_,_,h,_⟩|⟨_,_,_,_,_,h,_⟩|⟨_,_,_,_,_,_,h⟩|⟨_,_,_,_,h⟩
  · exact h
  · exact h
  · exact h
  · exact absurd h he
  · exact h.zero he
theorem ZgD {v:Value} {n:Int} {vv:Int->Value} (w0:World) (ho:(Ent.own v 1 22 n vv).holds w0) (h1:∀k,0<=k->k<n->(vv k).oneCell'=true) (hn:n<=1000000):Calls Tryz.prog 163 [v].toArray w0 fun e w=>∃u,e= .returned u/\∃r,u=r/\Slh r n/\Sat w0 w [.own r 1 22 n vv]:=by
  have qt:=ho.row
  obtain⟨hn0,hn1,⟨rfl,rfl⟩|⟨g,cap,cur,rfl,hg,h2,h3,h4,h5⟩⟩:=ho
  · refine(WE 0 0 w0).mono fun e w ⟨he,hw⟩=>⟨_,he,_,rfl,slh_nil,?_⟩
    rw [hw]
    exact(Sat.start w0).addnil 1 22 vv
  · obtain⟨i,hi,hz,hs,hb⟩:=X1 Ya
    refine(VG i (.slice none 0 0) 1 24 hi hz hs hb rfl (by decide) (fun w=>by simp [sizeOf,typeInfo,hi,hs]) g 0 n.toNat cap (cellsOf vv n.toNat) w0 (by rw [YD];omega) (by unfold maxLen;omega) (by omega) (fun j u hj=> ?_) (fun u hu=> ?_)).mono fun e w ⟨r,he,hr,_,hB⟩=>⟨r,he,r,rfl,?_⟩
    · rw [cellsOf_get] at hj
      split at hj
      · rename_i hlt
        cases hj
        have:=qt.2 j (by omega)
        rw [<-this];simp [cad]
      · cases hj
    · obtain⟨j,hj⟩:=List.getElem?_of_mem hu
      rw [cellsOf_get] at hj
      split at hj
      · cases hj;exact h1 j (by omega) (by omega)
      · cases hj
    · have hE:(Ent.own r 1 22 n vv).holds w:=Ent.holds.of_owns hn0 (by omega) (by rw [Nat.mul_one];exact hr)
      exact⟨hE.row.slh,hB,fun e he=>by obtain rfl:=List.mem_singleton.1 he;exact hE,fun e he g hg=>by obtain rfl:=List.mem_singleton.1 he;exact(hr.lt g hg).1,List.pairwise_singleton _ _⟩
theorem Zch{vL vD:Value}{p:Prob}{gp:Nat}(w0:World)(h:PAt w0 vL vD p):ItC (St:=List CX) (X:=CX) (Tt:=CX) Tryz.prog w0 161 [.pointer (some ⟨gp,0,none⟩)] [.blk gp [vL,vD,.int .i64 p.stock,.int .i64 p.kerf]] (fun x=> [.agg #[x.vP,x.vX,x.vY,.int .i64 x.s.val,.int .i64 x.s.den,.int .i64 x.e]]) (ZiL p) (fun s x s1=>s1=s++ [x]) (fun _ _ _=>False) ([]) (ZnW p) (fun _ _=>False):=by
  intro l C D w hS hY
  have hm:=h.L.slh.n0;have hm1:=h.L.slh.n1;have hd:=h.D.slh.n0;have hd1:=h.D.slh.n1;have hs:=h.is;have hk:=h.ik
  refine ZeX Tryz.func161 Tryz.ntmps161 ?_
  refine hsq<|hrz ?_
  refine zlv (xls 1 st_32 hS) ?_
  refine zlc (xc0 ZkZ) (Zgl (p:=p) w (h.below hS.below)) ?_;rintro _ w ⟨bC,zE,aq,bD,bE,fZ,rfl,aR,cD,hS'⟩
  replace hS:Sat w0 w [.sem (C []),.blk gp [vL,vD,.int .i64 p.stock,.int .i64 p.kerf],.own bC 1 22 zE aq,.sem (Frame.rows 3 zE aq bD bE)]:=hS.comp hS';clear hS'
  have fh:=fun k (k0:0<=k) (k1:k<zE)=>hS.slhIn 3 rfl k0 k1
  refine zs5 ?_
  refine zln<|zh<|htn<|hbk<|hlp (fun mm M w=>∃(s:List CX) (u:Int) (wP:Value) (vv:Int->Value) (ml:Int->Int) (mf:Int->Int->Int) (e:Int),mm=((62-u).toNat)/\(CRn p u ml mf e)/\(∀y∈s,y.e=0)/\(Slh wP u)/\(u<=61)/\M= [(0,.func (.yield l) #[] #[]),(1,.pointer (some ⟨gp,0,none⟩)),(3,wP),(4,.int .i64 e)]/\Sat w0 w [.sem (C s),.blk gp [vL,vD,.int .i64 p.stock,.int .i64 p.kerf],.own wP 1 22 u vv,.sem (Frame.rows 3 u vv ml mf)]) ⟨[],zE,bC,aq,bD,bE,fZ,rfl,?_,?_,?_,?_,rfl,hS⟩ ?_
  ·
   exact .start aR
  ·
   intro y hy;cases hy
  ·
   exact cD
  ·
   rcases aR with⟨_,h9,_⟩|⟨h9,h8,_⟩
   · omega
   · have:=Ki p p.m.toNat;have:=h9.m2;have:=h9.m1;omega
  clear hS w
  rintro mm M w ⟨s,u,wP,vv,ml,mf,e,rfl,hRn,xz,hsP,jD,rfl,hS⟩
  have hrs:=fun k (k0:0<=k) (k1:k<u)=>hS.slhIn 3 rfl k0 k1
  have hu0:=hsP.n0
  refine hbk<|hsq<|hrz ?_
  refine zlv xmv ?_
  refine zlc (xc0 ZkY) (ZgD w (hS.holds _ (List.mem_of_getElem? (i:=2) rfl)) (fun k k0 k1=>(hS.slhIn 3 rfl k0 k1).one) (by omega)) ?_;rintro qX w ⟨_,rfl,yl,hS'⟩
  replace hS:Sat w0 w [.sem (C s),.blk gp [vL,vD,.int .i64 p.stock,.int .i64 p.kerf],.own wP 1 22 u vv,.sem (Frame.rows 3 u vv ml mf),.own qX 1 22 u vv]:=hS.comp hS';clear hS'
  refine zlv (xany (v:= .agg #[qX,.slice none 0 0,.slice none 0 0,.int .i64 0,.int .i64 0]) (hr:=by obtain⟨_,_,_,_,rfl,_⟩:=yl;kernel_rfl)) ?_
  refine zlv xmv ?_
  refine zlv (xany (v:= .agg #[qX,.slice none 0 0,.slice none 0 0,.int .i64 0,.int .i64 0,.int .i64 e]) (hr:=by obtain⟨_,_,_,_,rfl,_⟩:=yl;kernel_rfl)) ?_
  refine zla (xal (cs:= [_,_,_,_,_,_]) ZbY hS) ?_;rintro _ w ⟨g1,rfl,hS⟩
  replace hS:=hS.n6
  refine zle (xsw 5 Ue hS (hd:=(Za yl.one (Za rfl (Za rfl (Za rfl (Za rfl (Za rfl Zi)))))))) ?_;clear hS;rintro w hS
  replace hS:=hS.n6
  refine zln<|zh<|htn<|hsq<|hsq<|hrz ?_
  refine zs2 ?_
  refine zln<|zh<|htn ?_
  refine Y0 ?_ ?_<;>intro hc
  ·
   refine hrz ?_
   refine zlv (xls 1 st_32 hS) ?_
   refine zlv xmv ?_
   refine zlc (xc0 cl_164) (c_msolve (p:=p) (u:=u) (ml:=ml) (mf:=mf) w (h.below hS.below) (⟨(hS.rowN 2 rfl),fun k k0 k1=>hS.rowIn 3 rfl k0 k1,fun k k0 k1=>hS.roomIn 3 rfl k0 k1⟩:MAt _ wP u vv ml mf)) ?_;rintro _ w ⟨yB,yA,qO,af,rfl,aS,aG,aF,hS'⟩
   replace hS:Sat w0 w [.sem (C s),.blk gp [vL,vD,.int .i64 p.stock,.int .i64 p.kerf],.own wP 1 22 u vv,.sem (Frame.rows 3 u vv ml mf),.own qX 1 22 u vv,.blk g1 [qX,.slice none 0 0,.slice none 0 0,.int .i64 0,.int .i64 0,.int .i64 e],.own yB 1 3 qO.n (ints qO.X),.own yA 1 3 qO.m (ints qO.Y)]:=hS.comp hS';clear hS'
   refine zs3 ?_
   refine zlv (xfb 0 fd_184_0) ?_
   refine zlv (xfb 1 fd_141_1) ?_
   refine zle (xsp 5 ZL hS (hd:=(Za aG.one (Za aF.one (Za rfl (Za rfl Zi)))))) ?_;clear hS;rintro w hS
   replace hS:=hS.n8
   refine zlv (xfb 5 WM) ?_
   refine zle (xsb 5 pl_49 hS) ?_;clear hS;rintro w hS
   replace hS:=hS.n8
   refine zln<|zh<|htn<|hsq<|hsq<|hrg ?_
   refine hlv xmv ?_
   refine hlv (xls 5 Ue hS) ?_
   have qL:ZiL p s ⟨u,qX,vv,ml,mf,yB,yA,qO,af⟩ (Frame.bun [.own wP 1 22 u vv,.sem (Frame.rows 3 u vv ml mf),.own qX 1 22 u vv,.blk g1 [qX,yB,yA,.int .i64 qO.val,.int .i64 qO.den,.int .i64 af],.own yB 1 3 qO.n (ints qO.X),.own yA 1 3 qO.m (ints qO.Y)]):=⟨xz,yl,aG,aF,fun _=>TA [2,1,4,5],e,hRn,.inr ⟨by assumption,aS⟩⟩
   refine hly (hY s _ _ w qL (Sat.bundle (l1:= [_,_]) hS)) ?_;rintro _ w (⟨rfl,sy1,qu,hS⟩|⟨rfl,ty1,xb,hS⟩)
   ·
    replace hS:=Sat.unbundle (l1:= [_,_]) (l3:= []) hS
    replace hS:=hS.n8
    refine hlv xnt ?_
    refine hlv xmv ?_
    refine hlv (xfb 5 WM) ?_
    refine hlv (xlb 5 pl_49 hS) ?_
    refine hlv YY ?_
    refine hlv xpf ?_
    refine hln<|htn ?_
    refine Y0 ?_ ?_<;>intro hc
    ·
     refine hrt<|ztr<|zbr<|ztr<|zbr<|zf0 ⟨_,rfl,?_⟩
     subst qu
     exact .inl ⟨_,_,⟨s,_,rfl,⟨qL.1,qL.2.1,qL.2.2.1,qL.2.2.2.1,fun _=>TA [2,1,4,5],qL.2.2.2.2.2⟩,by first|exact fun hh=>absurd hh (by assumption)|exact fun _=>⟨_,_,_,(by rw [show(0:Int)=zc by omega];exact ye),by show ah<=qO.den;omega⟩⟩,Sat.bundle (l1:= [_,_]) hS⟩
    refine hsk<|htn<|hsq<|hrz ?_
    refine zlv (xls 1 st_32 hS) ?_
    refine zlv (xfb 0 fd_184_0) ?_
    refine zlv (xfb 1 fd_141_1) ?_
    refine zlv (xfb 2 fd_139_1) ?_
    refine zlv (xlb 5 pl_22 hS) ?_
    refine zlc (xc0 ZkX) (Zig (p:=p) (n:=qO.m) (y:=qO.Y) w (h.below hS.below) (hS.rowN 7 rfl)) ?_;rintro _ w ⟨xK,ax,ag,ah,zc,rfl,yP,yL,hS'⟩
    replace hS:Sat w0 w [.sem (C sy1),.blk gp [vL,vD,.int .i64 p.stock,.int .i64 p.kerf],.own wP 1 22 u vv,.sem (Frame.rows 3 u vv ml mf),.own qX 1 22 u vv,.blk g1 [qX,yB,yA,.int .i64 qO.val,.int .i64 qO.den,.int .i64 af],.own yB 1 3 qO.n (ints qO.X),.own yA 1 3 qO.m (ints qO.Y),.own xK 1 3 ax (ints ag)]:=hS.comp hS';clear hS'
    refine zs2 ?_
    have hfe:=aS;rw [show af=0 by omega] at hfe
    obtain⟨hok,fg,hsm⟩:=hfe.few
    refine zs5 ?_
    refine zln<|zh<|htn<|hsq<|hsq<|hrz ?_
    refine zs3 ?_
    refine zlb 51 ?_ ?_<;>intro hc
    ·
     refine zlv xmv ?_
     refine zlv (xfb 0 fd_184_0) ?_
     refine zlv (xfb 1 fd_141_1) ?_
     refine zlv (xfb 4 fd_139_3) ?_
     refine zlv (xlb 5 pl_3 hS) ?_
     refine zs2 ?_
     have ye:=yP
     refine zln<|zh<|htn ?_
     refine Y0 ?_ ?_<;>intro hc
     ·
      refine hrt<|ztr<|zbr<|ztr<|zbr<|zf0 ⟨_,rfl,?_⟩
      subst qu
      exact .inl ⟨_,_,⟨s,_,rfl,⟨qL.1,qL.2.1,qL.2.2.1,qL.2.2.2.1,fun _=>TA [2,1,4,5],qL.2.2.2.2.2⟩,by first|exact fun hh=>absurd hh (by assumption)|exact fun _=>⟨_,_,_,(by rw [show(0:Int)=zc by omega];exact ye),by show ah<=qO.den;omega⟩⟩,Sat.bundle (l1:= [_,_]) hS⟩
     refine hsk<|htn<|hrz ?_
     refine zs2 ?_
     refine zla (xli (n:=1) (len:=1) (pv:= [(0,xK)]) (cs:= [xK]) (c:=(fun _=>xK)) Zm Ya hS (hf:=by obtain⟨_,_,_,_,rfl,_⟩:=yL;kernel_rfl)) ?_;rintro v1 w ⟨hS,hv1⟩
     replace hS:=hS.n10
     refine zla (xap 2 (r:=u+1) Zm Ya hS (hS.rowN 9 rfl) (Xs _ _ _) (h1:=fun _ _ _=>yL.one)) ?_;rintro v2 w ⟨hS,hv2⟩
     replace hS:=hS.n10
     replace hS:=Sat.merge (l1:= [_,_,_]) (l2:= [_,_,_,_]) (l3:= [_]) hS (by omega)
     have qY:=fun k (k0:0<=k) (k1:k<u+1)=>hS.slhIn 3 rfl k0 k1
     replace hS:=hS.n9
     refine zs3 ?_
     refine zln<|zh<|zbn<|hlq ⟨sy1,u+1,v2,gsn vv u xK,gsn ml u ax,gsn mf u ag,zc,rfl,?_,?_,?_,?_,rfl,hS.pk [0,1,2,3]⟩
     ·
      exact .go (by rw [show(0:Int)=e by omega];exact hRn) hfe yP (by omega)
     ·
      rw [qu];intro y hy;rcases List.mem_append.1 hy with hy|hy
      · exact xz y hy
      · obtain rfl:=List.mem_singleton.1 hy;show af=0;omega
     ·
      exact hv2
     ·
      omega
    iterate 6 refine zlo ?_
    refine zlv xpf ?_
    have ye:=yP
    refine zln<|zh<|htn<|hcf<|hsk<|htn<|hrz ?_
    refine zs2 ?_
    refine zla (xli (n:=1) (len:=1) (pv:= [(0,xK)]) (cs:= [xK]) (c:=(fun _=>xK)) Zm Ya hS (hf:=by obtain⟨_,_,_,_,rfl,_⟩:=yL;kernel_rfl)) ?_;rintro v3 w ⟨hS,hv3⟩
    replace hS:=hS.n10
    refine zla (xap 2 (r:=u+1) Zm Ya hS (hS.rowN 9 rfl) (Xs _ _ _) (h1:=fun _ _ _=>yL.one)) ?_;rintro v4 w ⟨hS,hv4⟩
    replace hS:=hS.n10
    replace hS:=Sat.merge (l1:= [_,_,_]) (l2:= [_,_,_,_]) (l3:= [_]) hS (by omega)
    have yz:=fun k (k0:0<=k) (k1:k<u+1)=>hS.slhIn 3 rfl k0 k1
    replace hS:=hS.n9
    refine zs3 ?_
    refine zln<|zh<|zbn<|hlq ⟨sy1,u+1,v4,gsn vv u xK,gsn ml u ax,gsn mf u ag,zc,rfl,?_,?_,?_,?_,rfl,hS.pk [0,1,2,3]⟩
    ·
     exact .go (by rw [show(0:Int)=e by omega];exact hRn) hfe yP (by omega)
    ·
     rw [qu];intro y hy;rcases List.mem_append.1 hy with hy|hy
     · exact xz y hy
     · obtain rfl:=List.mem_singleton.1 hy;show af=0;omega
    ·
     exact hv4
    ·
     omega
   ·
    replace hS:=Sat.unbundle (l1:= [_,_]) (l3:= []) hS
    replace hS:=hS.n8
    refine hlv xnf ?_
    refine hlv xmv ?_
    iterate 3 refine hlo ?_
    refine hlv xpt ?_
    refine hln<|htn<|hct<|hrt<|ztr<|zbr<|ztr<|zbr<|zf0 ⟨_,rfl,?_⟩
    exact xb.elim
  refine hsk<|htn<|hsq<|hsq<|hrg ?_
  refine hlv xmv ?_
  refine hlv (xls 5 Ue hS) ?_
  have xT:ZiL p s ⟨u,qX,vv,ml,mf,.slice none 0 0,.slice none 0 0,So.zero,e⟩ (Frame.bun [.own wP 1 22 u vv,.sem (Frame.rows 3 u vv ml mf),.own qX 1 22 u vv,.blk g1 [qX,.slice none 0 0,.slice none 0 0,.int .i64 0,.int .i64 0,.int .i64 e]]):=⟨xz,yl,slh_nil,slh_nil,fun hh=>absurd hh (by assumption),e,hRn,.inl ⟨by assumption,rfl,rfl⟩⟩
  refine hly (hY s _ _ w xT (Sat.bundle (l1:= [_,_]) hS)) ?_;rintro _ w (⟨rfl,sy2,ft,hS⟩|⟨rfl,ty2,fK,hS⟩)
  ·
   replace hS:=Sat.unbundle (l1:= [_,_]) (l3:= []) hS
   replace hS:=hS.n6
   refine hlv xnt ?_
   refine hlv xmv ?_
   refine hlv (xfb 5 WM) ?_
   refine hlv (xlb 5 pl_49 hS) ?_
   refine hlv YY ?_
   refine hlv xpf ?_
   refine hln<|htn ?_
   refine Y0 ?_ ?_<;>intro hc
   ·
    refine hrt<|ztr<|zbr<|ztr<|zbr<|zf0 ⟨_,rfl,?_⟩
    subst ft
    exact .inl ⟨_,_,⟨s,_,rfl,⟨xT.1,xT.2.1,xT.2.2.1,xT.2.2.2.1,fun hh=>absurd hh (by assumption),xT.2.2.2.2.2⟩,by first|exact fun hh=>absurd hh (by assumption)|exact fun _=>⟨_,_,_,(by rw [show(0:Int)=zc by omega];exact ye),by show ah<=qO.den;omega⟩⟩,Sat.bundle (l1:= [_,_]) hS⟩
   exfalso;omega
  ·
   replace hS:=Sat.unbundle (l1:= [_,_]) (l3:= []) hS
   replace hS:=hS.n6
   refine hlv xnf ?_
   refine hlv xmv ?_
   iterate 3 refine hlo ?_
   refine hlv xpt ?_
   refine hln<|htn<|hct<|hrt<|ztr<|zbr<|ztr<|zbr<|zf0 ⟨_,rfl,?_⟩
   exact fK.elim
theorem Zec{vL vD:Value}{p:Prob}(w0:World)(h:PAt w0 vL vD p):
    Calls Tryz.prog 124 [.agg #[vL,vD,.int .i64 p.stock,.int .i64 p.kerf]].toArray w0 fun e w=>∃v,e= .returned v/\∃g,v= .func (.func 161) #[] #[.pointer (some ⟨g,0,none⟩)]/\Sat w0 w [.blk g [vL,vD,.int .i64 p.stock,.int .i64 p.kerf]]:=by
  refine zenG Tryz.func124 Tryz.ntmps124 fun w hS=> ?_
  refine zsr<|zla (xbx (cs:= [_,_,_,_]) hS) ?_;rintro _ w ⟨g1,rfl,hS⟩
  refine(zP)<|zlz<|(zV xmf)<|(zP)<|zx1<|zf1 ⟨_,rfl,?_⟩
  exact⟨_,rfl,hS⟩
end Go.Proofs.YtkichmnjjblodaaGreat
namespace Go.Proofs.YtkichmnjjblodaaGreat
open Go Go.RowKit Go.Proofs.Gw
theorem Zlk:Zc Tryz.prog 124=true:=by kernel_rfl
theorem Zk0:Zc Tryz.prog 161=true:=by kernel_rfl
theorem ZbZ:ZW Tryz.prog 141=some (.agg #[.slice none 0 0,.slice none 0 0,.slice none 0 0,.int .i64 0,.int .i64 0],5,88):=by kernel_rfl
theorem Xf:Zy Tryz.prog 141=some 5:=by kernel_rfl
def CX.zer:CX:=⟨0,.slice none 0 0,fun _=>undef,fun _=>0,fun _ _=>0,.slice none 0 0,.slice none 0 0,So.zero,0⟩
def VW(s:List CX):CX:=s.getLast?.getD CX.zer
theorem Ty(s:List CX)(x:CX):VW (s++ [x])=x:=by simp [VW]
def ColR(p:Prob)(u:Int)(ml:Int->Int)(mf:Int->Int->Int)(s:So)(e:Int):Prop:=(¬p.Ok/\u=0/\s=So.zero/\e=1)\/
  (p.Ok/\e≠0/\u=0/\s=So.zero/\∃u1 ml1 mf1 e1,CRn p u1 ml1 mf1 e1/\((e1≠0/\e=e1)\/(e1=0/\∃s1,MSolveR p u1 ml1 mf1 s1 e)))\/(p.Ok/\e=0/\CRn p u ml mf 0/\MSolveR p u ml mf s 0/\ZgW p s)
theorem Zbl{vL vD:Value}{p:Prob}(w0:World)(h:PAt w0 vL vD p):
    Calls Tryz.prog 86 [.agg #[vL,vD,.int .i64 p.stock,.int .i64 p.kerf]].toArray w0 fun e w=>∃v,e= .returned v/\∃vP vv vX vY u ml mf s e,v= .tuple #[.agg #[vP,vX,vY,.int .i64 s.val,.int .i64 s.den],.int .i64 e]/\ColR p u ml mf s e/\Slh vP u/\Slh vX s.n/\Slh vY s.m/\Sat w0 w [.own vP 1 22 u vv,.sem (Frame.rows 3 u vv ml mf),.own vX 1 3 s.n (ints s.X),.own vY 1 3 s.m (ints s.Y)]:=by
  have hm:=h.L.slh.n0;have hm1:=h.L.slh.n1;have hd:=h.D.slh.n0;have hd1:=h.D.slh.n1;have hs:=h.is;have hk:=h.ik
  refine ZhA Tryz.func86 Tryz.ntmps86 fun w hS=> ?_
  refine hsq<|hrz ?_
  refine zla (xbx (cs:= [_,_,_,_]) hS) ?_;rintro _ w ⟨g1,rfl,hS⟩
  refine zla (xal (cs:= [_,_,_,_,_]) ZbZ hS) ?_;rintro _ w ⟨g2,rfl,hS⟩
  refine(zP)<|zln<|zh<|htn<|hsq<|hsq<|hrz ?_
  refine(zV (xls 0 st_32 hS))<|zlc (xc0 XL) (Yb (p:=p) w (h.below hS.below)) ?_;rintro _ w ⟨rfl,hS'⟩
  replace hS:=hS.cmp hS';clear hS'
  refine(zP)<|zln<|zh<|htn ?_
  refine Y0 ?_ ?_<;>intro hc
  ·
   refine hsq<|hrz ?_
   refine(zV (xany (v:= .agg #[.slice none 0 0,.slice none 0 0,.slice none 0 0,.int .i64 0,.int .i64 0])))<|zle (xsw 1 Xf hS) ?_;clear hS;rintro w hS
   refine(zP)<|zln<|zh<|htn<|hrt<|ztr<|Zjz<|Yp 1 Xf hS ⟨_,rfl,?_⟩
   exact⟨_,fun _=>undef,_,_,0,fun _=>0,fun _ _=>0,So.zero,1,rfl,.inl ⟨‹¬p.Ok›,rfl,rfl,rfl⟩,slh_nil,slh_nil,slh_nil,((((hS.sub (.cons _ (.cons _ .slnil))).addnil 1 22 (fun _=>undef)).addrows 3 (fun _=>undef) (fun _=>0) (fun _ _=>0)).addnil 1 3 (ints So.zero.X)).addnil 1 3 (ints So.zero.Y)⟩
  refine hsk<|htn<|hsq<|hrz ?_
  refine zla (xal (cs:= [_,_,_,_,_,_]) ZbY hS) ?_;rintro _ w ⟨g3,rfl,hS⟩
  refine zln<|zh<|htn<|hsq<|hsq<|hrz ?_
  refine zlv (xls 0 st_32 hS) ?_
  have hok:p.Ok:=by first|assumption|exact Classical.not_not.1 ‹_›
  refine zlc (xc0 Zlk) (Zec (p:=p) w (h.below hS.below)) ?_;rintro _ w ⟨g4,rfl,hS'⟩
  replace hS:=(hS.comp hS').n4;clear hS'
  refine zln<|zh<|htn<|hbk<| ?_
  refine hrf (St:=List CX) (X:=CX) (Tt:=CX) (fun s=> [.blk g1 [vL,vD,.int .i64 p.stock,.int .i64 p.kerf],.blk g2 [.slice none 0 0,.slice none 0 0,.slice none 0 0,.int .i64 0,.int .i64 0],.blk g3 [(VW s).vP,(VW s).vX,(VW s).vY,.int .i64 ((VW s).s.val),.int .i64 ((VW s).s.den),.int .i64 ((VW s).e)]]) (fun t=> []) (fun _=> .ret) [] (fun x M es=>∃(g5:Nat),M= [(0,.agg #[vL,vD,.int .i64 p.stock,.int .i64 p.kerf]),(1,.pointer (some ⟨g1,0,none⟩)),(2,.pointer (some ⟨g2,0,none⟩)),(3,.int .i64 0),(6,.agg #[vL,vD,.int .i64 p.stock,.int .i64 p.kerf]),(7,B (p.Ok)),(8,B (¬(p.Ok))),(4,.pointer (some ⟨g3,0,none⟩)),(10,.agg #[vL,vD,.int .i64 p.stock,.int .i64 p.kerf]),(11,.func (.func 161) #[] #[.pointer (some ⟨g4,0,none⟩)]),(12,.agg #[x.vP,x.vX,x.vY,.int .i64 x.s.val,.int .i64 x.s.den,.int .i64 x.e]),(5,.pointer (some ⟨g5,0,none⟩))]/\es= [.blk g5 [x.vP,x.vX,x.vY,.int .i64 x.s.val,.int .i64 x.s.den,.int .i64 x.e]]) (Zch (gp:=g4) w0 h) (hS) Zk0 (fun _=>rfl) (fun _=> .inl rfl) ?_ ?_ ?_ ?_
  ·
   intro lq s x rest w qr qJ hrr hS
   have hxP:=qr.2.1;have hxX:=qr.2.2.1;have hxY:=qr.2.2.2.1
   refine hrz ?_
   refine zla (xal (cs:= [_,_,_,_,_,_]) ZbY hS) ?_;rintro _ w ⟨g5,rfl,hS⟩
   refine zle (xsw 5 Ue hS (hd:=(Za hxP.one (Za hxX.one (Za hxY.one (Za rfl (Za rfl (Za rfl Zi)))))))) ?_;clear hS;rintro w hS
   refine zln<|zh<|ZeY ⟨g5,rfl,rfl⟩ hS
  ·
   rintro lq s x _ _ rest w qr ⟨g5,rfl,rfl⟩ qJ hrr hS
   have hxP:=qr.2.1;have hxX:=qr.2.2.1;have hxY:=qr.2.2.2.1
   refine hbk<|hrz ?_
   refine(zV (xls 5 Ue hS))<|zle (xsw 2 Ue hS (hd:=(Za hxP.one (Za hxX.one (Za hxY.one (Za rfl (Za rfl (Za rfl Zi)))))))) ?_;clear hS;rintro w hS
   refine zln<|zh<|zbn ?_
   obtain⟨s1,hs1⟩:∃s1,s1=s++ [x]:=⟨_,rfl⟩
   have e1:VW s1=x:=by rw [hs1,Ty]
   rw [<-e1] at hS
   refine ZbU s1 hs1 (hS.pk [0,1,2,3,4])
  ·
   intro Dk s rest w qA hS
   obtain⟨s9,x,rfl,qr,ez⟩:=qA
   have hxP:=qr.2.1;have hxX:=qr.2.2.1;have hxY:=qr.2.2.2.1
   rw [Ty] at hS
   refine zbn<|htn<|hsq<|hsq<|hrz ?_
   refine(zV (xfb 5 WM))<|(zV (xlb 2 pl_49 hS))<|(zP)<|zln<|zh<|htn ?_
   refine Y0 ?_ ?_<;>intro hc
   ·
    refine hsq ?_
    refine hdst [0,1,2,3,4,5] [0,2,3,4,5] 3 mx_ hS ?_;clear hS;intro w hS
    refine(zDw 0 (xany (v:= .agg #[.slice none 0 0,.slice none 0 0,.slice none 0 0,.int .i64 0,.int .i64 0])))<|(zDw 1 (xfb 5 WM))<|(zDl 2 (fun w hS=>(xlb 1 pl_49 hS)))<|zde 3 (xsw 1 Xf hS) ?_;clear hS;rintro w hS
    refine⟨⟨fun h=>absurd h (by decide),hS.pk [0,2,3,4,5]⟩,?_⟩
    refine(zDw 4 xas)<|zdd<|zh<|htn<|hrt<|ztr<|ZbV 5 hS fun w hS=>Yp 1 Xf hS ⟨_,rfl,?_⟩
    obtain⟨e1,hc1,hc2⟩:=qr.2.2.2.2.2
    exact⟨_,fun _=>undef,_,_,0,fun _=>0,fun _ _=>0,So.zero,x.e,rfl,.inr (.inl ⟨hok,by assumption,rfl,rfl,_,_,_,e1,hc1,by rcases hc2 with⟨q1,q2,_⟩|⟨q1,q2⟩;exact .inl ⟨q1,q2⟩;exact .inr ⟨q1,_,q2⟩⟩),slh_nil,slh_nil,slh_nil,((((hS.sub (.cons _ (.cons _ (.cons _ (.cons _ (.cons _ (.cons _ .slnil))))))).addnil 1 22 (fun _=>undef)).addrows 3 (fun _=>undef) (fun _=>0) (fun _ _=>0)).addnil 1 3 (ints So.zero.X)).addnil 1 3 (ints So.zero.Y)⟩
   refine hsk<|htn<|hsq<|hrz ?_
   refine(zV (xfb 0 fd_184_0))<|(zV (xlp 2 (ds:= [x.vP,x.vX,x.vY,.int .i64 x.s.val,.int .i64 x.s.den]) Xf hS))<|zle (xsw 1 Xf hS (hd:=(Za hxP.one (Za hxX.one (Za hxY.one (Za rfl (Za rfl Zi))))))) ?_;clear hS;rintro w hS
   refine(zP)<|zln<|zh<|htn<|hrt<|ZbV 5 hS fun w hS=>Yp 1 Xf hS ⟨_,rfl,?_⟩
   have hx0:x.e=0:=by omega
   obtain⟨e1,hc1,hc2⟩:=qr.2.2.2.2.2
   obtain⟨q1,q2⟩:e1=0/\MSolveR p x.u x.ml x.mf x.s 0:=by rcases hc2 with⟨q1,q2,_⟩|⟨q1,q2⟩;exact absurd (by omega) q1;exact⟨q1,hx0▸q2⟩
   subst q1
   replace hS:=hS.given 4 (qr.2.2.2.2.1 hx0)
   replace hS:=Sat.unbundle (l1:= [_,_,_,_]) (l3:= [_]) hS
   exact⟨_,x.vv,_,_,_,_,_,x.s,0,rfl,.inr (.inr ⟨hok,rfl,hc1,q2,ez hx0⟩),hxP,hxX,hxY,hS.pk [4,5,6,7]⟩
  ·
   intro Dk t rest w qA hS
   exact qA.elim
end Go.Proofs.YtkichmnjjblodaaGreat
namespace Go.Proofs.YtkichmnjjblodaaGreat
open Go Go.RowKit Go.Proofs.Gw
variable {ml y:Int->Int} {mf:Int->Int->Int}
theorem wc_top{p:Prob}(hp:p.Ok){x:Int->Int}(hx:∀i,0<=i->i<p.m->0<=x i/\x i<=p.D i)(hu:ZC p x p.m.toNat<=p.stock+p.kerf):Zd (fun i=>x i*y i) p.m.toNat<=WC p y:=by
  have hm:=hp.m1;have hk:=hp.k1
  refine Zmf (t:=X0 p y) (by show 0<=p.m;omega) (fun i i0 i1=> ?_) hx hu
  have:=hp.all i i0 i1
  unfold Prob.each at this
  show 1<=p.L i+p.kerf
  omega
theorem ZbP{p:Prob}(hp:p.Ok)(hy:∀i,0<=i->i<p.m->0<=y i){W q:Int}{u:Nat}{x:Int->Int}{f:Int->Int->Int}{D:Int->Int}(hx:∀j,0<=j->j<(u:Int)->0<=x j)(hW:∀j,0<=j->j<(u:Int)->Zd (fun k=>f j k*y k) p.m.toNat<=W)
    (hb:∀k,0<=k->k<p.m->D k*q<=Zd (fun j=>f j k*x j) u):Zd (fun k=>D k*y k) p.m.toNat*q<=Zd x u*W:=by
  have hm:=hp.m1
  have e1:Zd (fun k=>D k*y k) p.m.toNat*q=Zd (fun k=>D k*q*y k) p.m.toNat:=by
    rw [<-YF];exact Zj fun k _ _=>by grind
  have e2:Zd (fun k=>D k*q*y k) p.m.toNat<=Zd (fun k=>Zd (fun j=>f j k*x j) u*y k) p.m.toNat:=Z8 fun k k0 k1=>Int.mul_le_mul_of_nonneg_right (hb k k0 (by omega)) (hy k k0 (by omega))
  have e3:Zd (fun k=>Zd (fun j=>f j k*x j) u*y k) p.m.toNat=Zd (fun k=>Zd (fun j=>f j k*x j*y k) u) p.m.toNat:=Zj fun k _ _=>(YF _ _ _).symm
  have e4:Zd (fun k=>Zd (fun j=>f j k*x j*y k) u) p.m.toNat=Zd (fun j=>Zd (fun k=>f j k*x j*y k) p.m.toNat) u:=Vp (fun j k=>f j k*x j*y k) u p.m.toNat
  have e5:Zd (fun j=>Zd (fun k=>f j k*x j*y k) p.m.toNat) u<=Zd (fun j=>x j*W) u:=Z8 fun j j0 j1=>by
    have:Zd (fun k=>f j k*x j*y k) p.m.toNat=Zd (fun k=>f j k*y k) p.m.toNat*x j:=by
      rw [<-YF];exact Zj fun k _ _=>by grind
    rw [this,Int.mul_comm (x j)]
    exact Int.mul_le_mul_of_nonneg_right (hW j j0 j1) (hx j j0 j1)
  rw [YF] at e5
  omega
structure MOk (p:Prob) (u:Int) (ml:Int->Int) (mf:Int->Int->Int) (s:So):Prop where
  pats:RZ p u ml mf
  u0:0<=u
  n:s.n=u
  m:s.m=p.m
  d1:1<=s.den
  d2:s.den<=1073741824
  v:0<=s.val/\s.val<=1073741824
  X:∀j,0<=j->j<u->0<=s.X j/\s.X j<=1073741824
  Y:∀i,0<=i->i<p.m->0<=s.Y i/\s.Y i<=1073741824
  rows:∀k,0<=k->k<p.m->p.D k*s.den<=Zd (fun j=>mf j k*s.X j) u.toNat
  cols:∀j,0<=j->j<u->Zd (fun k=>mf j k*s.Y k) p.m.toNat<=s.den
  cX:Zd s.X u.toNat=s.val
  bY:Zd (fun k=>p.D k*s.Y k) p.m.toNat=s.val
theorem MSolveR.ok{p:Prob}{u:Int}{s:So}(hu:0<=u)(h:MSolveR p u ml mf s 0):MOk p u ml mf s:=by
  rcases h with⟨_,_,h⟩|⟨_,_,_,h⟩|⟨_,_,_,_,_,_,h⟩|⟨h1,h2,h3,h4,h5,h6,h7⟩|⟨h1,h2,h3,h4,h5⟩
  · omega
  · omega
  · omega
  · have hm:=h1.1.m1;have hd:=h1.1.d
    subst h6;subst h4
    have z:∀f:Int->Int,Zd (fun k=>f k*0) p.m.toNat=0:=fun f=>by rw [YF,Int.mul_zero]
    refine⟨h1,by omega,rfl,rfl,by show(1:Int)<=1;decide,by show(1:Int)<=1073741824;decide,⟨Int.le_refl _,by show(0:Int)<=1073741824;decide⟩,fun j a b=>by omega,fun i _ _=>⟨Int.le_refl _,by show(0:Int)<=1073741824;decide⟩,fun k k0 k1=> ?_,fun j a b=>by omega,rfl,z p.D⟩
    have:=h5 k k0 (by omega)
    show p.D k*1<=0
    omega
  · have hm:=h1.1.m1
    have hc:=SolveR.chk (p:=Zhs p u mf) (by show 0<=p.m;omega) h5 rfl
    have hv:s.val=Zd s.X u.toNat:=by
      have:=hc.cX
      rw [<-this];exact Zj fun k _ _=>by show 1*s.X k=_;omega
    refine⟨h1,by omega,hc.n,hc.m,hc.d1,hc.d2,⟨?_,hc.v.2⟩,hc.X,hc.Y,fun k k0 k1=> ?_,fun j j0 j1=> ?_,hv.symm,hc.bY⟩
    · rw [hv];exact Z3 fun j j0 j1=>(hc.X j j0 (by show j<u;omega)).1
    · exact hc.rows k k0 k1
    · have:=hc.cols j j0 j1
      have e:(Zhs p u mf).c j*s.den=s.den:=by show 1*s.den=_;omega
      rw [e] at this;exact this
theorem ZdC{p:Prob}{n:Int}{a:Int->Int}(h:Z4 p n a):(∀i,0<=i->i<p.m->0<=a i/\a i<=p.D i)/\ZC p a p.m.toNat<=p.stock+p.kerf:=
  ⟨fun i i0 i1=>⟨(h.1.all i i0 i1).1,h.2 i i0 (by rw [h.1.eq];exact i1)⟩,h.1.used⟩
theorem MOk.bound{p:Prob}{u:Int}{s:So}(h:MOk p u ml mf s)(hy:∀i,0<=i->i<p.m->0<=y i):Zd (fun k=>p.D k*y k) p.m.toNat*s.den<=s.val*WC p y:=by
  have hp:=h.pats.1
  have hu:=h.u0
  rw [<-h.cX]
  refine ZbP hp hy (fun j j0 j1=>(h.X j j0 (by omega)).1) (fun j j0 j1=> ?_) h.rows
  obtain⟨h1,h2⟩:=ZdC (h.pats.2 j j0 (by omega))
  exact wc_top hp h1 h2
theorem Zfx{p:Prob}{s:So}(h:ZgW p s):WC p s.Y<=s.den:=by
  obtain⟨na,a,worth,h1,h2⟩:=h
  rcases h1 with⟨_,_,_,h1⟩|⟨_,_,_,_,h1,_⟩
  · omega
  · omega
theorem MOk.own{p:Prob}{u:Int}{s:So}(h:MOk p u ml mf s)(hc:WC p s.Y<=s.den):s.val*s.den=s.val*WC p s.Y:=by
  have h1:=h.bound (y:=s.Y) fun i i0 i1=>(h.Y i i0 i1).1
  rw [h.bY] at h1
  have:=Int.mul_le_mul_of_nonneg_left hc h.v.1
  omega
theorem ColR.okS{p:Prob}{u e:Int}{s:So}(hu:0<=u)(h:ColR p u ml mf s e)(he:e=0):MOk p u ml mf s/\WC p s.Y<=s.den:=by
  rcases h with⟨_,_,_,h⟩|⟨_,h,_⟩|⟨_,_,_,h1,h2⟩
  · omega
  · exact absurd he h
  · exact⟨h1.ok hu,Zfx h2⟩
end Go.Proofs.YtkichmnjjblodaaGreat
namespace Go.Proofs.Gw
open Go Go.RowKit
variable {a b i r:Int}
def skp(i k:Int):Int:=if k<i then k else k+1
def bck(i r:Int):Int:=if r<i then r else r-1
theorem Zcu(e:i≠r):skp i (bck i r)=r:=by
  unfold skp bck
  by_cases h:r<i
  · rw [if_pos h,if_pos h]
  · rw [if_neg h,if_neg (by omega)];omega
theorem ZeB(e:i≠r)(e1:i≠r+1):skp i (bck i r+1)=r+1:=by
  unfold skp bck
  by_cases h:r<i
  · rw [if_pos h,if_pos (by omega)]
  · rw [if_neg h,if_neg (by omega)];omega
theorem ZeA{k:Int}(e:i≠r)(h:k≠bck i r):skp i k≠r:=by
  unfold bck at h;unfold skp
  split
  · split at h<;>omega
  · split at h<;>omega
theorem K9{n:Int}(e:i≠r)(r0:0<=r)(r1:r<=n)(i0:0<=i)(i1:i<=n):0<=bck i r/\bck i r<n:=by
  unfold bck;split<;>omega
def alt(i:Int):Int:=if i%2=0 then 1 else-1
def det:Nat->(Int->Int->Int)->Int
  |0,_=>1
  |n+1,A=>Zd (fun i=>alt i*A i 0*det n (fun k m=>A (skp i k) (m+1))) (n+1)
theorem Vc:∀{n:Nat} {A B:Int->Int->Int},(∀k m,0<=k->k<(n:Int)->0<=m->m<(n:Int)->A k m=B k m)->det n A=det n B
  |0,_,_,_=>rfl
  | n+1,A,B,h=>by
    simp only [det]
    refine Zj fun i i0 i1=> ?_
    rw [h i 0 i0 i1 (by omega) (by omega),Vc (n:=n) (fun k m k0 k1 m0 m1=>h (skp i k) (m+1) (by unfold skp;split<;>omega) (by unfold skp;split<;>omega) (by omega) (by omega))]
theorem Vb:∀{n:Nat} {A U V:Int->Int->Int} {r a b:Int},0<=r->r<(n:Int)->(∀m,0<=m->m<(n:Int)->A r m=a*U r m+b*V r m)->
    (∀k m,0<=k->k<(n:Int)->0<=m->m<(n:Int)->k≠r->U k m=A k m)->(∀k m,0<=k->k<(n:Int)->0<=m->m<(n:Int)->k≠r->V k m=A k m)->det n A=a*det n U+b*det n V
  |0,_,_,_,_,_,_,h0,h1,_,_,_=>by omega
  | n + 1,A,U,V,r,a,b,r0,r1,h,hU,hV=>by
    simp only [det]
    have key:=Xc (n:=n+1) (D:=1) (A:=a) (B:= -b) (h:=fun i=>alt i*A i 0*det n (fun k m=>A (skp i k) (m+1))) (f:=fun i=>alt i*U i 0*det n (fun k m=>U (skp i k) (m+1))) (g:=fun i=>alt i*V i 0*det n (fun k m=>V (skp i k) (m+1))) (fun i i0 i1=> ?_)
    · grind
    · by_cases e:i=r
      · subst e
        have e1:det n (fun k m=>U (skp i k) (m+1))=det n (fun k m=>A (skp i k) (m+1)):=Vc fun k m k0 k1 m0 m1=>hU _ _ (by unfold skp;split<;>omega) (by unfold skp;split<;>omega) (by omega) (by omega) (by unfold skp;split<;>omega)
        have e2:det n (fun k m=>V (skp i k) (m+1))=det n (fun k m=>A (skp i k) (m+1)):=Vc fun k m k0 k1 m0 m1=>hV _ _ (by unfold skp;split<;>omega) (by unfold skp;split<;>omega) (by omega) (by omega) (by unfold skp;split<;>omega)
        rw [e1,e2,h 0 (by omega) (by omega)]
        grind
      · have hr:=Zcu e
        have hb:=K9 (n:=n) e r0 (by omega) i0 (by omega)
        have ih:=Vb (n:=n) (A:=fun k m=>A (skp i k) (m+1)) (U:=fun k m=>U (skp i k) (m+1)) (V:=fun k m=>V (skp i k) (m+1)) (r:=bck i r) (a:=a) (b:=b) hb.1 hb.2
          (fun m m0 m1=>by show A (skp i (bck i r)) _=_*U (skp i (bck i r)) _+_*V (skp i (bck i r)) _;rw [hr];exact h (m+1) (by omega) (by omega))
          (fun k m k0 k1 m0 m1 hk=>hU _ _ (by unfold skp;split<;>omega) (by unfold skp;split<;>omega) (by omega) (by omega) (ZeA e hk))
          (fun k m k0 k1 m0 m1 hk=>hV _ _ (by unfold skp;split<;>omega) (by unfold skp;split<;>omega) (by omega) (by omega) (ZeA e hk))
        rw [ih,hU i 0 i0 i1 (by omega) (by omega) e,hV i 0 i0 i1 (by omega) (by omega) e]
        grind
theorem Zdv{f:Int->Int}{n:Nat}(r0:0<=r)(r1:r+1<(n:Int))(h:∀i,0<=i->i<(n:Int)->i≠r->i≠r+1->f i=0)(hs:f r+f (r+1)=0):Zd f n=0:=by
  rw [Ye (s:=r) r0 (by omega),Ye (s:=r+1) (by omega) r1]
  have:Zd (fun j=>if j=r+1 then 0 else if j=r then 0 else f j) n=Zd (fun _=>0) n:=Zj fun i i0 i1=>by
    by_cases e:i=r+1
    · rw [if_pos e]
    · rw [if_neg e]
      by_cases e2:i=r
      · rw [if_pos e2]
      · rw [if_neg e2];exact h i i0 i1 e2 e
  rw [this,ZU,if_neg (by omega)];omega
theorem KG:∀{n:Nat} {A:Int->Int->Int} {r:Int},0<=r->r+1<(n:Int)->(∀m,0<=m->m<(n:Int)->A r m=A (r+1) m)->det n A=0
  |0,_,_,h0,h1,_=>by omega
  | n + 1,A,r,r0,r1,h=>by
    simp only [det]
    refine Zdv r0 r1 (fun i i0 i1 e1 e2=> ?_) ?_
    · have hb:=K9 (n:=n) e1 r0 (by omega) i0 (by omega)
      have hb1:=K9 (n:=n) e2 (by omega) (by omega) i0 (by omega)
      have hbb:bck i (r+1)=bck i r+1:=by unfold bck;split<;>(split<;>omega)
      have ih:=KG (n:=n) (A:=fun k m=>A (skp i k) (m+1)) (r:=bck i r) hb.1 (by omega) (fun m m0 m1=>by
        show A (skp i (bck i r)) _=A (skp i (bck i r+1)) _
        rw [Zcu e1,ZeB e1 e2];exact h _ (by omega) (by omega))
      rw [ih];simp
    · have e:det n (fun k m=>A (skp r k) (m+1))=det n (fun k m=>A (skp (r+1) k) (m+1)):=Vc fun k m k0 k1 m0 m1=>by
        by_cases hk:k=r
        · have e1:skp r k=r+1:=by unfold skp;rw [if_neg (by omega)];omega
          have e2:skp (r+1) k=r:=by unfold skp;rw [if_pos (by omega)];omega
          rw [e1,e2];exact(h _ (by omega) (by omega)).symm
        · have e1:skp r k=skp (r+1) k:=by unfold skp;split<;>(split<;>omega)
          rw [e1]
      have ea:alt (r+1)= -alt r:=by unfold alt;split<;>(split<;>omega)
      rw [e,<-h 0 (by omega) (by omega),ea]
      grind
def YQ(A:Int->Int->Int)(a b:Int)(u v:Int->Int):Int->Int->Int:=fun k=>if k=a then u else if k=b then v else A k
theorem Ug(A:Int->Int->Int)(a b:Int)(u v:Int->Int):YQ A a b u v a=u:=if_pos rfl
theorem Tl(A:Int->Int->Int)(u v:Int->Int)(h:a≠b):YQ A a b u v b=v:=by unfold YQ;rw [if_neg (fun e=>h e.symm),if_pos rfl]
theorem Zjp(A:Int->Int->Int){k:Int}(u v:Int->Int)(ha:k≠a)(hb:k≠b):YQ A a b u v k=A k:=by unfold YQ;rw [if_neg ha,if_neg hb]
theorem Zbf{n:Nat}{A:Int->Int->Int}(a0:0<=a)(a1:a<(n:Int))(b0:0<=b)(b1:b<(n:Int))(hab:a≠b)(hz:∀w:Int->Int,det n (YQ A a b w w)=0)(u v:Int->Int):det n (YQ A a b u v)= -det n (YQ A a b v u):=by
  have s1:∀x y z:Int->Int,det n (YQ A a b (fun m=>x m+y m) z)=det n (YQ A a b x z)+det n (YQ A a b y z):=fun x y z=>by
    have:=Vb (n:=n) (A:=YQ A a b (fun m=>x m+y m) z) (U:=YQ A a b x z) (V:=YQ A a b y z) (r:=a) (a:=1) (b:=1) a0 a1 (fun m _ _=>by rw [Ug,Ug,Ug];omega)
      (fun k m _ _ _ _ hk=>by unfold YQ;rw [if_neg hk,if_neg hk]) (fun k m _ _ _ _ hk=>by unfold YQ;rw [if_neg hk,if_neg hk])
    omega
  have s2:∀x y z:Int->Int,det n (YQ A a b z (fun m=>x m+y m))=det n (YQ A a b z x)+det n (YQ A a b z y):=fun x y z=>by
    have:=Vb (n:=n) (A:=YQ A a b z (fun m=>x m+y m)) (U:=YQ A a b z x) (V:=YQ A a b z y) (r:=b) (a:=1) (b:=1) b0 b1 (fun m _ _=>by rw [Tl _ _ _ hab,Tl _ _ _ hab,Tl _ _ _ hab];omega)
      (fun k m _ _ _ _ hk=>by unfold YQ;rw [if_neg hk,if_neg hk]) (fun k m _ _ _ _ hk=>by unfold YQ;rw [if_neg hk,if_neg hk])
    omega
  have h:=hz (fun m=>u m+v m)
  rw [s1,s2,s2,hz u,hz v] at h
  omega
theorem ZdB(A:Int->Int->Int)(a b:Int):YQ A a b (A a) (A b)=A:=by
  funext k;unfold YQ
  by_cases h:k=a
  · rw [if_pos h,h]
  · rw [if_neg h]
    by_cases h2:k=b
    · rw [if_pos h2,h2]
    · rw [if_neg h2]
theorem KF:∀(d:Nat) {n:Nat} {A:Int->Int->Int} {a b:Int},0<=a->b=a+1+d->b<(n:Int)->(∀m,0<=m->m<(n:Int)->A a m=A b m)->det n A=0
  |0,n,A,a,b,a0,hb,b1,h=>KG a0 (by omega) (fun m m0 m1=>by rw [h m m0 m1,show b=a+1 by omega])
  | d+1,n,A,a,b,a0,hb,b1,h=>by
    have hsw:=Zbf (n:=n) (A:=A) (a:=b-1) (b:=b) (by omega) (by omega) (by omega) b1 (by omega) (fun w=>KG (r:=b-1) (by omega) (by omega) (fun m _ _=>by rw [Ug,show b-1+1=b by omega,Tl _ _ _ (by omega)])) (A (b-1)) (A b)
    rw [ZdB] at hsw
    have:=KF d (n:=n) (A:=YQ A (b-1) b (A b) (A (b-1))) (a:=a) (b:=b-1) a0 (by omega) (by omega) (fun m m0 m1=>by rw [Ug,Zjp _ _ _ (by omega) (by omega)];exact h m m0 m1)
    omega
theorem ZcZ{n:Nat}{A:Int->Int->Int}(a0:0<=a)(a1:a<(n:Int))(b0:0<=b)(b1:b<(n:Int))(hab:a≠b)(h:∀m,0<=m->m<(n:Int)->A a m=A b m):det n A=0:=by
  rcases Int.lt_or_gt_of_ne hab with e|e
  · exact KF (b-a-1).toNat a0 (by omega) b1 h
  · exact KF (a-b-1).toNat b0 (by omega) a1 (fun m m0 m1=>(h m m0 m1).symm)
theorem Zfv{n:Nat}(A:Int->Int->Int)(a0:0<=a)(a1:a<(n:Int))(b0:0<=b)(b1:b<(n:Int))(hab:a≠b)(u v:Int->Int):det n (YQ A a b u v)= -det n (YQ A a b v u):=
  Zbf a0 a1 b0 b1 hab (fun w=>ZcZ a0 a1 b0 b1 hab fun m _ _=>by rw [Ug,Tl _ _ _ hab]) u v
theorem ZcY{n:Nat}(A:Int->Int->Int){s:Int}(s0:0<=s)(s1:s<(n:Int))(c:Int->Int)(G:Int->Int->Int):∀K:Nat,det n (upd A s (fun m=>Zd (fun k=>c k*G k m) K))=Zd (fun k=>c k*det n (upd A s (G k))) K
  | 0=>by
    have:=Vb (n:=n) (A:=upd A s (fun m=>Zd (fun k=>c k*G k m) 0)) (U:=A) (V:=A) (r:=s) (a:=0) (b:=0) s0 s1 (fun m _ _=>by rw [gu_self];simp [Zd]) (fun k m _ _ _ _ hk=>by rw [gu_ne hk]) (fun k m _ _ _ _ hk=>by rw [gu_ne hk])
    simp only [Zd] at*;omega
  | K +1=>by
    have ih:=ZcY A s0 s1 c G K
    have:=Vb (n:=n) (A:=upd A s (fun m=>Zd (fun k=>c k*G k m) (K+1))) (U:=upd A s (fun m=>Zd (fun k=>c k*G k m) K)) (V:=upd A s (G K)) (r:=s) (a:=1) (b:=c K) s0 s1
      (fun m _ _=>by rw [gu_self,gu_self,gu_self];simp [Zd]) (fun k m _ _ _ _ hk=>by rw [gu_ne hk,gu_ne hk]) (fun k m _ _ _ _ hk=>by rw [gu_ne hk,gu_ne hk])
    rw [this,ih];simp only [Zd];omega
end Go.Proofs.Gw
namespace Go.Proofs.Gw
open Go Go.RowKit
theorem UE(f:Int->Int):∀n:Nat,Zd f (n+1)=f 0+Zd (fun j=>f (j+1)) n
  |0=>by simp [Zd]
  | n+1=>by
    have:=UE f n
    simp only [Zd] at*
    rw [this,show((n+1:Nat):Int)=(n:Int)+1 by omega];omega
theorem ZbH{f:Int->Int}{n:Nat}{s:Int}(s0:0<=s)(s1:s<(n:Int))(h:∀k,0<=k->k<(n:Int)->k≠s->f k=0):Zd f n=f s:=by
  rw [Ye s0 s1]
  have:Zd (fun j=>if j=s then 0 else f j) n=Zd (fun _=>0) n:=Zj fun i i0 i1=>by
    by_cases e:i=s
    · rw [if_pos e]
    · rw [if_neg e];exact h i i0 i1 e
  rw [this,ZU];omega
theorem Zat{f:Int->Int}{n:Nat}{s j:Int}(s0:0<=s)(s1:s<(n:Int))(j0:0<=j)(j1:j<(n:Int))(hsj:s≠j)(h:∀k,0<=k->k<(n:Int)->k≠s->k≠j->f k=0):Zd f n=f s+f j:=by
  rw [Ye s0 s1,ZbH (s:=j) j0 j1 (fun k k0 k1 hk=>by
    by_cases e:k=s
    · rw [if_pos e]
    · rw [if_neg e];exact h k k0 k1 e hk),if_neg (fun e=>hsj e.symm)]
def frm(p:Lp)(q m:Int):Int:=if q<p.n then(if m=q+1 then 1 else 0) else if m=0 then-p.b (q-p.n) else p.A (q-p.n) (m-1)
def cst(p:Lp)(m:Int):Int:=if m=0 then 0 else p.c (m-1)
def slt(p:Lp)(t:Tb)(k m:Int):Int:=if k=0 then(if m=0 then 1 else 0) else frm p (t.F (k-1)) m
def lft(p:Lp)(t:Tb)(i m:Int):Int:=if i=0 then cst p m else frm p (t.B (i-1)) m
structure DInv (p:Lp) (t:Tb) (eps:Int):Prop where
  e:eps=1\/eps= -1
  nf:t.nf=p.n
  n1:1<=p.n
  den:eps*t.den=det (p.n.toNat+1) (slt p t)
  cell:∀i j,0<=i->i<=t.nb->0<=j->j<=t.nf->eps*t.C i j=det (p.n.toNat+1) (upd (slt p t) j (lft p t i))
  idt:∀m,0<=m->m<=p.n->Idt t (if m=0 then 1 else 0) (cst p m) (fun q=>frm p q m)
theorem Zen{α:Type}(f:Int->α){a b:Int}(x y:α)(h:a≠b):upd (upd f a x) b y=upd (upd f b y) a x:=by
  funext k;unfold upd
  by_cases e:k=a
  · rw [if_pos e,if_neg (by omega),if_pos e]
  · rw [if_neg e,if_neg e]
theorem Zao{α:Type}(f:Int->α)(a:Int):upd f a (f a)=f:=by
  funext k;unfold upd
  by_cases e:k=a
  · rw [if_pos e,e]
  · rw [if_neg e]
theorem Zan(A:Int->Int->Int){a b:Int}(u v:Int->Int)(h:a≠b):upd (upd A a u) b v=YQ A a b u v:=by
  funext k;unfold upd YQ
  by_cases e:k=a
  · rw [if_pos e,if_neg (by omega),if_pos e]
  · rw [if_neg e,if_neg e]
theorem DInv.row{p:Lp}{t:Tb}{eps:Int}(h:DInv p t eps){i:Int}(i0:0<=i)(i1:i<=t.nb){m:Int}(m0:0<=m)(m1:m<=p.n):t.den*lft p t i m=Zd (fun k=>t.C i k*slt p t k m) (p.n.toNat+1):=by
  have:=h.idt m m0 m1 i i0 i1
  have hn:=h.nf
  have e:Vv t (cst p m) (fun q=>frm p q m) i=lft p t i m:=rfl
  rw [e] at this
  rw [this,UE]
  unfold VK
  rw [hn]
  have:Zd (fun j=>t.C i (j+1)*frm p (t.F j) m) p.n.toNat=Zd (fun j=>t.C i (j+1)*slt p t (j+1) m) p.n.toNat:=Zj fun j j0 j1=>by
    unfold slt;rw [if_neg (by omega),show j+1-1=j by omega]
  rw [this];unfold slt;rw [if_pos rfl]
theorem DInv.key{p:Lp}{t:Tb}{eps:Int}(h:DInv p t eps){r s i j:Int}(r0:0<=r)(r1:r<=t.nb)(s0:0<=s)(s1:s<=t.nf)(i0:0<=i)(i1:i<=t.nb)(j0:0<=j)(j1:j<=t.nf)(hj:j≠s):
    t.den*(eps*det (p.n.toNat+1) (upd (upd (slt p t) j (lft p t i)) s (lft p t r)))=t.C r s*t.C i j-t.C i s*t.C r j:=by
  have hnf:=h.nf;have hn1:=h.n1
  have hN:((p.n.toNat+1:Nat):Int)=p.n+1:=by omega
  have hl:=Vb (n:=p.n.toNat+1) (A:=upd (upd (slt p t) j (lft p t i)) s (fun m=>Zd (fun k=>t.C r k*slt p t k m) (p.n.toNat+1))) (U:=upd (upd (slt p t) j (lft p t i)) s (lft p t r)) (V:=upd (upd (slt p t) j (lft p t i)) s (lft p t r)) (r:=s) (a:=t.den) (b:=0) s0 (by omega)
    (fun m m0 m1=>by rw [gu_self,gu_self,<-h.row r0 r1 m0 (by omega)];omega) (fun k m _ _ _ _ hk=>by rw [gu_ne hk,gu_ne hk]) (fun k m _ _ _ _ hk=>by rw [gu_ne hk,gu_ne hk])
  rw [ZcY _ s0 (by omega)] at hl
  have hp:=Zat (f:=fun k=>t.C r k*det (p.n.toNat+1) (upd (upd (slt p t) j (lft p t i)) s (slt p t k))) (n:=p.n.toNat+1) (s:=s) (j:=j) s0 (by omega) j0 (by omega) (fun e=>hj e.symm) (fun k k0 k1 e1 e2=>by
    have:=ZcZ (n:=p.n.toNat+1) (A:=upd (upd (slt p t) j (lft p t i)) s (slt p t k)) (a:=k) (b:=s) k0 k1 s0 (by omega) e1 (fun m _ _=>by rw [gu_self,gu_ne e1,gu_ne e2])
    rw [this,Int.mul_zero])
  have e1:upd (upd (slt p t) j (lft p t i)) s (slt p t s)=upd (slt p t) j (lft p t i):=by rw [Zen _ _ _ hj,Zao]
  have e2:det (p.n.toNat+1) (upd (upd (slt p t) j (lft p t i)) s (slt p t j))= -det (p.n.toNat+1) (upd (slt p t) s (lft p t i)):=by
    rw [Zan _ _ _ hj,Zfv _ j0 (by omega) s0 (by omega) hj,<-Zan _ _ _ hj,Zao]
  rw [e1,e2,<-h.cell i j i0 i1 j0 j1,<-h.cell i s i0 i1 s0 s1] at hp
  rw [hp] at hl
  rcases h.e with he|he<;>subst he<;>grind
end Go.Proofs.Gw
namespace Go.Proofs.YtkichmnjjblodaaGreat
open Go Go.RowKit Go.Proofs.Gw
theorem ColR.few{p:Prob}{u e:Int}{ml:Int->Int}{mf:Int->Int->Int}{s:So}(h:ColR p u ml mf s e)(he:e=0):u<=60:=by
  rcases h with⟨_,_,_,h⟩|⟨_,h,_⟩|⟨_,_,_,h1,_⟩
  · omega
  · exact absurd he h
  · exact h1.few.2.1
end Go.Proofs.YtkichmnjjblodaaGreat
