/- Part 7 of the texts that the proof needs. -/
import Derived.Test.YtopmifmfecfaaaaGreatRbAF
import Derived.ProofKit
import Derived.OpenShut
import Derived.ChangeOld
import Derived.SizedLaws
import Derived.Lib.SmallJoins
import Derived.Deep.Slices
set_option linter.unusedVariables false
set_option linter.unusedSimpArgs false
namespace Go.Proofs.YtopmifmfecfaaaaGreat
open Go Go.RowKit Go.Proofs.Gw
theorem Zgj:Zb Tryz.prog 100=true:=by kernel_rfl
theorem Zgd:Zb Tryz.prog 107=true:=by kernel_rfl
theorem ZfS:Zb Tryz.prog 141=true:=by kernel_rfl
theorem Zck:Zb Tryz.prog 148=true:=by kernel_rfl
theorem cl_149:Zb Tryz.prog 149=true:=by kernel_rfl
theorem cl_167:Zb Tryz.prog 167=true:=by kernel_rfl
theorem Kv:Zb Tryz.prog 183=true:=by kernel_rfl
theorem Zew:Zb Tryz.prog 63=true:=by kernel_rfl
theorem Zev:Zb Tryz.prog 65=true:=by kernel_rfl
theorem Zht:Zb Tryz.prog 66=true:=by kernel_rfl
theorem Zeu:Zb Tryz.prog 67=true:=by kernel_rfl
theorem Zhs:Zb Tryz.prog 68=true:=by kernel_rfl
theorem Zak:Zb Tryz.prog 69=true:=by kernel_rfl
theorem Zhb:Zb Tryz.prog 99=true:=by kernel_rfl
def Vf(p:Prob)(u:Int)(ml:Int->Int)(mf:Int->Int->Int)(s:So):Prop:=ZQ s/\s.n=u/\u<=60/\(∀k,0<=k->k<u->ZD p (ml k) (mf k)/\(s.X k).tdiv s.den<=1000)/\∀j,0<=j->j<p.m->p.D j*s.den<=ZC u mf s.X j
theorem ZaL{m u:Int}{X:Int->Int}{mf:Int->Int->Int}(h:∀k,0<=k->k<u->(∀j,0<=j->j<m->0<=mf k j/\mf k j<=1000)/\0<=X k/\X k<=1073741824):∀{i:Int},0<=i->i<=u->∀{j:Int},0<=j->j<m->0<=ZC i mf X j/\ZC i mf X j<=1073741824000*i:=by
  intro i i0
  obtain⟨n,rfl⟩:=Int.eq_ofNat_of_zero_le i0
  induction n with
  |zero=>intro _ j _ _;exact⟨Int.le_refl _,by show(0:Int)<=_;omega⟩
  | succ n ih=>
    intro hi j j0 j1
    have h1:=ih (by omega) (by omega) j0 j1
    obtain⟨h2,h3,h4⟩:=h n (by omega) (by omega)
    have h5:=h2 j j0 j1
    have h6:=Xs h5.1 h5.2 h3 h4
    have h7:=XE (pt:=mf) (cnt:=X) (i:=(n:Int)) (j:=j) (by omega)
    rw [show((n+1:Nat):Int)=(n:Int)+1 by omega,h7];omega
theorem Wm{a d:Int}(h:0<=a)(hd:1<=d):0<=a.tmod d/\a.tmod d<d:=by
  rw [Int.tmod_eq_emod_of_nonneg h]
  exact⟨Int.emod_nonneg _ (by omega),Int.emod_lt_of_pos _ (by omega)⟩
theorem Xp{p:Prob}{n:Int}{f:Int->Int}(h:ZD p n f):n=p.m/\∀j,0<=j->j<p.m->0<=f j/\f j<=1000:=by
  have he:=h.1.eq
  refine⟨he,fun j j0 j1=> ?_⟩
  have h1:=h.1.all j j0 j1
  have h2:=h.2 j j0 (by omega)
  have h3:=Ue h.1.ok j0 j1
  omega
set_option maxHeartbeats 4000000 in
set_option maxRecDepth 20000 in
theorem Zbd{vL vD:Value}{p:Prob}{vM:Value}{u:Int}{mv:Int->Value}{ml:Int->Int}{mf:Int->Int->Int}{vX vY:Value}{s:So}(w0:World)(h:PAt w0 vL vD p)(hok:p.Ok)(hM:MAt w0 vM u mv ml mf)(hX:Row w0 vX 1 s.n (ints s.X))(hY:Row w0 vY 1 s.m (ints s.Y))(hn60:s.n<=1000):
    Calls Tryz.prog 99 [.agg #[vL,vD,.int .i64 p.stock,.int .i64 p.kerf],.agg #[vM,vX,vY,.int .i64 s.val,.int .i64 s.den]].toArray w0 fun e w=>∃v,e= .returned v/\v=B (Vf p u ml mf s)/\Sat w0 w []:=by
  have hm:=h.L.slh.n0;have hm1:=h.L.slh.n1;have hd:=h.D.slh.n0;have hd1:=h.D.slh.n1;have hs:=h.is;have hk:=h.ik
  have hu:=hM.row.slh.n0;have hu1:=hM.row.slh.n1;have hn:=hX.slh.n0;have hn1:=hX.slh.n1
  refine Zj Tryz.func99 Tryz.ntmps99 fun w hS=> ?_
  refine zsr ?_
  refine zla (xbx (cs:= [_,_,_,_]) hS) ?_;rintro _ w ⟨g1,rfl,hS⟩
  replace hS:=hS.n1
  refine zla (xbx (cs:= [_,_,_,_,_]) hS) ?_;rintro _ w ⟨g2,rfl,hS⟩
  replace hS:=hS.n2
  refine zlv xas ?_
  refine zlz ?_
  refine zlv (xfb 1 fd_31_1) ?_
  refine zlv (xlp 1 (ds:= [vX,vY,.int .i64 s.val,.int .i64 s.den]) ZK hS) ?_
  refine zla (xal (cs:= [_,_,_,_]) WL hS) ?_;rintro _ w ⟨g3,rfl,hS⟩
  replace hS:=hS.n3
  refine zle (xsw 2 ZK hS (hd:=(Za hX.slh.one (Za hY.slh.one (Za rfl (Za rfl Zd)))))) ?_;clear hS;rintro w hS
  replace hS:=hS.n3
  refine zx5 ?_
  refine zlv (xls 2 ZK hS) ?_
  refine zlc (xc0 ZfS) (ZaY (s:=s) w (hX.below hS.below) (hY.below hS.below) (by omega)) ?_;rintro _ w ⟨xv91,yv91,ev91,rfl,hvav91,hS'⟩
  replace hS:=hS.cmp hS';clear hS'
  refine zs3 ?_
  refine zla (xal (cs:= [_,_]) Zb4 hS) ?_;rintro _ w ⟨g4,rfl,hS⟩
  replace hS:=hS.n4
  refine zle (xsw 3 VJ hS) ?_;clear hS;rintro w hS
  replace hS:=hS.n4
  refine zlv xas ?_
  refine zlz ?_
  refine zs3 ?_
  refine zlb 24 ?_ ?_<;>intro hc;rotate_left
  refine zlv (xfb 0 fd_29_0) ?_
  refine zlv (xlb 2 pl_22 hS) ?_
  refine zlv (xln sl_22 hX.slh) ?_
  refine zlv (xfb 0 fd_31_0) ?_
  refine zlv (xlb 1 pl_27 hS) ?_
  refine zlv (xln sl_27 hM.row.slh) ?_
  refine zs3 ?_
  refine zlb 33 ?_ ?_<;>intro hc;rotate_left
  refine zlv (xfb 0 fd_29_0) ?_
  refine zlv (xlb 2 pl_22 hS) ?_
  refine zlv (xln sl_22 hX.slh) ?_
  refine zs2 ?_
  refine zlt ?_
  refine zcif ?_ ?_<;>intro hc
  ·
   refine zsr ?_
   refine zlv xas ?_
   refine zx14<|zf1 ⟨_,rfl,?_⟩
   refine⟨Zf ?_,hS.nl⟩
   rintro⟨g1,g2,g3,g4,g5⟩
   first
   |(rcases hvav91 with⟨q1,_⟩|⟨_,_,_,q4⟩;exact absurd g1 q1;omega)
   |omega
   |(have h9:=g4 k hk0 (by omega);first|exact absurd h9.1 ‹_›|(have:=h9.2;omega))
   |(have h9:=g5 i hi0 (by omega);have h8:=hf i hi0 (by omega);rw [show k=u by omega] at h8;omega)
  refine ZR ?_
  refine zlv (xfb 0 fd_35_0) ?_
  have hsd:ZQ s:=by rcases hvav91 with⟨_,_,_,q4⟩|⟨q1,_⟩;omega;exact q1
  obtain⟨⟨d1,d2⟩,⟨d3,d4⟩,d5⟩:=id hsd
  have hpm1:=hok.m1;have hpm2:=hok.m2;have hpd:=hok.d
  refine zlv (xlb 0 pl_22 hS) ?_
  refine zlv (xln sl_22 h.L.slh) ?_
  refine zla (xmk sl_22 el_3 hS) ?_;rintro v1 w ⟨hS,hv1⟩
  replace hS:=hS.n5
  refine zlv xas ?_
  refine zx5 ?_
  refine zlv (xfb 0 fd_31_0) ?_
  refine zlv (xlb 1 pl_27 hS) ?_
  refine zlv (xln sl_27 hM.row.slh) ?_
  refine zlv xmv ?_
  refine zx6<|zlp (fun mm M w=>∃(f:Int->Int) (k:Int),mm=((u-k).toNat)/\(0<=k)/\(k<=u)/\(∀i,0<=i->i<k->ZD p (ml i) (mf i)/\(s.X i).tdiv s.den<=1000)/\(∀j,0<=j->j<p.m->f j=ZC k mf s.X j)/\M= [(2,.pointer (some ⟨g1,0,none⟩)),(5,.pointer (some ⟨g3,0,none⟩)),(8,v1),(44,vM),(45,.int .i64 u),(46,.int .i64 k)]/\Sat w0 w [.blk g1 [vL,vD,.int .i64 p.stock,.int .i64 p.kerf],.blk g2 [vM,vX,vY,.int .i64 s.val,.int .i64 s.den],.blk g3 [vX,vY,.int .i64 s.val,.int .i64 s.den],.blk g4 [.int .i64 xv91,.int .i64 yv91],.own v1 1 3 p.m (ints f)]) ⟨(fun _=>0),0,rfl,(by omega),(by omega),?_,?_,rfl,hS⟩ ?_
  ·
   intro i i0 i1;omega
  ·
   intro j _ _;rfl
  clear hS w
  rintro mm M w ⟨f,k,rfl,hk0,hk1,hall,hf,rfl,hS⟩
  refine zsr ?_
  refine zlv xlss ?_
  refine zx7 ?_
  refine zcif ?_ ?_<;>intro hc
  ·
   refine zx3 ?_
   refine zlv xmv ?_
   refine zlv (xix (kk:=k) sl_27 hM.row.slh) ?_
   refine zlv (xlr (u:=(mv k)) pl_22 (hM.row.below hS.below)) ?_
   have hXk9:=d5 k hk0 (by omega)
   have hqd:=Yr (a:=s.X k) (d:=s.den) (A:=1073741824) (by omega) (by omega)
   refine zs2 ?_
   refine zlt<|zsq<|zsq ?_
   refine zdst [0,1,2,3,4] [0,1,2,3,4] 1000 mx_ hS ?_;clear hS;intro w hS
   refine zdla 0 (fun w hS=>(xls 0 st_35 hS)) ?_
   refine zDrv 1 xmv ?_
   refine zdc 2 (xc0 Zcm) (U2 (p:=p) w (h.below hS.below) ((hM.p k (by omega) (by omega)).below hS.below)) ?_;rintro _ w ⟨rfl,hS'⟩
   replace hS:=hS.cmp hS';clear hS'
   refine⟨⟨fun _=>hS,hS⟩,?_⟩
   refine zDrv 3 ZX ?_
   refine zDrv 4 xmv ?_
   refine zdb 55 ?_ ?_<;>intro hc
   ·
    refine zdof 5 ?_
    refine zdof 6 ?_
    refine zdof 7 ?_
    refine zdof 8 ?_
    refine zdof 9 ?_
    refine zdof 10 ?_
    refine zdof 11 ?_
    refine zdof 12 ?_
    refine zdof 13 ?_
    refine zDrv 14 xpt ?_
    refine zdd<|ztn<|zct<|zsr ?_
    refine zlv xas ?_
    refine zlt<|zrt<|ztr<|zbr<|ztr<|ztr<|zbr<|ztr<|zf1 ⟨_,rfl,?_⟩
    refine⟨Zf ?_,hS.nl⟩
    rintro⟨g1,g2,g3,g4,g5⟩
    first
    |(rcases hvav91 with⟨q1,_⟩|⟨_,_,_,q4⟩;exact absurd g1 q1;omega)
    |omega
    |(have h9:=g4 k hk0 (by omega);first|exact absurd h9.1 ‹_›|(have:=h9.2;omega))
    |(have h9:=g5 i hi0 (by omega);have h8:=hf i hi0 (by omega);rw [show k=u by omega] at h8;omega)
   refine zDrv 5 (xfb 0 fd_29_0) ?_
   refine zdla 6 (fun w hS=>(xlb 2 pl_22 hS)) ?_
   refine zDrv 7 xmv ?_
   refine zDrv 8 (xix (kk:=k) sl_22 hX.slh) ?_
   refine zdla 9 (fun w hS=>(xlr (u:= .int .i64 (s.X k)) pl_3 (hX.below hS.below))) ?_
   refine zDrv 10 (xfb 3 fd_29_3) ?_
   refine zdla 11 (fun w hS=>(xlb 2 pl_3 hS)) ?_
   refine zDrv 12 (Um (r:=(Int.tdiv (s.X k) s.den))) ?_
   refine zDrv 13 xgtr ?_
   refine zDrv 14 xpf ?_
   refine zdd<|ztn ?_
   refine zcif ?_ ?_<;>intro hc
   ·
    refine zsr ?_
    refine zlv xas ?_
    refine zlt<|zrt<|ztr<|zbr<|ztr<|ztr<|zbr<|ztr<|zf1 ⟨_,rfl,?_⟩
    refine⟨Zf ?_,hS.nl⟩
    rintro⟨g1,g2,g3,g4,g5⟩
    first
    |(rcases hvav91 with⟨q1,_⟩|⟨_,_,_,q4⟩;exact absurd g1 q1;omega)
    |omega
    |(have h9:=g4 k hk0 (by omega);first|exact absurd h9.1 ‹_›|(have:=h9.2;omega))
    |(have h9:=g5 i hi0 (by omega);have h8:=hf i hi0 (by omega);rw [show k=u by omega] at h8;omega)
   refine ZR ?_
   refine zlv xmv ?_
   have hpk:ZD p (ml k) (mf k):=by first|assumption|exact Classical.not_not.1 ‹_›
   have hrk:=Xp hpk
   have hXk:=d5 k hk0 (by omega)
   refine zlv (xln sl_22 (hM.p k (by omega) (by omega)).slh) ?_
   refine zlv xmv ?_
   refine zx6<|zlp (fun mm M w=>∃(f2:Int->Int) (j:Int),mm=((ml k-j).toNat)/\(0<=j)/\(j<=ml k)/\(∀q,0<=q->q<p.m->f2 q=(if q<j then ZC (k+1) mf s.X q else ZC k mf s.X q))/\M= [(2,.pointer (some ⟨g1,0,none⟩)),(5,.pointer (some ⟨g3,0,none⟩)),(8,v1),(9,.int .i64 k),(44,vM),(45,.int .i64 u),(46,.int .i64 k),(66,(mv k)),(67,.int .i64 (ml k)),(68,.int .i64 j)]/\Sat w0 w [.blk g1 [vL,vD,.int .i64 p.stock,.int .i64 p.kerf],.blk g2 [vM,vX,vY,.int .i64 s.val,.int .i64 s.den],.blk g3 [vX,vY,.int .i64 s.val,.int .i64 s.den],.blk g4 [.int .i64 xv91,.int .i64 yv91],.own v1 1 3 p.m (ints f2)]) ⟨f,0,rfl,(by omega),(by omega),?_,rfl,hS⟩ ?_
   ·
    intro q q0 q1;rw [if_neg (by omega)];exact hf q q0 q1
   clear hS w
   rintro mm M w ⟨f2,j,rfl,hj0,hj1,hf2,rfl,hS⟩
   refine zsr ?_
   refine zlv xlss ?_
   refine zx7 ?_
   refine zcif ?_ ?_<;>intro hc
   ·
    refine zx3 ?_
    refine zlv xmv ?_
    refine zlv (xix (kk:=j) sl_22 (hM.p k (by omega) (by omega)).slh) ?_
    refine zlv (xlr (u:= .int .i64 ((mf k) j)) pl_3 ((hM.p k (by omega) (by omega)).below hS.below)) ?_
    have hrj:=hrk.2 j hj0 (by omega)
    have hxj:=Xs hrj.1 hrj.2 hXk.1 hXk.2
    have hmr:=ZaL (m:=p.m) (u:=k) (fun i i0 i1=>⟨(Xp (hall i i0 i1).1).2,d5 i i0 (by omega)⟩) hk0 (Int.le_refl _) (j:=j) hj0 (by omega)
    have hfj:=hf2 j hj0 (by omega)
    rw [if_neg (by omega)] at hfj
    refine zs2 ?_
    refine zlt ?_
    refine zdst [0,1,2,3,4] [0,1,2,3] 13 mx_ hS ?_;clear hS;intro w hS
    refine zDrv 0 xmv ?_
    refine zDrv 1 xmv ?_
    refine zDrv 2 (xix (kk:=j) sl_22 hv1) ?_
    refine zdl 3 (fun w hS=>(xlr (u:= .int .i64 (f2 j)) pl_3 (hS.rowN 4 rfl))) ?_
    refine zDrv 4 xmv ?_
    refine zDrv 5 (xfb 0 fd_29_0) ?_
    refine zdla 6 (fun w hS=>(xlb 2 pl_22 hS)) ?_
    refine zDrv 7 xmv ?_
    refine zDrv 8 (xix (kk:=k) sl_22 hX.slh) ?_
    refine zdla 9 (fun w hS=>(xlr (u:= .int .i64 (s.X k)) pl_3 (hX.below hS.below))) ?_
    refine zdv 10 (fun _=>(xmul (r:=(((mf k) j)*(s.X k))) (e:=rfl))) ?_
    refine zdv 11 (fun _=>(xadd (r:=f2 j+(((mf k) j)*(s.X k))))) ?_
    refine zDrv 12 (xix (kk:=j) sl_22 hv1) ?_
    refine zde 13 (xso 4 pl_3 hS (Zs _ _ _)) ?_;clear hS;rintro w hS
    replace hS:=hS.n5
    refine⟨⟨fun h=>absurd h (by decide),hS.pk [0,1,2,3]⟩,?_⟩
    refine zdd<|zbn<|ztn<|zrg ?_
    refine zlv (xadd (r:=j+1)) ?_
    refine zlv xmv ?_
    refine zln<|zlq ⟨(upd f2 j (f2 j+(((mf k) j)*(s.X k)))),j+1,rfl,(by omega),(by omega),?_,rfl,hS⟩
    ·
     intro q q0 q1;unfold upd;by_cases e:q=j
     · rw [if_pos e,if_pos (by omega),e,XE hk0];omega
     · rw [if_neg e,hf2 q q0 q1];by_cases e2:q<j
       · rw [if_pos e2,if_pos (by omega)]
       · rw [if_neg e2,if_neg (by omega)]
   refine zxt<|ztx<|ztx<|zbh<|zbn<|ztn<|zrg ?_
   refine zlv (xadd (r:=k+1)) ?_
   refine zlv xmv ?_
   refine zln<|zlq ⟨f2,k+1,rfl,(by omega),(by omega),?_,?_,rfl,hS⟩
   ·
    intro i i0 i1;rcases Int.lt_or_eq_of_le (show i<=k by omega) with h9|h9
    · exact hall i i0 h9
    · rw [h9];exact⟨hpk,by omega⟩
   ·
    intro q q0 q1;rw [hf2 q q0 q1,if_pos (by omega)]
  refine zx18 ?_
  refine zlv xmv ?_
  refine zlv (xln sl_22 hv1) ?_
  refine zlv xmv ?_
  refine zx6<|zlp (fun mm M w=>∃(i:Int),mm=((p.m-i).toNat)/\(0<=i)/\(i<=p.m)/\(∀j,0<=j->j<i->p.D j*s.den<=f j)/\M= [(2,.pointer (some ⟨g1,0,none⟩)),(5,.pointer (some ⟨g3,0,none⟩)),(88,v1),(89,.int .i64 p.m),(90,.int .i64 i)]/\Sat w0 w [.blk g1 [vL,vD,.int .i64 p.stock,.int .i64 p.kerf],.blk g2 [vM,vX,vY,.int .i64 s.val,.int .i64 s.den],.blk g3 [vX,vY,.int .i64 s.val,.int .i64 s.den],.blk g4 [.int .i64 xv91,.int .i64 yv91],.own v1 1 3 p.m (ints f)]) ⟨0,rfl,(by omega),(by omega),?_,rfl,hS⟩ ?_
  ·
   intro j j0 j1;omega
  clear hS w
  rintro mm M w ⟨i,rfl,hi0,hi1,hge,rfl,hS⟩
  refine zsr ?_
  refine zlv xlss ?_
  refine zx7 ?_
  refine zcif ?_ ?_<;>intro hc
  ·
   refine zx3 ?_
   refine zlv xmv ?_
   refine zlv (xix (kk:=i) sl_22 hv1) ?_
   refine zlv (xlr (u:= .int .i64 (f i)) pl_3 (hS.rowN 4 rfl)) ?_
   have hdd:=Ue hok hi0 (by omega:i<p.m)
   have hdm:=Xs hdd.1 hdd.2 (show 0<=s.den by omega) d2
   refine zs2 ?_
   refine zx7 ?_
   refine zdst [0,1,2,3,4] [0,1,2,3,4] 1000 mx_ hS ?_;clear hS;intro w hS
   refine zDrv 0 xmv ?_
   refine zDrv 1 (xfb 1 fd_35_1) ?_
   refine zdla 2 (fun w hS=>(xlb 0 pl_22 hS)) ?_
   refine zDrv 3 xmv ?_
   refine zDrv 4 (xix (kk:=i) sl_22 h.D.slh) ?_
   refine zdla 5 (fun w hS=>(xlr (u:= .int .i64 (p.D i)) pl_3 (h.D.below hS.below))) ?_
   have hbv:=h.iD i
   refine zDrv 6 (xfb 3 fd_29_3) ?_
   refine zdla 7 (fun w hS=>(xlb 2 pl_3 hS)) ?_
   refine zDrv 8 (xmul (r:=((p.D i)*s.den)) (e:=rfl)) ?_
   refine zDrv 9 xlss ?_
   refine zdd<|ztn ?_
   refine zcif ?_ ?_<;>intro hc
   ·
    refine zsr ?_
    refine zlv xas ?_
    refine zx2<|zf1 ⟨_,rfl,?_⟩
    refine⟨Zf ?_,hS.nl⟩
    rintro⟨g1,g2,g3,g4,g5⟩
    first
    |(rcases hvav91 with⟨q1,_⟩|⟨_,_,_,q4⟩;exact absurd g1 q1;omega)
    |omega
    |(have h9:=g4 k hk0 (by omega);first|exact absurd h9.1 ‹_›|(have:=h9.2;omega))
    |(have h9:=g5 i hi0 (by omega);have h8:=hf i hi0 (by omega);rw [show k=u by omega] at h8;omega)
   refine zx4 ?_
   refine zlv (xadd (r:=i+1)) ?_
   refine zlv xmv ?_
   refine zln<|zlq ⟨i+1,rfl,(by omega),(by omega),?_,rfl,hS⟩
   ·
    intro j j0 j1;rcases Int.lt_or_eq_of_le (show j<=i by omega) with h9|h9
    · exact hge j j0 h9
    · rw [h9];omega
  refine zx8 ?_
  refine zlv xas ?_
  refine zx1<|zf1 ⟨_,rfl,?_⟩
  exact⟨ZU ⟨hsd,by omega,by omega,fun k k0 k1=>hall k k0 (by omega),fun j j0 j1=>by have h9:=hge j j0 (by omega);have h8:=hf j j0 j1;rw [show k=u by omega] at h8;omega⟩,hS.nl⟩
  all_goals
   refine YC ?_
   refine zlt<|zct<|zsr ?_
   refine YC ?_
   refine zx14<|zf1 ⟨_,rfl,?_⟩
   refine⟨Zf ?_,hS.nl⟩
   rintro⟨g1,g2,g3,g4,g5⟩
   first
   |(rcases hvav91 with⟨q1,_⟩|⟨_,_,_,q4⟩;exact absurd g1 q1;omega)
   |omega
   |(have h9:=g4 k hk0 (by omega);first|exact absurd h9.1 ‹_›|(have:=h9.2;omega))
   |(have h9:=g5 i hi0 (by omega);have h8:=hf i hi0 (by omega);rw [show k=u by omega] at h8;omega)
theorem Zae (s:So) (ml:Int->Int) (mf:Int->Int->Int):∀n:Nat,∀k,0<=k->k<flN s n->∃q:Nat,q<n/\s.den<=s.X q/\flL s ml n k=ml q/\flG s mf n k=mf q/\flC s n k=(s.X q).tdiv s.den
  |0,k,k0,k1=>by simp [flN] at k1;omega
  | n + 1,k,k0,k1=>by
    simp only [flN,flL,flG,flC] at k1⊢
    by_cases h:s.den<=s.X n
    · rw [if_pos h] at k1⊢
      rw [if_pos h,if_pos h]
      by_cases e:k<flN s n
      · obtain⟨q,h1,h2,h3,h4,h5⟩:=Zae s ml mf n k k0 e
        exact⟨q,by omega,h2,by rw [Zo e];exact h3,by rw [Zo e];exact h4,by rw [Zk e];exact h5⟩
      · exact⟨n,by omega,h,Zn e,Zn e,Zl e⟩
    · rw [if_neg h] at k1⊢
      rw [if_neg h,if_neg h]
      obtain⟨q,h1,h2,h3,h4,h5⟩:=Zae s ml mf n k k0 k1
      exact⟨q,by omega,h2,h3,h4,h5⟩
theorem Km(s:So)(mf:Int->Int->Int)(j:Int)(N:Int)(hX:∀k:Nat,(k:Int)<N->0<=s.X k)(hd:1<=s.den):∀n:Nat,(n:Int)<=N->psum (fun k=>flG s mf n k j) (flC s n) (flN s n).toNat=psum (fun q=>mf q j) (fun q=>(s.X q).tdiv s.den) n
  |0,_=>rfl
  | n +1,hN=>by
    have h0:=X1 s n
    have ih:=Km s mf j N hX hd n (by omega)
    have hcong:∀(F G c d:Int->Int) (m:Nat),(∀k:Nat,k<m->F k=G k/\c k=d k)->psum F c m=psum G d m:=by
      intro F G c d m
      induction m with
      |zero=>intro _;rfl
      |succ m ihm=>intro h;simp only [psum];rw [ihm fun k hk=>h k (by omega),(h m (by omega)).1,(h m (by omega)).2]
    rw [psum]
    by_cases h:s.den<=s.X n
    · simp only [flN,flG,flC]
      rw [if_pos h,if_pos h,if_pos h]
      have e:=Yu (fun k=>gsn (flG s mf n) (flN s n) (mf n) k j) (snoc (flC s n) (flN s n) ((s.X n).tdiv s.den)) (i:=flN s n) h0.1
      rw [e,Zn (by omega),Zl (by omega),<-ih]
      congr 1
      exact hcong _ _ _ _ _ fun k hk=>⟨by rw [Zo (by omega)],by rw [Zk (by omega)]⟩
    · simp only [flN,flG,flC]
      rw [if_neg h,if_neg h,if_neg h,ih,Int.tdiv_eq_zero_of_lt (hX n (by omega)) (by omega)]
      omega
def WholeR(p:Prob)(u:Int)(ml:Int->Int)(mf:Int->Int->Int)(s:So)(n:Int)(ln:Int->Int)(pt:Int->Int->Int)(cnt:Int->Int)(e:Int):Prop:=
  (¬(p.Ok/\Vf p u ml mf s)/\n=0/\e=1)\/(p.Ok/\Vf p u ml mf s/\ChkR p e/\e≠0/\n=0)\/
  (p.Ok/\Vf p u ml mf s/\ChkR p 0/\e=0/\n=flN s u.toNat/\ln=flL s ml u.toNat/\pt=flG s mf u.toNat/\cnt=flC s u.toNat)
theorem WholeR.ok{p:Prob}{u n:Int}{ml ln cnt:Int->Int}{mf pt:Int->Int->Int}{s:So}{e:Int}(h:WholeR p u ml mf s n ln pt cnt e)(he:e=0)(hu:0<=u):p.Ok/\Vf p u ml mf s/\psum (fun _=>1) p.D p.m.toNat<=1000/\n<=60/\PlanOk p n ln pt cnt/\0<=n:=by
  rcases h with⟨_,_,h⟩|⟨_,_,_,h,_⟩|⟨h1,h2,h3,_,h4,h5,h6,h7⟩
  · omega
  · exact absurd he h
  · have hr:=X1 s u.toNat
    have hu6:=h2.2.2.1
    refine⟨h1,h2,?_,by omega,⟨h1,by omega,fun k k0 k1=> ?_⟩,by omega⟩
    · rcases h3 with⟨h,_⟩|⟨_,_,h⟩|⟨_,h,_⟩
      · exact absurd h1 h
      · omega
      · exact h
    · rw [h4] at k1
      obtain⟨q,q1,q2,q3,q4,q5⟩:=Zae s ml mf u.toNat k k0 k1
      rw [h5,h6,h7,q3,q4,q5]
      obtain⟨g1,g2⟩:=h2.2.2.2.1 q (by omega) (by omega)
      have hd:=h2.1.1
      refine⟨?_,g2,g1.1⟩
      rw [Int.tdiv_eq_ediv_of_nonneg (by omega)]
      exact(Int.le_ediv_iff_mul_le (by omega)).2 (by omega)
theorem ZbF{p:Prob}(hok:p.Ok){f:Int->Int}(hf:∀k,0<=k->k<p.m->0<=f k):(⟨p.m,p.L,p.d,Z4 p f,p.stock,p.kerf⟩:Prob).Ok:=by
  refine⟨hok.m1,hok.m2,hok.d,hok.s1,hok.s2,hok.k1,hok.k2,fun i i0 i1=> ?_⟩
  have he:=hok.all i i0 i1
  have h1:=Ue hok i0 i1
  have h2:=hf i i0 i1
  unfold Prob.each at he⊢
  have e:Z4 p f i=max 0 (p.D i-f i):=if_pos ⟨i0,i1⟩
  show _/\_
  dsimp only
  rw [e]
  omega
theorem W6{p:Prob}(hok:p.Ok){f:Int->Int}(hf:∀k,0<=k->k<p.m->0<=f k):∀n:Nat,(n:Int)<=p.m->psum (fun _=>1) (Z4 p f) n<=psum (fun _=>1) p.D n
  |0,_=>Int.le_refl _
  | n+1,hn=>by
    have h1:=W6 hok hf n (by omega)
    have h2:=hf n (by omega) (by omega)
    have h3:=Ue hok (k:=(n:Int)) (by omega) (by omega)
    have e:Z4 p f n=max 0 (p.D n-f n):=if_pos ⟨by omega,by omega⟩
    simp only [psum,e]
    omega
set_option maxHeartbeats 4000000 in
set_option maxRecDepth 20000 in
theorem Zao{vL vD:Value}{p:Prob}{vM:Value}{u:Int}{mv:Int->Value}{ml:Int->Int}{mf:Int->Int->Int}{vX vY:Value}{s:So}(w0:World)(h:PAt w0 vL vD p)(hM:MAt w0 vM u mv ml mf)(hX:Row w0 vX 1 s.n (ints s.X))(hY:Row w0 vY 1 s.m (ints s.Y))(hn60:s.n<=1000):
    Calls Tryz.prog 63 [.agg #[vL,vD,.int .i64 p.stock,.int .i64 p.kerf],.agg #[vM,vX,vY,.int .i64 s.val,.int .i64 s.den]].toArray w0 fun e w=>∃v,e= .returned v/\∃r n pv ln pt cnt e,v= .tuple #[r,.int .i64 e]/\WholeR p u ml mf s n ln pt cnt e/\Slh r n/\Sat w0 w [.own r 2 111 n (Zc pv cnt),.sem (Frame.rows 3 n pv ln pt)]:=by
  have hm:=h.L.slh.n0;have hm1:=h.L.slh.n1;have hd:=h.D.slh.n0;have hd1:=h.D.slh.n1;have hs:=h.is;have hk:=h.ik
  have hu:=hM.row.slh.n0;have hu1:=hM.row.slh.n1;have hn:=hX.slh.n0;have hn1:=hX.slh.n1
  refine Zj Tryz.func63 Tryz.ntmps63 fun w hS=> ?_
  refine zsr ?_
  refine zla (xbx (cs:= [_,_,_,_]) hS) ?_;rintro _ w ⟨g1,rfl,hS⟩
  replace hS:=hS.n1
  refine zla (xbx (cs:= [_,_,_,_,_]) hS) ?_;rintro _ w ⟨g2,rfl,hS⟩
  replace hS:=hS.n2
  refine zs2 ?_
  refine zx5 ?_
  refine zlv (xls 0 st_35 hS) ?_
  refine zlc (xc0 Vp) (YP (p:=p) w (h.below hS.below)) ?_;rintro _ w ⟨rfl,hS'⟩
  replace hS:=hS.cmp hS';clear hS'
  refine zs2 ?_
  refine zlb 12 ?_ ?_<;>intro hc
  ·
   iterate 4 refine zlo ?_
   refine zlv xpt ?_
   refine zlt<|zct<|zsr ?_
   refine zs2 ?_
   refine zx14<|zf2 ⟨_,rfl,?_⟩
   exact⟨_,0,fun _=>undef,fun _=>0,fun _ _=>0,fun _=>0,1,rfl,.inl ⟨by first|exact fun hh=>absurd hh.1 ‹¬p.Ok›|exact fun hh=>absurd hh.2 ‹_›,rfl,rfl⟩,slh_nil,((hS.sub (.cons _ (.cons _ .slnil))).addnil 2 111 (Zc (fun _=>undef) (fun _=>0))).addrows 3 (fun _=>undef) (fun _=>0) (fun _ _=>0)⟩
  refine zlv (xls 0 st_35 hS) ?_
  refine zlv (xls 1 XH hS) ?_
  refine zlc (xc0 Zhb) (Zbd (p:=p) (u:=u) (ml:=ml) (mf:=mf) (s:=s) w (h.below hS.below) (by first|assumption|exact Classical.not_not.1 ‹_›) (hM.below hS.below) (hX.below hS.below) (hY.below hS.below) hn60) ?_;rintro _ w ⟨rfl,hS'⟩
  replace hS:=hS.cmp hS';clear hS'
  refine zs2 ?_
  refine zlt ?_
  refine zcif ?_ ?_<;>intro hc
  ·
   refine zsr ?_
   refine zs2 ?_
   refine zx14<|zf2 ⟨_,rfl,?_⟩
   exact⟨_,0,fun _=>undef,fun _=>0,fun _ _=>0,fun _=>0,1,rfl,.inl ⟨by first|exact fun hh=>absurd hh.1 ‹¬p.Ok›|exact fun hh=>absurd hh.2 ‹_›,rfl,rfl⟩,slh_nil,((hS.sub (.cons _ (.cons _ .slnil))).addnil 2 111 (Zc (fun _=>undef) (fun _=>0))).addrows 3 (fun _=>undef) (fun _=>0) (fun _ _=>0)⟩
  refine YR ?_
  refine zlv (xls 0 st_35 hS) ?_
  refine zlc (xc0 Zey) (Zaq (p:=p) w (h.below hS.below)) ?_;rintro _ w ⟨eck1,rfl,hck1,hS'⟩
  replace hS:=hS.cmp hS';clear hS'
  have hokp:p.Ok:=by first|assumption|exact Classical.not_not.1 ‹_›
  have hfitt:Vf p u ml mf s:=by first|assumption|exact Classical.not_not.1 ‹_›
  have hok9:=hokp
  refine zlv xas ?_
  refine zlz ?_
  refine zs2 ?_
  refine zlt ?_
  refine zcif ?_ ?_<;>intro hc
  ·
   refine zsr ?_
   refine zs3 ?_
   refine zx14<|zf2 ⟨_,rfl,?_⟩
   exact⟨_,0,fun _=>undef,fun _=>0,fun _ _=>0,fun _=>0,_,rfl,.inr (.inl ⟨hokp,hfitt,hck1,by omega,rfl⟩),slh_nil,((hS.sub (.cons _ (.cons _ .slnil))).addnil 2 111 (Zc (fun _=>undef) (fun _=>0))).addrows 3 (fun _=>undef) (fun _=>0) (fun _ _=>0)⟩
  refine ZR ?_
  refine zlv (xfb 0 fd_31_0) ?_
  have hml:=fun k k0 k1=>(show ml k<=100000 by have:=(Xp (hfitt.2.2.2.1 k k0 k1).1).1;have:=hokp.m2;omega)
  have hun:=hfitt.2.1
  refine zlv (xlb 1 pl_27 hS) ?_
  refine zlv (xfb 1 fd_31_1) ?_
  refine zlv (xlp 1 (ds:= [vX,vY,.int .i64 s.val,.int .i64 s.den]) ZK hS) ?_
  refine zlc (xc0 Zgj) (Zbc (u:=u) (ml:=ml) (mf:=mf) (s:=s) w (hM.below hS.below) (hX.below hS.below) (hY.below hS.below) (by omega) (fun k k0 k1=>by have:=hml k k0 k1;omega)) ?_;rintro _ w ⟨vffl1,fnfl1,fvfl1,flfl1,fgfl1,fcfl1,fefl1,rfl,hflfl1,hvffl1,hS'⟩
  replace hS:Sat w0 w [.blk g1 [vL,vD,.int .i64 p.stock,.int .i64 p.kerf],.blk g2 [vM,vX,vY,.int .i64 s.val,.int .i64 s.den],.own vffl1 2 111 fnfl1 (Zc fvfl1 fcfl1),.sem (Frame.rows 3 fnfl1 fvfl1 flfl1 fgfl1)]:=hS.comp hS';clear hS'
  have hfrfl1:=fun k (k0:0<=k) (k1:k<fnfl1)=>hS.slhIn 3 rfl k0 k1
  refine zs5 ?_
  refine zlz ?_
  refine zs3 ?_
  refine zx1<|zf2 ⟨_,rfl,?_⟩
  have hfl:=hflfl1.resolve_left fun hh=>hh.1 ⟨hfitt.1,hfitt.2.1.symm⟩
  exact⟨_,_,_,_,_,_,0,rfl,.inr (.inr ⟨hokp,hfitt,(by rw [show(0:Int)=eck1 by omega];exact hck1),rfl,hfl.2.2.1,hfl.2.2.2.1,hfl.2.2.2.2.1,hfl.2.2.2.2.2.1⟩),hvffl1,hS.pk [2,3]⟩
theorem ZgS{w:World}{v a b:Value}(h:Row w v 1 2 (fun k=> [a,b].getD k.toNat undef)):Row w v 1 2 (ZH a b):=⟨h.1,fun k hk=>by
  have:=h.2 k hk
  rcases k with _|_|k
  · exact this
  · exact this
  · simp at hk;omega⟩
theorem VAt.cat{w:World}{v v1 v2:Value}{n1 n2:Int}{pv1 pv2:Int->Value}{ln1 ln2 c1 c2:Int->Int}{pt1 pt2:Int->Int->Int}(hr:Row w v 2 (n1+n2) (Zc (cat n1 pv1 pv2) (cat n1 c1 c2)))(h1:VAt w v1 n1 pv1 ln1 pt1 c1)(h2:VAt w v2 n2 pv2 ln2 pt2 c2)(n10:0<=n1):VAt w v (n1+n2) (cat n1 pv1 pv2) (cat n1 ln1 ln2) (cat n1 pt1 pt2) (cat n1 c1 c2):=by
  refine⟨hr,fun i i0 i1=> ?_,fun i i0 i1=> ?_⟩
  · unfold Gw.cat
    by_cases h:i<n1
    · rw [if_pos h,if_pos h,if_pos h];exact h1.p i i0 h
    · rw [if_neg h,if_neg h,if_neg h];exact h2.p (i-n1) (by omega) (by omega)
  · unfold Gw.cat
    by_cases h:i<n1
    · rw [if_pos h];exact h1.room i i0 h
    · rw [if_neg h];exact h2.room (i-n1) (by omega) (by omega)
theorem ZhI(n m:Int)(p q:Int->Value){k:Int}(k0:0<=k)(k1:k<n+m):TM (ZH n m) (ZH p q) 2 k=cat n p q k:=by
  simp only [TM,tot,ZH,Gw.cat]
  by_cases h:k<n
  · simp [h];omega
  · simp [h]
theorem UZ(n m:Int)(p q:Int->Int){k:Int}(k0:0<=k)(k1:k<n+m):XJ (ZH n m) (ZH p q) 2 k=cat n p q k:=by
  simp only [XJ,tot,ZH,Gw.cat]
  by_cases h:k<n
  · simp [h];omega
  · simp [h]
def DownR(p:Prob)(u:Int)(ml:Int->Int)(mf:Int->Int->Int)(s:So)(out:Us)(e:Int):Prop:=
  (e≠0/\out= []/\∃n ln pt cnt,WholeR p u ml mf s n ln pt cnt e)\/(∃n1 ln1 pt1 cnt1 n2 ln2 pt2 cnt2,WholeR p u ml mf s n1 ln1 pt1 cnt1 0/\0<=n1/\0<=n2/\NormR (Vq (Yo p.m (p.stock+p.kerf) (szP p) (pcsTo (Z4 p (ZC n1 pt1 cnt1)) p.m 0))) (plL n2 ln2 pt2 cnt2)/\TrimR p (n1+n2) (cat n1 ln1 ln2) (cat n1 pt1 pt2) (cat n1 cnt1 cnt2) out e)
set_option maxHeartbeats 4000000 in
set_option maxRecDepth 20000 in
theorem ZgC{vL vD:Value}{p:Prob}{vM:Value}{u:Int}{mv:Int->Value}{ml:Int->Int}{mf:Int->Int->Int}{vX vY:Value}{s:So}(w0:World)(h:PAt w0 vL vD p)(hM:MAt w0 vM u mv ml mf)(hX:Row w0 vX 1 s.n (ints s.X))(hY:Row w0 vY 1 s.m (ints s.Y))(hn60:s.n<=1000):
    Calls Tryz.prog 33 [.agg #[vL,vD,.int .i64 p.stock,.int .i64 p.kerf],.agg #[vM,vX,vY,.int .i64 s.val,.int .i64 s.den]].toArray w0 fun e w=>∃v,e= .returned v/\∃r n pv ln pt cnt e,v= .tuple #[r,.int .i64 e]/\DownR p u ml mf s (plL n ln pt cnt) e/\(∀k,0<=k->k<n->1<=cnt k/\cnt k<=1000000000)/\n<=1000000/\Slh r n/\Sat w0 w [.own r 2 111 n (Zc pv cnt),.sem (Frame.rows 3 n pv ln pt)]:=by
  have hm:=h.L.slh.n0;have hm1:=h.L.slh.n1;have hd:=h.D.slh.n0;have hd1:=h.D.slh.n1;have hs:=h.is;have hk:=h.ik
  have hu:=hM.row.slh.n0;have hu1:=hM.row.slh.n1;have hn:=hX.slh.n0;have hn1:=hX.slh.n1
  refine Zj Tryz.func33 Tryz.ntmps33 fun w hS=> ?_
  refine zsr ?_
  refine zla (xbx (cs:= [_,_,_,_]) hS) ?_;rintro _ w ⟨g1,rfl,hS⟩
  replace hS:=hS.n1
  refine zla (xbx (cs:= [_,_,_,_,_]) hS) ?_;rintro _ w ⟨g2,rfl,hS⟩
  replace hS:=hS.n2
  refine zs2 ?_
  refine zlz ?_
  refine zlv (xls 0 st_35 hS) ?_
  refine zlv (xls 1 XH hS) ?_
  refine zlc (xc0 Zew) (Zao (p:=p) (u:=u) (ml:=ml) (mf:=mf) (s:=s) w (h.below hS.below) (hM.below hS.below) (hX.below hS.below) (hY.below hS.below) hn60) ?_;rintro _ w ⟨vnwh1,nnwh1,pnwh1,lnwh1,gnwh1,cnwh1,enwh1,rfl,hwhwh1,hvnwh1,hS'⟩
  replace hS:Sat w0 w [.blk g1 [vL,vD,.int .i64 p.stock,.int .i64 p.kerf],.blk g2 [vM,vX,vY,.int .i64 s.val,.int .i64 s.den],.own vnwh1 2 111 nnwh1 (Zc pnwh1 cnwh1),.sem (Frame.rows 3 nnwh1 pnwh1 lnwh1 gnwh1)]:=hS.comp hS';clear hS'
  have hrnwh1:=fun k (k0:0<=k) (k1:k<nnwh1)=>hS.slhIn 3 rfl k0 k1
  refine zs5 ?_
  refine zx5 ?_
  refine zs2 ?_
  refine zlt ?_
  refine zcif ?_ ?_<;>intro hc
  ·
   refine zsr ?_
   refine zs3 ?_
   refine zx14<|zf2 ⟨_,rfl,?_⟩
   exact⟨_,0,fun _=>undef,fun _=>0,fun _ _=>0,fun _=>0,_,rfl,.inl ⟨by omega,rfl,_,_,_,_,hwhwh1⟩,fun k k0 k1=>by omega,by omega,slh_nil,((hS.sub (.cons _ (.cons _ (.cons _ (.cons _ .slnil))))).addnil 2 111 (Zc (fun _=>undef) (fun _=>0))).addrows 3 (fun _=>undef) (fun _=>0) (fun _ _=>0)⟩
  refine ZR ?_
  refine zlv (xls 0 st_35 hS) ?_
  obtain⟨hokp,hfitt,htot,hn60w,hplw,hn19⟩:=hwhwh1.ok (by omega) hu
  have hok9:=hokp
  refine zlv xmv ?_
  refine zlc (xc0 Zal) (Vz (u:=nnwh1) (pv:=pnwh1) (ln:=lnwh1) (pt:=gnwh1) (cnt:=cnwh1) (p:=p) w (⟨(hS.rowN 2 rfl),fun k k0 k1=>hS.rowIn 3 rfl k0 k1,fun k k0 k1=>hS.roomIn 3 rfl k0 k1⟩:VAt _ vnwh1 nnwh1 pnwh1 lnwh1 gnwh1 cnwh1) (h.below hS.below)) ?_;rintro _ w ⟨vdmd1,ndmd1,fdmd1,edmd1,rfl,hmdmd1,hvdmd1,hS'⟩
  replace hS:Sat w0 w [.blk g1 [vL,vD,.int .i64 p.stock,.int .i64 p.kerf],.blk g2 [vM,vX,vY,.int .i64 s.val,.int .i64 s.den],.own vnwh1 2 111 nnwh1 (Zc pnwh1 cnwh1),.sem (Frame.rows 3 nnwh1 pnwh1 lnwh1 gnwh1),.own vdmd1 1 3 ndmd1 (ints fdmd1)]:=hS.comp hS';clear hS'
  obtain⟨hnd9,hfd9⟩:ndmd1=p.m/\fdmd1=ZC nnwh1 gnwh1 cnwh1:=by rcases hmdmd1 with⟨g1,_⟩|⟨_,g2,g3,_⟩;exact absurd hplw g1;exact⟨g2,g3⟩
  have hfbb:∀k,0<=k->k<p.m->0<=fdmd1 k/\fdmd1 k<=2000000000:=fun k k0 k1=>by rw [hfd9];have h9:=Xt hplw.2.2 hn19 (Int.le_refl _) k0 k1;omega
  have hfb9:=fun k (k0:0<=k) (k1:k<p.m)=>(hfbb k k0 k1).1
  have htl:=W6 hokp hfb9 p.m.toNat (by have:=hokp.m1;omega)
  refine zs5 ?_
  refine zx7 ?_
  refine zdst [0,1,2,3,4] [0,1,2,3,4] 1000 mx_ hS ?_;clear hS;intro w hS
  refine zdla 0 (fun w hS=>(xls 0 st_35 hS)) ?_
  refine zDrv 1 xmv ?_
  refine zdla 2 (fun w hS=>(xls 0 st_35 hS)) ?_
  refine zDrv 3 xmv ?_
  refine zdc 4 (xc0 Zeu) (ZcN (p:=p) (f:=fdmd1) w (h.below hS.below) hokp (hnd9▸(hS.rowN 4 rfl)) hfbb) ?_;rintro _ w ⟨vllf1,wllf1,rfl,hvllf1,hwllf1,hS'⟩
  replace hS:Sat w0 w [.blk g1 [vL,vD,.int .i64 p.stock,.int .i64 p.kerf],.blk g2 [vM,vX,vY,.int .i64 s.val,.int .i64 s.den],.own vnwh1 2 111 nnwh1 (Zc pnwh1 cnwh1),.sem (Frame.rows 3 nnwh1 pnwh1 lnwh1 gnwh1),.own vdmd1 1 3 ndmd1 (ints fdmd1),.own vllf1 1 3 p.m (ints p.L),.own wllf1 1 3 p.d (ints (Z4 p fdmd1))]:=hS.comp hS';clear hS'
  refine⟨⟨fun _=>hS.pk [0,1,2,3,4],hS.pk [0,1,2,3,4]⟩,?_⟩
  refine zdc 5 (xc0 Zex) (Ui (p:=(⟨p.m,p.L,p.d,(Z4 p fdmd1),p.stock,p.kerf⟩:Prob)) w (⟨(hS.rowN 5 rfl),(hS.rowN 6 rfl),h.iL,(ZaM hokp hfb9),(by(try dsimp only);omega),(by(try dsimp only);omega)⟩:PAt _ _ _ (⟨p.m,p.L,p.d,(Z4 p fdmd1),p.stock,p.kerf⟩:Prob)) (ZbF hokp hfb9) (by show psum (fun _=>1) (Z4 p _) p.m.toNat<=1000;omega)) ?_;rintro vnn1 w ⟨_,nnn1,pnn1,lnn1,gnn1,cnn1,rfl,hnrn1,hn0n1,hn1n1,hncn1,hvnn1,hS'⟩
  replace hS:Sat w0 w [.blk g1 [vL,vD,.int .i64 p.stock,.int .i64 p.kerf],.blk g2 [vM,vX,vY,.int .i64 s.val,.int .i64 s.den],.own vnwh1 2 111 nnwh1 (Zc pnwh1 cnwh1),.sem (Frame.rows 3 nnwh1 pnwh1 lnwh1 gnwh1),.own vdmd1 1 3 ndmd1 (ints fdmd1),.own vllf1 1 3 p.m (ints p.L),.own wllf1 1 3 p.d (ints (Z4 p fdmd1)),.own vnn1 2 111 nnn1 (Zc pnn1 cnn1),.sem (Frame.rows 3 nnn1 pnn1 lnn1 gnn1)]:=hS.comp hS';clear hS'
  have hrnn1:=fun k (k0:0<=k) (k1:k<nnn1)=>hS.slhIn 8 rfl k0 k1
  refine⟨⟨fun _=>hS.pk [0,1,2,3,4],hS.pk [0,1,2,3,4]⟩,?_⟩
  refine zda 6 (xli (n:=2) (len:=2) (pv:= [(0,vnwh1),(1,vnn1)]) (cs:= [vnwh1,vnn1]) (c:=fun k=>([(vnwh1:Value),(vnn1:Value)]).getD k.toNat undef) VM Zer hS (hf:=by obtain⟨_,_,_,_,rfl,_⟩:=hvnwh1;obtain⟨_,_,_,_,rfl,_⟩:=hvnn1;kernel_rfl)) ?_;rintro v1 w ⟨hS,hv1⟩
  replace hS:=hS.n10
  refine⟨⟨fun _=>hS.pk [0,1,2,3,4],hS.pk [0,1,2,3,4]⟩,?_⟩
  have hna:=ZhW (w:=w) (n:=nnwh1) (m:=nnn1) (pa:=pnwh1) (pb:=pnn1) (ca:=cnwh1) (cb:=cnn1) (ZgS (hS.rowN 9 rfl)) (hS.rowN 2 rfl) (hS.rowN 7 rfl) (fun k k0 k1=>(hrnwh1 k k0 k1).one) (fun k k0 k1=>(hrnn1 k k0 k1).one)
  have htt:∀k:Int,0<=k->k<=2->tot (ZH nnwh1 nnn1) k.toNat<=10000000:=fun k k0 k1=>by
    have:k=0\/k=1\/k=2:=by omega
    rcases this with rfl|rfl|rfl
    · simp [tot]
    · simp [tot,ZH];omega
    · have e2:=Zdb nnwh1 nnn1;rw [show(2:Int).toNat=2 from rfl,e2];omega
  refine zdc 7 (xc0 Zht) (Zbf w hna htt) ?_;rintro vq1 w ⟨_,rfl,hslq1,hS'⟩
  rw [show(2:Int).toNat=2 from rfl,Zdb] at hslq1 hS'
  replace hS':=hS'.recont 0 rfl (d:=Zc (cat nnwh1 pnwh1 pnn1) (cat nnwh1 cnwh1 cnn1)) (fun k k0 k1=>by unfold Zc;rw [ZhI _ _ _ _ (by omega) (by omega),UZ _ _ _ _ (by omega) (by omega)])
  replace hS:Sat w0 w [.blk g1 [vL,vD,.int .i64 p.stock,.int .i64 p.kerf],.blk g2 [vM,vX,vY,.int .i64 s.val,.int .i64 s.den],.own vnwh1 2 111 nnwh1 (Zc pnwh1 cnwh1),.sem (Frame.rows 3 nnwh1 pnwh1 lnwh1 gnwh1),.own vdmd1 1 3 ndmd1 (ints fdmd1),.own vllf1 1 3 p.m (ints p.L),.own wllf1 1 3 p.d (ints (Z4 p fdmd1)),.own vnn1 2 111 nnn1 (Zc pnn1 cnn1),.sem (Frame.rows 3 nnn1 pnn1 lnn1 gnn1),.own v1 1 60 2 (fun k=>([(vnwh1:Value),(vnn1:Value)]).getD k.toNat undef),.own vq1 2 111 (nnwh1+nnn1) (Zc (cat nnwh1 pnwh1 pnn1) (cat nnwh1 cnwh1 cnn1))]:=hS.comp hS'
  clear hS'
  refine⟨⟨fun _=>hS.pk [0,1,2,3,4],hS.pk [0,1,2,3,4]⟩,?_⟩
  refine zdc 8 (xc0 Zev) (Zcq (u:=(nnwh1+nnn1)) (pv:=(cat nnwh1 pnwh1 pnn1)) (ln:=(cat nnwh1 lnwh1 lnn1)) (pt:=(cat nnwh1 gnwh1 gnn1)) (cnt:=(cat nnwh1 cnwh1 cnn1)) (p:=p) w (VAt.cat (hS.rowN 10 rfl) (⟨(hS.rowN 2 rfl),fun k k0 k1=>hS.rowIn 3 rfl k0 k1,fun k k0 k1=>hS.roomIn 3 rfl k0 k1⟩:VAt _ vnwh1 nnwh1 pnwh1 lnwh1 gnwh1 cnwh1) (⟨(hS.rowN 7 rfl),fun k k0 k1=>hS.rowIn 8 rfl k0 k1,fun k k0 k1=>hS.roomIn 8 rfl k0 k1⟩:VAt _ vnn1 nnn1 pnn1 lnn1 gnn1 cnn1) (by omega)) (h.below hS.below)) ?_;rintro _ w ⟨vntr1,nntr1,pntr1,lntr1,gntr1,cntr1,entr1,rfl,htrtr1,htctr1,htntr1,hvntr1,hS'⟩
  replace hS:Sat w0 w [.blk g1 [vL,vD,.int .i64 p.stock,.int .i64 p.kerf],.blk g2 [vM,vX,vY,.int .i64 s.val,.int .i64 s.den],.own vnwh1 2 111 nnwh1 (Zc pnwh1 cnwh1),.sem (Frame.rows 3 nnwh1 pnwh1 lnwh1 gnwh1),.own vdmd1 1 3 ndmd1 (ints fdmd1),.own vllf1 1 3 p.m (ints p.L),.own wllf1 1 3 p.d (ints (Z4 p fdmd1)),.own vnn1 2 111 nnn1 (Zc pnn1 cnn1),.sem (Frame.rows 3 nnn1 pnn1 lnn1 gnn1),.own v1 1 60 2 (fun k=>([(vnwh1:Value),(vnn1:Value)]).getD k.toNat undef),.own vq1 2 111 (nnwh1+nnn1) (Zc (cat nnwh1 pnwh1 pnn1) (cat nnwh1 cnwh1 cnn1)),.own vntr1 2 111 nntr1 (Zc pntr1 cntr1),.sem (Frame.rows 3 nntr1 pntr1 lntr1 gntr1)]:=hS.comp hS';clear hS'
  have hrntr1:=fun k (k0:0<=k) (k1:k<nntr1)=>hS.slhIn 12 rfl k0 k1
  refine⟨⟨fun _=>hS.pk [0,1,2,3,4],hS.pk [0,1,2,3,4]⟩,?_⟩
  refine zDrv 9 xex ?_
  refine zDrv 10 xex ?_
  refine zDrv 11 xas ?_
  refine zDrv 12 xas ?_
  refine zdd<|ztn<|zrt<|zf2 ⟨_,rfl,?_⟩
  exact⟨_,_,_,_,_,_,_,rfl,.inr ⟨_,_,_,_,_,_,_,_,(by rw [show(0:Int)=enwh1 by omega];exact hwhwh1),hn19,hn0n1,(by rw [<-hfd9];exact hnrn1),htrtr1⟩,htctr1,htntr1,hvntr1,hS.pk [11,12]⟩
set_option maxRecDepth 20000 in
theorem KA{vd:Value}{n:Int}{s:Int->Int}{F:Go.Proofs.Gw.Frame}{gs:Nat}{a b m:Int}(w0 w:World)(hS:Sat w0 w [.own vd 1 3 n (ints s),.sem F])(hsl:Slh vd n)(hn8:n<=100000000)(a0:0<=a)(m0:0<=m)(ab:a+m<=b)(bn:b+m<=n):
    Calls Tryz.prog 183 [vd,.int .i64 a,.int .i64 b,.int .i64 m,.func (.func 69) #[] #[(.pointer (some ⟨gs,0,none⟩))]].toArray w fun e w=>∃v,e= .returned v/\v= .tuple #[]/\Sat w0 w [.own vd 1 3 n (ints (swr s a b m)),.sem F]:=by
  refine zenF Tryz.func183 Tryz.ntmps183 ?_
  refine zsr ?_
  refine zlv xas ?_
  refine zx6<|zlp (fun mm M w=>∃(t:Int->Int) (i:Int),mm=((m-i).toNat)/\(0<=i)/\(i<=m)/\(t=swr s a b i)/\M= [(0,vd),(1,.int .i64 a),(2,.int .i64 b),(3,.int .i64 m),(10,.int .i64 i)]/\Sat w0 w [.own vd 1 3 n (ints t),.sem F]) ⟨s,0,rfl,(by omega),(by omega),?_,rfl,hS⟩ ?_
  ·
   exact(T3 s a b).symm
  clear hS w
  rintro mm M w ⟨t,i,rfl,i0,i1,ht,rfl,hS⟩
  refine zx11 ?_
  refine zs3 ?_
  refine zlt ?_
  refine zcif ?_ ?_<;>intro hc
  ·
   refine zsk<|ztn<|zsq<|zbk ?_
   refine zdst [0,1] [1] 21 mx_ hS ?_;clear hS;intro w hS
   refine zDrv 0 xmv ?_
   refine zDrv 1 xmv ?_
   refine zDrv 2 xmv ?_
   refine zDrv 3 (xadd (r:=a+i)) ?_
   refine zDrv 4 xmv ?_
   refine zDrv 5 xmv ?_
   refine zDrv 6 xmv ?_
   refine zDrv 7 (xadd (r:=b+i)) ?_
   refine zDrv 8 xmv ?_
   refine zDrv 9 xmv ?_
   refine zDrv 10 xmv ?_
   refine zDrv 11 (xadd (r:=b+i)) ?_
   refine zDrv 12 (xix (kk:=b+i) sl_22 hsl) ?_
   refine zdl 13 (fun w hS=>(xlr (u:= .int .i64 (t (b+i))) pl_3 (hS.rowN 0 rfl))) ?_
   refine zDrv 14 xmv ?_
   refine zDrv 15 xmv ?_
   refine zDrv 16 xmv ?_
   refine zDrv 17 (xadd (r:=a+i)) ?_
   refine zDrv 18 (xix (kk:=a+i) sl_22 hsl) ?_
   refine zdl 19 (fun w hS=>(xlr (u:= .int .i64 (t (a+i))) pl_3 (hS.rowN 0 rfl))) ?_
   refine zDrv 20 (xix (kk:=a+i) sl_22 hsl) ?_
   refine zde 21 (xso 0 pl_3 hS rfl) ?_;clear hS;rintro w hS
   replace hS:=hS.n2
   refine⟨⟨fun h=>absurd h (by decide),hS.pk [1]⟩,?_⟩
   refine zDrv 22 (xix (kk:=b+i) sl_22 hsl) ?_
   refine zde 23 (xso 0 pl_3 hS (WH t (a+i) (b+i))) ?_;clear hS;rintro w hS
   replace hS:=hS.n2
   refine⟨⟨fun h=>absurd h (by decide),hS.pk [1]⟩,?_⟩
   refine zdd<|zbn<|ztn<|zrg ?_
   refine zlv xmv ?_
   refine zlv (xadd (r:=i+1)) ?_
   refine zlv xas ?_
   refine zln<|zlq ⟨swp t (a+i) (b+i),i+1,rfl,(by omega),(by omega),?_,rfl,hS⟩
   ·
    rw [ht];exact T4 i0 (by omega) (by omega) (by omega)
  refine zxt<|ztx<|ztx<|zbh<|Xw ⟨_,rfl,?_⟩
  obtain rfl:i=m:=by omega
  subst ht
  exact⟨rfl,hS⟩
set_option maxRecDepth 20000 in
theorem c_rotI{vd:Value}{n:Int}{s:Int->Int}{F:Go.Proofs.Gw.Frame}{gs:Nat}{a m b:Int}(w0 w:World)(hS:Sat w0 w [.own vd 1 3 n (ints s),.sem F])(hsl:Slh vd n)(hn8:n<=100000000)(a0:0<=a)(am:a<m)(mb:m<b)(bn:b<=n):
    Calls Tryz.prog 167 [vd,.int .i64 a,.int .i64 m,.int .i64 b,.func (.func 69) #[] #[(.pointer (some ⟨gs,0,none⟩))]].toArray w fun e w=>∃v,e= .returned v/\v= .tuple #[]/\Sat w0 w [.own vd 1 3 n (ints (rot s a m b)),.sem F]:=by
  refine zenF Tryz.func167 Tryz.ntmps167 ?_
  refine zsr ?_
  refine zs2 ?_
  refine zlv (xsub (r:=m-a)) ?_
  refine zlv xas ?_
  refine zlz ?_
  refine zs2 ?_
  refine zlv (xsub (r:=b-m)) ?_
  refine zlv xas ?_
  refine zlt<|zsq<|zbk<|zlp (fun mm M w=>∃(t:Int->Int) (i:Int) (j:Int),mm=((i+j).toNat)/\(1<=i)/\(1<=j)/\(a<=m-i)/\(m+j<=b)/\(rot t (m-i) m (m+j)=rot s a m b)/\M= [(0,vd),(2,.int .i64 m),(4,.func (.func 69) #[] #[(.pointer (some ⟨gs,0,none⟩))]),(10,.int .i64 i),(11,.int .i64 j)]/\Sat w0 w [.own vd 1 3 n (ints t),.sem F]) ⟨s,m-a,b-m,rfl,(by omega),(by omega),(by omega),(by omega),?_,rfl,hS⟩ ?_
  ·
   rw [show m-(m-a)=a by omega,show m+(b-m)=b by omega]
  clear hS w
  rintro mm M w ⟨t,i,j,rfl,i0,j0,ia,jb,hr,rfl,hS⟩
  refine zx11 ?_
  refine zs3 ?_
  refine zlt ?_
  refine zcif ?_ ?_<;>intro hc
  ·
   refine zsk<|ztn<|zbk<|zsr ?_
   refine zs3 ?_
   refine zlt ?_
   refine zcif ?_ ?_<;>intro hc
   ·
    refine zsr ?_
    refine zs3 ?_
    refine zlv (xsub (r:=m-i)) ?_
    refine zs3 ?_
    refine zlc (xc0 Kv) (KA (s:=t) (a:=m-i) (b:=m) (m:=j) w0 w hS hsl hn8 (by omega) (by omega) (by omega) (by omega)) ?_;rintro _ w ⟨rfl,hS⟩
    replace hS:=hS.n2
    refine zlt<|zrg ?_
    refine zs2 ?_
    refine zlv (xsub (r:=i-j)) ?_
    refine zlv xas ?_
    refine zln<|zbn<|zlq ⟨(swr t (m-i) m j),i-j,j,rfl,(by omega),(by omega),(by omega),(by omega),?_,rfl,hS⟩
    ·
     first|(rw [<-hr,show m-(i-j)=m-i+j by omega];exact Wy (by omega) (by omega))|(rw [<-hr,show m+(j-i)=m+j-i by omega];exact XW (by omega) (by omega))
   refine zsr ?_
   refine zs3 ?_
   refine zlv (xsub (r:=m-i)) ?_
   refine zs2 ?_
   refine zlv (xadd (r:=m+j)) ?_
   refine zlv xmv ?_
   refine zlv (xsub (r:=m+j-i)) ?_
   refine zs2 ?_
   refine zlc (xc0 Kv) (KA (s:=t) (a:=m-i) (b:=m+j-i) (m:=i) w0 w hS hsl hn8 (by omega) (by omega) (by omega) (by omega)) ?_;rintro _ w ⟨rfl,hS⟩
   replace hS:=hS.n2
   refine zlt<|zrg ?_
   refine zs2 ?_
   refine zlv (xsub (r:=j-i)) ?_
   refine zlv xas ?_
   refine zln<|zbn<|zlq ⟨(swr t (m-i) (m+j-i) i),i,j-i,rfl,(by omega),(by omega),(by omega),(by omega),?_,rfl,hS⟩
   ·
    first|(rw [<-hr,show m-(i-j)=m-i+j by omega];exact Wy (by omega) (by omega))|(rw [<-hr,show m+(j-i)=m+j-i by omega];exact XW (by omega) (by omega))
  refine zxt<|ztx<|ztx<|zbh<|ztn<|zrg ?_
  refine zs3 ?_
  refine zlv (xsub (r:=m-i)) ?_
  refine zs3 ?_
  refine zlc (xc0 Kv) (KA (s:=t) (a:=m-i) (b:=m) (m:=i) w0 w hS hsl hn8 (by omega) (by omega) (by omega) (by omega)) ?_;rintro _ w ⟨rfl,hS⟩
  replace hS:=hS.n2
  refine zln<|Xw ⟨_,rfl,?_⟩
  have hz:(swr t (m-i) m i)=rot s a m b:=by
    rw [<-hr,show j=i by omega];exact Re (by omega)
  rw [hz] at hS
  exact⟨rfl,hS⟩
set_option maxRecDepth 20000 in
theorem ZcU {vd:Value} {n nm:Int} {s:Int->Int} {lt:Int->Int->Prop} {F:Go.Proofs.Gw.Frame} {gs:Nat} {a b:Int} (w0 w:World) (hS:Sat w0 w [.own vd 1 3 n (ints s),.sem F]) (hsl:Slh vd n) (hn8:n<=100000000) (hcmp:∀(w:World) (x y:Int),0<=x->x<nm->0<=y->y<nm->Below w0.heap.size w0 w->F.holds w->Calls Tryz.prog 69 [.int .i64 x,.int .i64 y,(.pointer (some ⟨gs,0,none⟩))].toArray w fun e w'=>∃v,e= .returned v/\∃c:Int,v= .int .i64 c/\(c<0↔lt x y)/\Sat w w' []) (hd:∀k,0<=k->k<n->0<=s k/\s k<nm) (hw:Swo lt) (a0:0<=a) (ab:a<=b) (bn:b<=n) (hinc:Vs a b s):
    Calls Tryz.prog 148 [vd,.int .i64 a,.int .i64 b,.func (.func 69) #[] #[(.pointer (some ⟨gs,0,none⟩))]].toArray w fun e w=>∃v,e= .returned v/\v= .tuple #[]/\∃t:Int->Int,PermOn a b s t/\Srt (Tie lt) a b t/\Sat w0 w [.own vd 1 3 n (ints t),.sem F]:=by
  refine zenF Tryz.func148 Tryz.ntmps148 ?_
  refine zsr ?_
  refine zlv xmv ?_
  refine zlv (xadd (r:=a+1)) ?_
  refine zlv xas ?_
  refine zx6<|zlp (fun mm M w=>∃(t:Int->Int) (i:Int),mm=((b-i).toNat)/\(a+1<=i)/\(i<=b\/i=a+1)/\(PermOn a i s t)/\(Srt (Tie lt) a i t)/\(∀k,0<=k->k<n->0<=t k/\t k<nm)/\M= [(0,vd),(1,.int .i64 a),(2,.int .i64 b),(3,.func (.func 69) #[] #[(.pointer (some ⟨gs,0,none⟩))]),(8,.int .i64 i)]/\Sat w0 w [.own vd 1 3 n (ints t),.sem F]) ⟨s,a+1,rfl,(by omega),(by omega),?_,?_,?_,rfl,hS⟩ ?_
  ·
   exact .refl _ _ _
  ·
   intro p q p0 pq q1;omega
  ·
   exact hd
  clear hS w
  rintro mm M w ⟨t,i,rfl,i0,i1,hp,hs,hd1,rfl,hS⟩
  refine zx11 ?_
  refine zs3 ?_
  refine zlt ?_
  refine zcif ?_ ?_<;>intro hc
  ·
   refine zx3 ?_
   refine zs2 ?_
   refine zx6<|zlp (fun mm M w=>∃(t2:Int->Int) (j:Int),mm=((j-a).toNat)/\(a<=j)/\(j<=i)/\(Ins lt a i j t t2)/\(∀k,0<=k->k<n->0<=t2 k/\t2 k<nm)/\M= [(0,vd),(1,.int .i64 a),(2,.int .i64 b),(3,.func (.func 69) #[] #[(.pointer (some ⟨gs,0,none⟩))]),(8,.int .i64 i),(9,.int .i64 j)]/\Sat w0 w [.own vd 1 3 n (ints t2),.sem F]) ⟨t,i,rfl,(by omega),(by omega),?_,?_,rfl,hS⟩ ?_
   ·
    exact Ins.start (by omega) hs (K9 hp hinc (by omega))
   ·
    exact hd1
   clear hS w
   rintro mm M w ⟨t2,j,rfl,j0,j1,hI,hd2,rfl,hS⟩
   refine zsq<|zsq ?_
   refine zdst [0,1] [0,1] 1000 mx_ hS ?_;clear hS;intro w hS
   refine zDrv 0 xmv ?_
   refine zDrv 1 xmv ?_
   refine zDrv 2 xgtr ?_
   refine zDrv 3 xmv ?_
   refine zdb 21 ?_ ?_<;>intro hc
   ·
    refine zDrv 4 xmv ?_
    refine zDrv 5 xmv ?_
    refine zDrv 6 xmv ?_
    refine zDrv 7 (xix (kk:=j) sl_22 hsl) ?_
    refine zdla 8 (fun w hS=>(xlr (u:= .int .i64 (t2 j)) pl_3 (hS.rowN 0 rfl))) ?_
    refine zDrv 9 xmv ?_
    refine zDrv 10 xmv ?_
    refine zDrv 11 (xsub (r:=j-1)) ?_
    refine zDrv 12 (xix (kk:=j-1) sl_22 hsl) ?_
    refine zdla 13 (fun w hS=>(xlr (u:= .int .i64 (t2 (j-1))) pl_3 (hS.rowN 0 rfl))) ?_
    refine zdc 14 (xcc (vs:= [_,_]) Zak) (hcmp w (t2 j) (t2 (j-1)) (hd2 j (by omega) (by omega)).1 (hd2 j (by omega) (by omega)).2 (hd2 (j-1) (by omega) (by omega)).1 (hd2 (j-1) (by omega) (by omega)).2 hS.below (hS.holds _ (List.mem_of_getElem? (i:=1) rfl))) ?_;rintro _ w ⟨c1,rfl,hc1,hS'⟩
    replace hS:=hS.cmp hS';clear hS'
    refine⟨⟨fun _=>hS,hS⟩,?_⟩
    refine zDrv 15 xlss ?_
    refine zDrv 16 xpt ?_
    refine zdd<|ztn ?_
    refine zcif ?_ ?_<;>intro hc
    ·
     refine zsk<|ztn<|zsq<|zbk ?_
     refine zdst [0,1] [1] 15 mx_ hS ?_;clear hS;intro w hS
     refine zDrv 0 xmv ?_
     refine zDrv 1 xmv ?_
     refine zDrv 2 xmv ?_
     refine zDrv 3 xmv ?_
     refine zDrv 4 (xsub (r:=j-1)) ?_
     refine zDrv 5 xmv ?_
     refine zDrv 6 xmv ?_
     refine zDrv 7 (xsub (r:=j-1)) ?_
     refine zDrv 8 (xix (kk:=j-1) sl_22 hsl) ?_
     refine zdl 9 (fun w hS=>(xlr (u:= .int .i64 (t2 (j-1))) pl_3 (hS.rowN 0 rfl))) ?_
     refine zDrv 10 xmv ?_
     refine zDrv 11 xmv ?_
     refine zDrv 12 (xix (kk:=j) sl_22 hsl) ?_
     refine zdl 13 (fun w hS=>(xlr (u:= .int .i64 (t2 j)) pl_3 (hS.rowN 0 rfl))) ?_
     refine zDrv 14 (xix (kk:=j) sl_22 hsl) ?_
     refine zde 15 (xso 0 pl_3 hS rfl) ?_;clear hS;rintro w hS
     replace hS:=hS.n2
     refine⟨⟨fun h=>absurd h (by decide),hS.pk [1]⟩,?_⟩
     refine zDrv 16 (xix (kk:=j-1) sl_22 hsl) ?_
     refine zde 17 (xso 0 pl_3 hS (WH t2 j (j-1))) ?_;clear hS;rintro w hS
     replace hS:=hS.n2
     refine⟨⟨fun h=>absurd h (by decide),hS.pk [1]⟩,?_⟩
     refine zdd<|zbn<|ztn<|zrg ?_
     refine zlv xmv ?_
     refine zlv (xsub (r:=j-1)) ?_
     refine zlv xas ?_
     refine zln<|zlq ⟨swp t2 j (j-1),j-1,rfl,(by omega),(by omega),?_,?_,rfl,hS⟩
     ·
      exact hI.step (by omega) (by omega) (hc1.1 ‹c1<0›)
     ·
      exact(VI (lo:=a) (hi:=n) (by omega) (by omega) (by omega) (by omega)).dom a0 (.inl (by omega)) hd2
    refine zxt<|ztx<|ztx<|zbh<|zbn<|ztn<|zrg ?_
    refine zlv xmv ?_
    refine zlv (xadd (r:=i+1)) ?_
    refine zlv xas ?_
    refine zln<|zlq ⟨t2,i+1,rfl,(by omega),(by omega),?_,?_,?_,rfl,hS⟩
    ·
     exact(hp.mono (by omega) (by omega)).trans hI.perm
    ·
     exact hI.fin hw (by omega) (by omega) (by first|exact .inl (by omega)|exact .inr fun h=>absurd (hc1.2 h) ‹¬c1<0›)
    ·
     exact hd2
   refine zdof 4 ?_
   refine zdof 5 ?_
   refine zdof 6 ?_
   refine zdof 7 ?_
   refine zdof 8 ?_
   refine zdof 9 ?_
   refine zdof 10 ?_
   refine zdof 11 ?_
   refine zdof 12 ?_
   refine zdof 13 ?_
   refine zdof 14 ?_
   refine zdof 15 ?_
   refine zDrv 16 xpf ?_
   refine zdd<|ztn<|zcf<|zxt<|ztx<|ztx<|zbh<|zbn<|ztn<|zrg ?_
   refine zlv xmv ?_
   refine zlv (xadd (r:=i+1)) ?_
   refine zlv xas ?_
   refine zln<|zlq ⟨t2,i+1,rfl,(by omega),(by omega),?_,?_,?_,rfl,hS⟩
   ·
    exact(hp.mono (by omega) (by omega)).trans hI.perm
   ·
    exact hI.fin hw (by omega) (by omega) (by first|exact .inl (by omega)|exact .inr fun h=>absurd (hc1.2 h) ‹¬c1<0›)
   ·
    exact hd2
  refine zxt<|ztx<|ztx<|zbh<|Xw ⟨_,rfl,?_⟩
  refine⟨rfl,t,?_,?_,hS⟩
  · by_cases hab:i<=b
    · exact hp.mono (by omega) (by omega)
    · obtain⟨p_,q_,e1,e2,e3⟩:=hp
      exact⟨p_,q_,e1,fun k hk=>by
        by_cases hka:k=a
        · subst hka
          apply Classical.byContradiction;intro hne
          have h5:=e2 (p_ k) (by omega)
          have h6:=congrArg q_ h5
          rw [(e1 _).2,(e1 _).2] at h6;exact hne h6
        · exact e2 k (by omega),e3⟩
  · exact hs.mono (by omega) (by omega)
set_option maxHeartbeats 4000000 in
set_option maxRecDepth 20000 in
theorem Zct {vd:Value} {n nm:Int} {lt:Int->Int->Prop} {F:Go.Proofs.Gw.Frame} {gs:Nat} (hsl:Slh vd n) (hn8:n<=100000000) (hw:Swo lt) (N:Nat):∀{s:Int->Int} {a m b:Int} (w0 w:World) (hS:Sat w0 w [.own vd 1 3 n (ints s),.sem F]) (hcmp:∀(w:World) (x y:Int),0<=x->x<nm->0<=y->y<nm->Below w0.heap.size w0 w->F.holds w->Calls Tryz.prog 69 [.int .i64 x,.int .i64 y,(.pointer (some ⟨gs,0,none⟩))].toArray w fun e w'=>∃v,e= .returned v/\∃c:Int,v= .int .i64 c/\(c<0↔lt x y)/\Sat w w' []) (hd:∀k,0<=k->k<n->0<=s k/\s k<nm) (a0:0<=a) (am:a<m) (mb:m<b) (bn:b<=n) (h1:Srt (Tie lt) a m s) (h2:Srt (Tie lt) m b s) (hp:Parted a m b s) (hN:(b-a).toNat<N),
    Calls Tryz.prog 149 [vd,.int .i64 a,.int .i64 m,.int .i64 b,.func (.func 69) #[] #[(.pointer (some ⟨gs,0,none⟩))]].toArray w fun e w=>∃v,e= .returned v/\v= .tuple #[]/\∃t:Int->Int,PermOn a b s t/\Srt (Tie lt) a b t/\Sat w0 w [.own vd 1 3 n (ints t),.sem F]:=by
  induction N with
  |zero=>intros;omega
  | succ N ih=>
    intro s a m b w0 w hS hcmp hd a0 am mb bn h1 h2 hp hN
    refine zenF Tryz.func149 Tryz.ntmps149 ?_
    refine zx11 ?_
    refine zs2 ?_
    refine zlv (xsub (r:=m-a)) ?_
    refine zlv Yi ?_
    refine zlt ?_
    refine zcif ?_ ?_<;>intro hc
    ·
     refine zsr ?_
     refine zs2 ?_
     refine zlz ?_
     refine zs2 ?_
     refine zlt<|zsq<|zbk<|zlp (fun mm M w=>∃(i:Int) (j:Int),mm=((j-i).toNat)/\(m<=i)/\(i<=j)/\(j<=b)/\(i=a+1\/lt (s (i-1)) (s a))/\(j=b\/¬lt (s j) (s a))/\M= [(0,vd),(1,.int .i64 a),(2,.int .i64 m),(3,.int .i64 b),(4,.func (.func 69) #[] #[(.pointer (some ⟨gs,0,none⟩))]),(10,.int .i64 i),(11,.int .i64 j)]/\Sat w0 w [.own vd 1 3 n (ints s),.sem F]) ⟨m,b,rfl,(by omega),(by omega),(by omega),?_,?_,rfl,hS⟩ ?_
     ·
      exact .inl (by omega)
     ·
      exact .inl rfl
     clear hS w
     rintro mm M w ⟨i,j,rfl,i0,ij,j1,hi,hj,rfl,hS⟩
     refine zx11 ?_
     refine zs3 ?_
     refine zlt ?_
     refine zcif ?_ ?_<;>intro hc
     ·
      refine zsk<|ztn<|zbk<|zsr ?_
      refine zs2 ?_
      refine zlv (xadd (r:=i+j)) ?_
      refine zlv (xcv Uo Xm) ?_
      refine zlv (Vh (r:=((i+j)/2))) ?_
      refine zlv (xcv Xz Tw) ?_
      refine zlv xas ?_
      refine zx7 ?_
      refine zdst [0,1] [0,1] 1000 mx_ hS ?_;clear hS;intro w hS
      refine zDrv 0 xmv ?_
      refine zDrv 1 xmv ?_
      refine zDrv 2 xmv ?_
      refine zDrv 3 (xix (kk:=((i+j)/2)) sl_22 hsl) ?_
      refine zdla 4 (fun w hS=>(xlr (u:= .int .i64 (s ((i+j)/2))) pl_3 (hS.rowN 0 rfl))) ?_
      refine zDrv 5 xmv ?_
      refine zDrv 6 xmv ?_
      refine zDrv 7 (xix (kk:=a) sl_22 hsl) ?_
      refine zdla 8 (fun w hS=>(xlr (u:= .int .i64 (s a)) pl_3 (hS.rowN 0 rfl))) ?_
      refine zdc 9 (xcc (vs:= [_,_]) Zak) (hcmp w (s ((i+j)/2)) (s a) (hd ((i+j)/2) (by omega) (by omega)).1 (hd ((i+j)/2) (by omega) (by omega)).2 (hd a (by omega) (by omega)).1 (hd a (by omega) (by omega)).2 hS.below (hS.holds _ (List.mem_of_getElem? (i:=1) rfl))) ?_;rintro _ w ⟨c1,rfl,hc1,hS'⟩
      replace hS:=hS.cmp hS';clear hS'
      refine⟨⟨fun _=>hS,hS⟩,?_⟩
      refine zDrv 10 xlss ?_
      refine zdd<|ztn ?_
      refine zcif ?_ ?_<;>intro hc
      ·
       refine zrg ?_
       refine zlv xmv ?_
       refine zlv (xadd (r:=((i+j)/2)+1)) ?_
       refine zlv xas ?_
       refine zln<|zbn<|zlq ⟨((i+j)/2)+1,j,rfl,(by omega),(by omega),(by omega),?_,?_,rfl,hS⟩
       ·
        first|exact hi|(right;rw [show(i+j)/2+1-1=(i+j)/2 by omega];exact hc1.1 ‹c1<0›)
       ·
        first|exact hj|exact .inr fun h=>absurd (hc1.2 h) ‹¬c1<0›
      refine zrg ?_
      refine zs2 ?_
      refine zln<|zbn<|zlq ⟨i,((i+j)/2),rfl,(by omega),(by omega),(by omega),?_,?_,rfl,hS⟩
      ·
       first|exact hi|(right;rw [show(i+j)/2+1-1=(i+j)/2 by omega];exact hc1.1 ‹c1<0›)
      ·
       first|exact hj|exact .inr fun h=>absurd (hc1.2 h) ‹¬c1<0›
     refine zx18 ?_
     refine zs2 ?_
     refine zx6<|zlp (fun mm M w=>∃(t:Int->Int) (k:Int),mm=((i-1-k).toNat)/\(a<=k)/\(k<=i-1)/\(t=rot s a (a+1) (k+1))/\M= [(0,vd),(1,.int .i64 a),(2,.int .i64 m),(3,.int .i64 b),(4,.func (.func 69) #[] #[(.pointer (some ⟨gs,0,none⟩))]),(10,.int .i64 i),(13,.int .i64 k)]/\Sat w0 w [.own vd 1 3 n (ints t),.sem F]) ⟨s,a,rfl,(by omega),(by omega),?_,rfl,hS⟩ ?_
     ·
      exact(Ra s a).symm
     clear hS w
     rintro mm M w ⟨t,k,rfl,k0,k1,ht,rfl,hS⟩
     refine zx11 ?_
     refine zs2 ?_
     refine zlv (xsub (r:=i-1)) ?_
     refine zlv xlss ?_
     refine zlt ?_
     refine zcif ?_ ?_<;>intro hc
     ·
      refine zsk<|ztn<|zsq<|zbk ?_
      refine zdst [0,1] [1] 15 mx_ hS ?_;clear hS;intro w hS
      refine zDrv 0 xmv ?_
      refine zDrv 1 xmv ?_
      refine zDrv 2 xmv ?_
      refine zDrv 3 xmv ?_
      refine zDrv 4 (xadd (r:=k+1)) ?_
      refine zDrv 5 xmv ?_
      refine zDrv 6 xmv ?_
      refine zDrv 7 (xadd (r:=k+1)) ?_
      refine zDrv 8 (xix (kk:=k+1) sl_22 hsl) ?_
      refine zdl 9 (fun w hS=>(xlr (u:= .int .i64 (t (k+1))) pl_3 (hS.rowN 0 rfl))) ?_
      refine zDrv 10 xmv ?_
      refine zDrv 11 xmv ?_
      refine zDrv 12 (xix (kk:=k) sl_22 hsl) ?_
      refine zdl 13 (fun w hS=>(xlr (u:= .int .i64 (t k)) pl_3 (hS.rowN 0 rfl))) ?_
      refine zDrv 14 (xix (kk:=k) sl_22 hsl) ?_
      refine zde 15 (xso 0 pl_3 hS rfl) ?_;clear hS;rintro w hS
      replace hS:=hS.n2
      refine⟨⟨fun h=>absurd h (by decide),hS.pk [1]⟩,?_⟩
      refine zDrv 16 (xix (kk:=k+1) sl_22 hsl) ?_
      refine zde 17 (xso 0 pl_3 hS (WH t k (k+1))) ?_;clear hS;rintro w hS
      replace hS:=hS.n2
      refine⟨⟨fun h=>absurd h (by decide),hS.pk [1]⟩,?_⟩
      refine zdd<|zbn<|ztn<|zrg ?_
      refine zlv xmv ?_
      refine zlv (xadd (r:=k+1)) ?_
      refine zlv xas ?_
      refine zln<|zlq ⟨swp t k (k+1),k+1,rfl,(by omega),(by omega),?_,rfl,hS⟩
      ·
       rw [ht];exact Rb (by omega)
     refine zxt<|ztx<|ztx<|zbh<|ztn<|zrt<|ztr<|zf0 ⟨_,rfl,?_⟩
     have hki:k+1=i:=by omega
     rw [hki] at ht
     refine⟨rfl,t,?_,?_,hS⟩
     · rw [ht];exact(Yd (by omega) (by omega)).mono (by omega) (by omega)
     · rw [ht];obtain rfl:m=a+1:=by omega
       exact UN hw h2 (fun j j0 j1=>hp a j (by omega) (by omega) j0 j1) (by omega) (by omega) hi (by rw [show i=j by omega];exact hj)
    refine YR ?_
    refine zs2 ?_
    refine zlv (xsub (r:=b-m)) ?_
    refine zlv Yi ?_
    refine zlt ?_
    refine zcif ?_ ?_<;>intro hc
    ·
     refine zsr ?_
     refine zs2 ?_
     refine zlz ?_
     refine zs2 ?_
     refine zlt<|zsq<|zbk<|zlp (fun mm M w=>∃(i:Int) (j:Int),mm=((j-i).toNat)/\(a<=i)/\(i<=j)/\(j<=m)/\(i=a\/¬lt (s m) (s (i-1)))/\(j=m\/lt (s m) (s j))/\M= [(0,vd),(1,.int .i64 a),(2,.int .i64 m),(3,.int .i64 b),(4,.func (.func 69) #[] #[(.pointer (some ⟨gs,0,none⟩))]),(14,.int .i64 i),(15,.int .i64 j)]/\Sat w0 w [.own vd 1 3 n (ints s),.sem F]) ⟨a,m,rfl,(by omega),(by omega),(by omega),?_,?_,rfl,hS⟩ ?_
     ·
      exact .inl rfl
     ·
      exact .inl rfl
     clear hS w
     rintro mm M w ⟨i,j,rfl,i0,ij,j1,hi,hj,rfl,hS⟩
     refine zx11 ?_
     refine zs3 ?_
     refine zlt ?_
     refine zcif ?_ ?_<;>intro hc
     ·
      refine zsk<|ztn<|zbk<|zsr ?_
      refine zs2 ?_
      refine zlv (xadd (r:=i+j)) ?_
      refine zlv (xcv Uo Xm) ?_
      refine zlv (Vh (r:=((i+j)/2))) ?_
      refine zlv (xcv Xz Tw) ?_
      refine zlv xas ?_
      refine zx7 ?_
      refine zdst [0,1] [0,1] 1000 mx_ hS ?_;clear hS;intro w hS
      refine zDrv 0 xmv ?_
      refine zDrv 1 xmv ?_
      refine zDrv 2 xmv ?_
      refine zDrv 3 (xix (kk:=m) sl_22 hsl) ?_
      refine zdla 4 (fun w hS=>(xlr (u:= .int .i64 (s m)) pl_3 (hS.rowN 0 rfl))) ?_
      refine zDrv 5 xmv ?_
      refine zDrv 6 xmv ?_
      refine zDrv 7 (xix (kk:=((i+j)/2)) sl_22 hsl) ?_
      refine zdla 8 (fun w hS=>(xlr (u:= .int .i64 (s ((i+j)/2))) pl_3 (hS.rowN 0 rfl))) ?_
      refine zdc 9 (xcc (vs:= [_,_]) Zak) (hcmp w (s m) (s ((i+j)/2)) (hd m (by omega) (by omega)).1 (hd m (by omega) (by omega)).2 (hd ((i+j)/2) (by omega) (by omega)).1 (hd ((i+j)/2) (by omega) (by omega)).2 hS.below (hS.holds _ (List.mem_of_getElem? (i:=1) rfl))) ?_;rintro _ w ⟨c1,rfl,hc1,hS'⟩
      replace hS:=hS.cmp hS';clear hS'
      refine⟨⟨fun _=>hS,hS⟩,?_⟩
      refine zDrv 10 xlss ?_
      refine zDrv 11 ZX ?_
      refine zdd<|ztn ?_
      refine zcif ?_ ?_<;>intro hc
      ·
       refine zrg ?_
       refine zlv xmv ?_
       refine zlv (xadd (r:=((i+j)/2)+1)) ?_
       refine zlv xas ?_
       refine zln<|zbn<|zlq ⟨((i+j)/2)+1,j,rfl,(by omega),(by omega),(by omega),?_,?_,rfl,hS⟩
       ·
        first|exact hi|(right;rw [show(i+j)/2+1-1=(i+j)/2 by omega];exact fun h=>absurd (hc1.2 h) ‹¬c1<0›)
       ·
        first|exact hj|exact .inr (hc1.1 (Classical.not_not.1 ‹_›))
      refine zrg ?_
      refine zs2 ?_
      refine zln<|zbn<|zlq ⟨i,((i+j)/2),rfl,(by omega),(by omega),(by omega),?_,?_,rfl,hS⟩
      ·
       first|exact hi|(right;rw [show(i+j)/2+1-1=(i+j)/2 by omega];exact fun h=>absurd (hc1.2 h) ‹¬c1<0›)
      ·
       first|exact hj|exact .inr (hc1.1 (Classical.not_not.1 ‹_›))
     refine zx18 ?_
     refine zs2 ?_
     refine zx6<|zlp (fun mm M w=>∃(t:Int->Int) (k:Int),mm=((k-i).toNat)/\(i<=k)/\(k<=m)/\(t=rot s k m (m+1))/\M= [(0,vd),(1,.int .i64 a),(2,.int .i64 m),(3,.int .i64 b),(4,.func (.func 69) #[] #[(.pointer (some ⟨gs,0,none⟩))]),(14,.int .i64 i),(17,.int .i64 k)]/\Sat w0 w [.own vd 1 3 n (ints t),.sem F]) ⟨s,m,rfl,(by omega),(by omega),?_,rfl,hS⟩ ?_
     ·
      exact(T8 s m).symm
     clear hS w
     rintro mm M w ⟨t,k,rfl,k0,k1,ht,rfl,hS⟩
     refine zx11 ?_
     refine zs3 ?_
     refine zlt ?_
     refine zcif ?_ ?_<;>intro hc
     ·
      refine zsk<|ztn<|zsq<|zbk ?_
      refine zdst [0,1] [1] 15 mx_ hS ?_;clear hS;intro w hS
      refine zDrv 0 xmv ?_
      refine zDrv 1 xmv ?_
      refine zDrv 2 xmv ?_
      refine zDrv 3 xmv ?_
      refine zDrv 4 (xsub (r:=k-1)) ?_
      refine zDrv 5 xmv ?_
      refine zDrv 6 xmv ?_
      refine zDrv 7 (xsub (r:=k-1)) ?_
      refine zDrv 8 (xix (kk:=k-1) sl_22 hsl) ?_
      refine zdl 9 (fun w hS=>(xlr (u:= .int .i64 (t (k-1))) pl_3 (hS.rowN 0 rfl))) ?_
      refine zDrv 10 xmv ?_
      refine zDrv 11 xmv ?_
      refine zDrv 12 (xix (kk:=k) sl_22 hsl) ?_
      refine zdl 13 (fun w hS=>(xlr (u:= .int .i64 (t k)) pl_3 (hS.rowN 0 rfl))) ?_
      refine zDrv 14 (xix (kk:=k) sl_22 hsl) ?_
      refine zde 15 (xso 0 pl_3 hS rfl) ?_;clear hS;rintro w hS
      replace hS:=hS.n2
      refine⟨⟨fun h=>absurd h (by decide),hS.pk [1]⟩,?_⟩
      refine zDrv 16 (xix (kk:=k-1) sl_22 hsl) ?_
      refine zde 17 (xso 0 pl_3 hS (WH t k (k-1))) ?_;clear hS;rintro w hS
      replace hS:=hS.n2
      refine⟨⟨fun h=>absurd h (by decide),hS.pk [1]⟩,?_⟩
      refine zdd<|zbn<|ztn<|zrg ?_
      refine zlv xmv ?_
      refine zlv (xsub (r:=k-1)) ?_
      refine zlv xas ?_
      refine zln<|zlq ⟨swp t k (k-1),k-1,rfl,(by omega),(by omega),?_,rfl,hS⟩
      ·
       rw [ht];exact T9 (by omega)
     refine zxt<|ztx<|ztx<|zbh<|ztn<|zrt<|ztr<|zf0 ⟨_,rfl,?_⟩
     have hki:k=i:=by omega
     rw [hki] at ht
     refine⟨rfl,t,?_,?_,hS⟩
     · rw [ht];exact(Yd (by omega) (by omega)).mono (by omega) (by omega)
     · rw [ht];obtain rfl:b=m+1:=by omega
       exact V0 hw h1 (fun i i0 i1=>hp i m i0 i1 (by omega) (by omega)) (by omega) (by omega) hi (by rw [show i=j by omega];exact hj)
    refine ZR ?_
    refine zs2 ?_
    refine zlv (xadd (r:=a+b)) ?_
    refine zlv (xcv Uo Xm) ?_
    refine zlv (Vh (r:=((a+b)/2))) ?_
    refine zlv (xcv Xz Tw) ?_
    refine zlv xas ?_
    refine zlz ?_
    refine zs2 ?_
    refine zlv (xadd (r:=((a+b)/2)+m)) ?_
    refine zlv xas ?_
    refine zlz ?_
    refine zs2 ?_
    refine zx7 ?_
    refine zgcut (fun M w=>∃(mid:Int) (s0:Int) (r0:Int),(mid=((a+b)/2))/\((mid<m/\s0=mid+m-b/\r0=mid)\/(m<=mid/\s0=a/\r0=m))/\M= [(0,vd),(1,.int .i64 a),(2,.int .i64 m),(3,.int .i64 b),(4,.func (.func 69) #[] #[(.pointer (some ⟨gs,0,none⟩))]),(25,.int .i64 m),(26,.int .i64 a),(27,.int .i64 (m-a)),(28,B (m-a=1)),(77,.int .i64 b),(78,.int .i64 m),(79,.int .i64 (b-m)),(80,B (b-m=1)),(129,.int .i64 a),(130,.int .i64 b),(131,.int .i64 (a+b)),(132,.int .u64 (a+b)),(133,.int .u64 ((a+b)/2)),(134,.int .i64 ((a+b)/2)),(18,.int .i64 mid),(135,.int .i64 ((a+b)/2)),(136,.int .i64 m),(137,.int .i64 (((a+b)/2)+m)),(19,.int .i64 (mid+m)),(20,.int .i64 s0),(21,.int .i64 r0)]/\Sat w0 w [.own vd 1 3 n (ints s),.sem F]) ?_ ?_
    ·
     refine zsr ?_
     refine zs3 ?_
     refine zlt ?_
     refine zcif ?_ ?_<;>intro hc
     ·
      refine zsr ?_
      refine zs2 ?_
      refine zlv (xsub (r:=((a+b)/2)+m-b)) ?_
      refine zlv xas ?_
      refine zlt<|zrg ?_
      refine zs2 ?_
      refine zln<|zgj ⟨((a+b)/2),(((a+b)/2)+m-b),((a+b)/2),rfl,(by omega),rfl,hS⟩
     refine zsr ?_
     refine zs2 ?_
     refine zlt<|zrg ?_
     refine zs2 ?_
     refine zln<|zgj ⟨((a+b)/2),a,m,rfl,(by omega),rfl,hS⟩
    clear hS w;rintro M w ⟨mid,s0,r0,hmid,hq,rfl,hS⟩
    refine ztn<|zsr ?_
    refine zlv xmv ?_
    refine zlv (xsub (r:=mid+m-1)) ?_
    refine zlv xas ?_
    refine zlt<|zsq<|zbk<|zlp (fun mm M w=>∃(x:Int) (y:Int),mm=((y-x).toNat)/\(s0<=x)/\(x<=y)/\(y<=r0)/\(x=s0\/¬lt (s (mid+m-x)) (s (x-1)))/\(y=r0\/lt (s (mid+m-y-1)) (s y))/\M= [(0,vd),(1,.int .i64 a),(2,.int .i64 m),(3,.int .i64 b),(4,.func (.func 69) #[] #[(.pointer (some ⟨gs,0,none⟩))]),(18,.int .i64 mid),(19,.int .i64 (mid+m)),(20,.int .i64 x),(21,.int .i64 y),(22,.int .i64 (mid+m-1))]/\Sat w0 w [.own vd 1 3 n (ints s),.sem F]) ⟨s0,r0,rfl,(by omega),(by omega),(by omega),?_,?_,rfl,hS⟩ ?_
    ·
     exact .inl rfl
    ·
     exact .inl rfl
    clear hS w
    rintro mm M w ⟨x,y,rfl,x0,xy,y1,hx,hy,rfl,hS⟩
    refine zx11 ?_
    refine zs3 ?_
    refine zlt ?_
    refine zcif ?_ ?_<;>intro hc
    ·
     refine zsk<|ztn<|zbk<|zsr ?_
     refine zs2 ?_
     refine zlv (xadd (r:=x+y)) ?_
     refine zlv (xcv Uo Xm) ?_
     refine zlv (Vh (r:=((x+y)/2))) ?_
     refine zlv (xcv Xz Tw) ?_
     refine zlv xas ?_
     refine zx7 ?_
     refine zdst [0,1] [0,1] 1000 mx_ hS ?_;clear hS;intro w hS
     refine zDrv 0 xmv ?_
     refine zDrv 1 xmv ?_
     refine zDrv 2 xmv ?_
     refine zDrv 3 xmv ?_
     refine zDrv 4 (xsub (r:=mid+m-((x+y)/2)-1)) ?_
     refine zDrv 5 (xix (kk:=mid+m-((x+y)/2)-1) sl_22 hsl) ?_
     refine zdla 6 (fun w hS=>(xlr (u:= .int .i64 (s (mid+m-((x+y)/2)-1))) pl_3 (hS.rowN 0 rfl))) ?_
     refine zDrv 7 xmv ?_
     refine zDrv 8 xmv ?_
     refine zDrv 9 (xix (kk:=((x+y)/2)) sl_22 hsl) ?_
     refine zdla 10 (fun w hS=>(xlr (u:= .int .i64 (s ((x+y)/2))) pl_3 (hS.rowN 0 rfl))) ?_
     refine zdc 11 (xcc (vs:= [_,_]) Zak) (hcmp w (s (mid+m-((x+y)/2)-1)) (s ((x+y)/2)) (hd (mid+m-((x+y)/2)-1) (by omega) (by omega)).1 (hd (mid+m-((x+y)/2)-1) (by omega) (by omega)).2 (hd ((x+y)/2) (by omega) (by omega)).1 (hd ((x+y)/2) (by omega) (by omega)).2 hS.below (hS.holds _ (List.mem_of_getElem? (i:=1) rfl))) ?_;rintro _ w ⟨c1,rfl,hc1,hS'⟩
     replace hS:=hS.cmp hS';clear hS'
     refine⟨⟨fun _=>hS,hS⟩,?_⟩
     refine zDrv 12 xlss ?_
     refine zDrv 13 ZX ?_
     refine zdd<|ztn ?_
     refine zcif ?_ ?_<;>intro hc
     ·
      refine zrg ?_
      refine zlv xmv ?_
      refine zlv (xadd (r:=((x+y)/2)+1)) ?_
      refine zlv xas ?_
      refine zln<|zbn<|zlq ⟨((x+y)/2)+1,y,rfl,(by omega),(by omega),(by omega),?_,?_,rfl,hS⟩
      ·
       first|exact hx|(right;rw [show mid+m-((x+y)/2+1)=mid+m-(x+y)/2-1 by omega,show(x+y)/2+1-1=(x+y)/2 by omega];exact fun h=>absurd (hc1.2 h) ‹¬c1<0›)
      ·
       first|exact hy|exact .inr (hc1.1 (Classical.not_not.1 ‹_›))
     refine zrg ?_
     refine zs2 ?_
     refine zln<|zbn<|zlq ⟨x,((x+y)/2),rfl,(by omega),(by omega),(by omega),?_,?_,rfl,hS⟩
     ·
      first|exact hx|(right;rw [show mid+m-((x+y)/2+1)=mid+m-(x+y)/2-1 by omega,show(x+y)/2+1-1=(x+y)/2 by omega];exact fun h=>absurd (hc1.2 h) ‹¬c1<0›)
     ·
      first|exact hy|exact .inr (hc1.1 (Classical.not_not.1 ‹_›))
    refine zx8 ?_
    refine zs2 ?_
    refine zlv (xsub (r:=mid+m-x)) ?_
    refine zlv xas ?_
    refine zx7 ?_
    refine zgcut (fun M w=>∃(t:Int->Int),(t=rot s x m (mid+m-x))/\M= [(0,vd),(1,.int .i64 a),(2,.int .i64 m),(3,.int .i64 b),(4,.func (.func 69) #[] #[(.pointer (some ⟨gs,0,none⟩))]),(18,.int .i64 mid),(19,.int .i64 (mid+m)),(20,.int .i64 x),(21,.int .i64 y),(22,.int .i64 (mid+m-1)),(149,.int .i64 x),(150,.int .i64 y),(151,B (x<y)),(175,.int .i64 (mid+m)),(176,.int .i64 x),(177,.int .i64 (mid+m-x)),(24,.int .i64 (mid+m-x))]/\Sat w0 w [.own vd 1 3 n (ints t),.sem F]) ?_ ?_
    ·
     refine zsr ?_
     refine zs4 ?_
     refine zlb 181 ?_ ?_<;>intro hc
     ·
      refine zs4 ?_
      refine zlt ?_
      refine zcif ?_ ?_<;>intro hc
      ·
       refine zrg ?_
       refine zs5 ?_
       refine zlc (xc0 cl_167) (c_rotI (s:=s) (a:=x) (m:=m) (b:=mid+m-x) w0 w hS hsl hn8 (by omega) (by omega) (by omega) (by omega)) ?_;rintro _ w ⟨rfl,hS⟩
       replace hS:=hS.n2
       refine zln<|zgj ⟨(rot s x m (mid+m-x)),rfl,rfl,hS⟩
      refine zsk<|zgj ⟨s,(Wx (by omega) (by omega) (by omega)).symm,rfl,hS⟩
     iterate 3 refine zlo ?_
     refine zlv xpf ?_
     refine zlt<|zcf<|zsk<|zgj ⟨s,(Wx (by omega) (by omega) (by omega)).symm,rfl,hS⟩
    clear hS w;rintro M w ⟨t,ht,rfl,hS⟩
    have hdt:=(Yd (a:=s) (lo:=x) (c:=m) (hi:=mid+m-x) (by omega) (by omega)).dom (n:=n) (N:=nm) (by omega) (.inl (by omega)) hd
    rw [<-ht] at hdt
    have hH:=WF hw h1 h2 hp (s:=x) (mid:=mid) (e:=mid+m-x) (by omega) (by omega) (by omega) (by omega) (by omega) (by rcases hq with hq|hq<;>rcases hx with hx|hx<;>first|exact .inl (by omega)|exact .inr (.inl (by omega))|exact .inr (.inr hx)) (by rcases hq with hq|hq<;>rcases hy with hy|hy<;>first|exact .inl (by omega)|exact .inr (.inl (by omega))|(refine .inr (.inr ?_);rw [show x=y by omega];exact hy))
    rw [<-ht] at hH
    refine ztn<|zsq<| ?_
    refine zgcut (fun M w=>∃(t1:Int->Int),(PermOn a mid t t1)/\(Srt (Tie lt) a mid t1)/\(∀k,0<=k->k<n->0<=t1 k/\t1 k<nm)/\M= [(0,vd),(1,.int .i64 a),(2,.int .i64 m),(3,.int .i64 b),(4,.func (.func 69) #[] #[(.pointer (some ⟨gs,0,none⟩))]),(18,.int .i64 mid),(19,.int .i64 (mid+m)),(20,.int .i64 x),(21,.int .i64 y),(22,.int .i64 (mid+m-1)),(149,.int .i64 x),(150,.int .i64 y),(151,B (x<y)),(175,.int .i64 (mid+m)),(176,.int .i64 x),(177,.int .i64 (mid+m-x)),(24,.int .i64 (mid+m-x))]/\Sat w0 w [.own vd 1 3 n (ints t1),.sem F]) ?_ ?_
    ·
     refine zsr ?_
     refine zs4 ?_
     refine zlb 195 ?_ ?_<;>intro hc
     ·
      refine zs4 ?_
      refine zlt ?_
      refine zcif ?_ ?_<;>intro hc
      ·
       refine zrg ?_
       refine zs5 ?_
       refine zlc (xc0 cl_149) (ih (s:=t) (a:=a) (m:=x) (b:=mid) w0 w hS hcmp hdt (by omega) (by omega) (by omega) (by omega) (hH.l1) (hH.l2) (hH.pl) (by omega)) ?_;rintro _ w ⟨rfl,u1,hpu1,hsu1,hS⟩
       have hdu1:=hpu1.dom (by omega) (.inl (by omega)) hdt
       replace hS:=hS.n2
       refine zln<|zgj ⟨u1,hpu1,hsu1,hdu1,rfl,hS⟩
      refine zsk<|zgj ⟨t,(.refl _ _ _),(hH.left (by first|omega|(rintro⟨h3,h4⟩;omega)) (by omega) (by omega)),hdt,rfl,hS⟩
     iterate 3 refine zlo ?_
     refine zlv xpf ?_
     refine zlt<|zcf<|zsk<|zgj ⟨t,(.refl _ _ _),(hH.left (by first|omega|(rintro⟨h3,h4⟩;omega)) (by omega) (by omega)),hdt,rfl,hS⟩
    clear hS w;rintro M w ⟨t1,hq1,hq2,hdt1,rfl,hS⟩
    have hH2:Halves lt a a mid (mid+m-x) b t1:=Halves.after hH hq1 hq2 (by omega) (by omega)
    refine ztn<|zsr ?_
    refine zs4 ?_
    refine zlb 209 ?_ ?_<;>intro hc
    ·
     refine zs4 ?_
     refine zlt ?_
     refine zcif ?_ ?_<;>intro hc
     ·
      refine zrg ?_
      refine zs5 ?_
      refine zlc (xc0 cl_149) (ih (s:=t1) (a:=mid) (m:=mid+m-x) (b:=b) w0 w hS hcmp hdt1 (by omega) (by omega) (by omega) (by omega) (hH2.r1) (hH2.r2) (hH2.pr) (by omega)) ?_;rintro _ w ⟨rfl,u1,hpu1,hsu1,hS⟩
      have hdu1:=hpu1.dom (by omega) (.inl (by omega)) hdt1
      replace hS:=hS.n2
      refine zln<|Xw ⟨_,rfl,?_⟩
      refine⟨rfl,u1,((((Yd (a:=s) (lo:=x) (c:=m) (hi:=mid+m-x) (by omega) (by omega)).mono (by omega) (by omega):PermOn a b s _)).trans (ht▸hq1.mono (by omega) (by omega))).trans (hpu1.mono (by omega) (by omega)),?_,hS⟩
      exact hH.join hw (by omega) (by omega) hq1 hq2 hpu1 hsu1
     refine zsk<|Xw ⟨_,rfl,?_⟩
     refine⟨rfl,t1,(((Yd (a:=s) (lo:=x) (c:=m) (hi:=mid+m-x) (by omega) (by omega)).mono (by omega) (by omega):PermOn a b s _)).trans (ht▸hq1.mono (by omega) (by omega)),?_,hS⟩
     exact hH.join hw (by omega) (by omega) hq1 hq2 (.refl _ _ _) (hH2.right (by first|omega|(rintro⟨h3,h4⟩;omega)) (by omega) (by omega))
    iterate 3 refine zlo ?_
    refine zlv xpf ?_
    refine zlt<|zcf<|zsk<|Xw ⟨_,rfl,?_⟩
    refine⟨rfl,t1,(((Yd (a:=s) (lo:=x) (c:=m) (hi:=mid+m-x) (by omega) (by omega)).mono (by omega) (by omega):PermOn a b s _)).trans (ht▸hq1.mono (by omega) (by omega)),?_,hS⟩
    exact hH.join hw (by omega) (by omega) hq1 hq2 (.refl _ _ _) (hH2.right (by first|omega|(rintro⟨h3,h4⟩;omega)) (by omega) (by omega))
set_option maxHeartbeats 4000000 in
set_option maxRecDepth 20000 in
theorem Za0{vd:Value}{n nm:Int}{s:Int->Int}{lt:Int->Int->Prop}{F:Go.Proofs.Gw.Frame}{gs:Nat}(w0 w:World)(hS:Sat w0 w [.own vd 1 3 n (ints s),.sem F])(hsl:Slh vd n)(hn8:n<=100000000)(hcmp:∀(w:World) (x y:Int),0<=x->x<nm->0<=y->y<nm->Below w0.heap.size w0 w->F.holds w->Calls Tryz.prog 69 [.int .i64 x,.int .i64 y,(.pointer (some ⟨gs,0,none⟩))].toArray w fun e w'=>∃v,e= .returned v/\∃c:Int,v= .int .i64 c/\(c<0↔lt x y)/\Sat w w' [])(hd:∀k,0<=k->k<n->0<=s k/\s k<nm)(hw:Swo lt)(hinc:Vs 0 n s):
    Calls Tryz.prog 107 [vd,.int .i64 n,.func (.func 69) #[] #[(.pointer (some ⟨gs,0,none⟩))]].toArray w fun e w=>∃v,e= .returned v/\v= .tuple #[]/\∃t:Int->Int,PermOn 0 n s t/\Srt (Tie lt) 0 n t/\Sat w0 w [.own vd 1 3 n (ints t),.sem F]:=by
  have hn0:=hsl.n0
  refine zenF Tryz.func107 Tryz.ntmps107 ?_
  refine zsr ?_
  refine zlv xas ?_
  refine zlz ?_
  refine zs3 ?_
  refine zlt<|zsq<|zbk<|zlp (fun mm M w=>∃(t:Int->Int) (a:Int) (b:Int),mm=((n-a).toNat)/\(0<=a)/\(a<=n)/\(b=a+20)/\((20:Int)∣a)/\(PermOn 0 a s t)/\(Runs_ lt 20 n 0 a t)/\(∀k,0<=k->k<n->0<=t k/\t k<nm)/\M= [(0,vd),(1,.int .i64 n),(2,.func (.func 69) #[] #[(.pointer (some ⟨gs,0,none⟩))]),(6,.int .i64 20),(7,.int .i64 a),(8,.int .i64 b)]/\Sat w0 w [.own vd 1 3 n (ints t),.sem F]) ⟨s,0,20,rfl,(by omega),(by omega),(by omega),?_,?_,?_,?_,rfl,hS⟩ ?_
  ·
   exact Int.dvd_zero 20
  ·
   exact .refl _ _ _
  ·
   intro c c0 c1;omega
  ·
   exact hd
  clear hS w
  rintro mm M w ⟨t,a,b,rfl,a0,a1,hb,hda,hp,hr,hd1,rfl,hS⟩
  refine zx11 ?_
  refine zs3 ?_
  refine zlt ?_
  refine zcif ?_ ?_<;>intro hc
  ·
   refine zsk<|ztn<|zbk<|zsr ?_
   refine zs4 ?_
   refine zlc (xc0 Zck) (ZcU (s:=t) (a:=a) (b:=b) w0 w hS hsl hn8 hcmp hd1 hw (by omega) (by omega) (by omega) (X0 hp hinc (by omega) (by omega) (by omega))) ?_;rintro _ w ⟨rfl,u1,hpu1,hsu1,hS⟩
   have hdu1:=hpu1.dom (by omega) (.inl (by omega)) hd1
   replace hS:=hS.n2
   refine zlz ?_
   refine zs2 ?_
   refine zlt<|zrg ?_
   refine zs2 ?_
   refine zlv (xadd (r:=b+20)) ?_
   refine zlv xas ?_
   refine zln<|zbn<|zlq ⟨u1,b,b+20,rfl,(by omega),(by omega),(by omega),?_,?_,?_,?_,rfl,hS⟩
   ·
    rw [hb];exact Int.dvd_add hda (Int.dvd_refl 20)
   ·
    exact(hp.mono (by omega) (by omega)).trans (hpu1.mono (by omega) (by omega))
   ·
    exact XA (by omega) hinc hr a0 hda hp hpu1 hsu1 (.inl ⟨hb,by omega⟩) (by omega)
   ·
    exact hdu1
  refine zx8 ?_
  refine zs4 ?_
  refine zlc (xc0 Zck) (ZcU (s:=t) (a:=a) (b:=n) w0 w hS hsl hn8 hcmp hd1 hw (by omega) (by omega) (by omega) (X0 hp hinc (by omega) (by omega) (by omega))) ?_;rintro _ w ⟨rfl,u1,hpu1,hsu1,hS⟩
  have hdu1:=hpu1.dom (by omega) (.inl (by omega)) hd1
  replace hS:=hS.n2
  refine zx6<|zlp (fun mm M w=>∃(t2:Int->Int) (z:Int),mm=((n-z).toNat)/\(20<=z)/\(z<=2*n+20)/\(PermOn 0 n s t2)/\(Runs_ lt z n 0 n t2)/\(∀k,0<=k->k<n->0<=t2 k/\t2 k<nm)/\M= [(0,vd),(1,.int .i64 n),(2,.func (.func 69) #[] #[(.pointer (some ⟨gs,0,none⟩))]),(6,.int .i64 z)]/\Sat w0 w [.own vd 1 3 n (ints t2),.sem F]) ⟨u1,20,rfl,(by omega),(by omega),?_,?_,?_,rfl,hS⟩ ?_
  ·
   exact(hp.mono (by omega) (by omega)).trans (hpu1.mono (by omega) (by omega))
  ·
   exact XA (by omega) hinc hr a0 hda hp hpu1 hsu1 (.inr ⟨rfl,by omega⟩) (by omega)
  ·
   exact hdu1
  clear hS w
  rintro mm M w ⟨t2,z,rfl,z0,z1,hp2,hr2,hd2,rfl,hS⟩
  refine zx11 ?_
  refine zs3 ?_
  refine zlt ?_
  refine zcif ?_ ?_<;>intro hc
  ·
   refine zsk<|ztn<|zbk<|zsr ?_
   refine zlv xmv ?_
   refine zlv (xmul (r:=2*z)) ?_
   refine zs2 ?_
   refine zlt<|zsq<|zbk<|zlp (fun mm M w=>∃(t3:Int->Int) (a3:Int) (b3:Int),mm=((n-a3).toNat)/\(0<=a3)/\(a3<=n)/\(b3=a3+2*z)/\(2*z∣a3)/\(PermOn 0 n s t3)/\(Runs_ lt (2*z) n 0 a3 t3)/\(Runs_ lt z n a3 n t3)/\(∀k,0<=k->k<n->0<=t3 k/\t3 k<nm)/\M= [(0,vd),(1,.int .i64 n),(2,.func (.func 69) #[] #[(.pointer (some ⟨gs,0,none⟩))]),(6,.int .i64 z),(7,.int .i64 a3),(8,.int .i64 b3)]/\Sat w0 w [.own vd 1 3 n (ints t3),.sem F]) ⟨t2,0,2*z,rfl,(by omega),(by omega),(by omega),?_,?_,?_,?_,?_,rfl,hS⟩ ?_
   ·
    exact Int.dvd_zero _
   ·
    exact hp2
   ·
    intro c c0 c1;omega
   ·
    exact hr2
   ·
    exact hd2
   clear hS w
   rintro mm M w ⟨t3,a3,b3,rfl,a30,a31,hb3,hda3,hp3,hA,hB,hd3,rfl,hS⟩
   refine zx11 ?_
   refine zs3 ?_
   refine zlt ?_
   refine zcif ?_ ?_<;>intro hc
   ·
    refine zsk<|ztn<|zbk<|zsr ?_
    refine zs4 ?_
    refine zlv (xadd (r:=a3+z)) ?_
    refine zs2 ?_
    have hk:=Wu (lt:=lt) (z:=z) (n:=n) (a:=a3) (b:=b3) (t:=t3) (by omega) a30 (Int.dvd_trans (Int.dvd_mul_left 2 z) hda3) hB (by omega) (by omega) (by omega)
    refine zlc (xc0 cl_149) (Zct (nm:=nm) (lt:=lt) hsl hn8 hw _ (s:=t3) (a:=a3) (m:=a3+z) (b:=b3) w0 w hS hcmp hd3 (by omega) (by omega) (by omega) (by omega) hk.1 hk.2.1 hk.2.2 (Nat.lt_succ_self _)) ?_;rintro _ w ⟨rfl,u2,hpu2,hsu2,hS⟩
    have hdu2:=hpu2.dom (by omega) (.inl (by omega)) hd3
    replace hS:=hS.n2
    refine zlz ?_
    refine zs2 ?_
    refine zlt<|zrg ?_
    refine zs2 ?_
    refine zlv (xmul (r:=2*z)) ?_
    refine zlv (xadd (r:=b3+2*z)) ?_
    refine zlv xas ?_
    refine zln<|zbn<|zlq ⟨u2,b3,b3+2*z,rfl,(by omega),(by omega),(by omega),?_,?_,?_,?_,?_,rfl,hS⟩
    ·
     rw [hb3];exact Int.dvd_add hda3 (Int.dvd_refl _)
    ·
     exact hp3.trans (hpu2.mono (by omega) (by omega))
    ·
     exact(Ya (by omega) a30 hda3 hA hB hpu2 hsu2 (.inl ⟨hb3,by omega⟩) (by omega)).1
    ·
     exact(Ya (by omega) a30 hda3 hA hB hpu2 hsu2 (.inl ⟨hb3,by omega⟩) (by omega)).2
    ·
     exact hdu2
   refine zx18 ?_
   refine zs2 ?_
   refine zlv (xadd (r:=a3+z)) ?_
   refine zlv xas ?_
   refine zlz ?_
   refine zs3 ?_
   refine zlt ?_
   refine zcif ?_ ?_<;>intro hc
   ·
    refine zrg ?_
    refine zs5 ?_
    have hk:=Wu (lt:=lt) (z:=z) (n:=n) (a:=a3) (b:=n) (t:=t3) (by omega) a30 (Int.dvd_trans (Int.dvd_mul_left 2 z) hda3) hB (by omega) (by omega) (by omega)
    refine zlc (xc0 cl_149) (Zct (nm:=nm) (lt:=lt) hsl hn8 hw _ (s:=t3) (a:=a3) (m:=a3+z) (b:=n) w0 w hS hcmp hd3 (by omega) (by omega) (by omega) (by omega) hk.1 hk.2.1 hk.2.2 (Nat.lt_succ_self _)) ?_;rintro _ w ⟨rfl,u2,hpu2,hsu2,hS⟩
    have hdu2:=hpu2.dom (by omega) (.inl (by omega)) hd3
    replace hS:=hS.n2
    refine zlt<|zrg ?_
    refine zlv xmv ?_
    refine zlv (xmul (r:=2*z)) ?_
    refine zlv xas ?_
    refine zln<|zbn<|zlq ⟨u2,2*z,rfl,(by omega),(by omega),?_,?_,?_,rfl,hS⟩
    ·
     first|exact hp3.trans (hpu2.mono (by omega) (by omega))|exact hp3
    ·
     first|exact(Ya (by omega) a30 hda3 hA hB hpu2 hsu2 (.inr ⟨rfl,by omega⟩) (by omega)).1|exact Wv (by omega) a30 hda3 hA hB (by omega) (by omega)
    ·
     first|exact hdu2|exact hd3
   refine zsk<|ztn<|zrg ?_
   refine zlv xmv ?_
   refine zlv (xmul (r:=2*z)) ?_
   refine zlv xas ?_
   refine zln<|zbn<|zlq ⟨t3,2*z,rfl,(by omega),(by omega),?_,?_,?_,rfl,hS⟩
   ·
    first|exact hp3.trans (hpu2.mono (by omega) (by omega))|exact hp3
   ·
    first|exact(Ya (by omega) a30 hda3 hA hB hpu2 hsu2 (.inr ⟨rfl,by omega⟩) (by omega)).1|exact Wv (by omega) a30 hda3 hA hB (by omega) (by omega)
   ·
    first|exact hdu2|exact hd3
  refine zxt<|ztx<|ztx<|zbh<|Xw ⟨_,rfl,?_⟩
  exact⟨rfl,t2,hp2,Rc hr2 (by omega),hS⟩
set_option maxRecDepth 20000 in
theorem Zcv{vd:Value}{n nm:Int}{s:Int->Int}{lt:Int->Int->Prop}{F:Go.Proofs.Gw.Frame}{gs:Nat}(w0 w:World)(hS:Sat w0 w [.own vd 1 3 n (ints s),.sem F])(hsl:Slh vd n)(hn8:n<=100000000)(hcmp:∀(w:World) (x y:Int),0<=x->x<nm->0<=y->y<nm->Below w0.heap.size w0 w->F.holds w->Calls Tryz.prog 69 [.int .i64 x,.int .i64 y,(.pointer (some ⟨gs,0,none⟩))].toArray w fun e w'=>∃v,e= .returned v/\∃c:Int,v= .int .i64 c/\(c<0↔lt x y)/\Sat w w' [])(hd:∀k,0<=k->k<n->0<=s k/\s k<nm)(hw:Swo lt)(hinc:Vs 0 n s):
    Calls Tryz.prog 68 [vd,.func (.func 69) #[] #[(.pointer (some ⟨gs,0,none⟩))]].toArray w fun e w=>∃v,e= .returned v/\v= .tuple #[]/\∃t:Int->Int,PermOn 0 n s t/\Srt (Tie lt) 0 n t/\Sat w0 w [.own vd 1 3 n (ints t),.sem F]:=by
  refine zenF Tryz.func68 Tryz.ntmps68 ?_
  refine zrg ?_
  refine zs2 ?_
  refine zlv (xln sl_22 hsl) ?_
  refine zlv xmv ?_
  refine zlc (xc0 Zgd) (Za0 (s:=s) w0 w hS hsl hn8 hcmp hd hw hinc) ?_;rintro _ w ⟨rfl,u1,hpu1,hsu1,hS⟩
  replace hS:=hS.n2
  refine zln<|Xw ⟨_,rfl,?_⟩
  exact⟨rfl,u1,hpu1,hsu1,hS⟩
set_option maxRecDepth 20000 in
theorem ZdU{x y:Int}{vX vY:Value}{s:So}{gs:Nat}(w0:World)(hG:(Ent.blk gs [vX,vY,.int .i64 s.val,.int .i64 s.den]).holds w0)(hX:Row w0 vX 1 s.n (ints s.X))(hY:Row w0 vY 1 s.m (ints s.Y))(hsd:ZQ s)(x0:0<=x)(x1:x<s.n)(y0:0<=y)(y1:y<s.n):
    Calls Tryz.prog 69 [.int .i64 x,.int .i64 y,.pointer (some ⟨gs,0,none⟩)].toArray w0 fun e w=>∃v,e= .returned v/\∃c:Int,v= .int .i64 c/\(c<0↔(s.X y).tmod s.den<(s.X x).tmod s.den)/\Sat w0 w []:=by
  obtain⟨⟨d1,d2⟩,⟨d3,d4⟩,d5⟩:=id hsd
  have hxx:=d5 x x0 x1;have hxy:=d5 y y0 y1
  have hq1:=Wm (a:=s.X x) (d:=s.den) hxx.1 (by omega);have hq2:=Wm (a:=s.X y) (d:=s.den) hxy.1 (by omega)
  refine Zj Tryz.func69 Tryz.ntmps69 fun w hS=> ?_
  refine zsr ?_
  refine zlv xas ?_
  refine zx7 ?_
  refine zdst [] [] 1000 mx_ hS ?_;clear hS;intro w hS
  refine zDrv 0 (xfb 0 fd_29_0) ?_
  refine zdla 1 (fun w hS=>(xlf pl_22 (Ent.holds.cell hG (o:=0) rfl) hS)) ?_
  refine zDrv 2 xmv ?_
  refine zDrv 3 (xix (kk:=y) sl_22 hX.slh) ?_
  refine zdla 4 (fun w hS=>(xlr (u:= .int .i64 (s.X y)) pl_3 (hX.below hS.below))) ?_
  refine zDrv 5 (xfb 3 fd_29_3) ?_
  refine zdla 6 (fun w hS=>(xlf pl_3 (Ent.holds.cell hG (o:=3) rfl) hS)) ?_
  refine zDrv 7 (xrem (r:=(Int.tmod (s.X y) s.den))) ?_
  refine zDrv 8 (xfb 0 fd_29_0) ?_
  refine zdla 9 (fun w hS=>(xlf pl_22 (Ent.holds.cell hG (o:=0) rfl) hS)) ?_
  refine zDrv 10 xmv ?_
  refine zDrv 11 (xix (kk:=x) sl_22 hX.slh) ?_
  refine zdla 12 (fun w hS=>(xlr (u:= .int .i64 (s.X x)) pl_3 (hX.below hS.below))) ?_
  refine zDrv 13 (xfb 3 fd_29_3) ?_
  refine zdla 14 (fun w hS=>(xlf pl_3 (Ent.holds.cell hG (o:=3) rfl) hS)) ?_
  refine zDrv 15 (xrem (r:=(Int.tmod (s.X x) s.den))) ?_
  refine zDrv 16 (xsub (r:=(Int.tmod (s.X y) s.den)-(Int.tmod (s.X x) s.den))) ?_
  refine zDrv 17 xas ?_
  refine zdd<|ztn<|zrt<|zf1 ⟨_,rfl,?_⟩
  exact⟨_,rfl,by omega,hS⟩
def frN(s:So):Nat->Int
  |0=>0
  |k+1=>if(s.X k).tmod s.den=0 then frN s k else frN s k+1
def frF(s:So):Nat->Int->Int
  |0=>fun _=>0
  |k+1=>if(s.X k).tmod s.den=0 then frF s k else snoc (frF s k) (frN s k) k
theorem Rx(s:So){i:Int}(h:0<=i):frN s (i+1).toNat=if(s.X i).tmod s.den=0 then frN s i.toNat else frN s i.toNat+1:=by
  obtain⟨k,rfl⟩:=Int.eq_ofNat_of_zero_le h;rw [show((k:Int)+1).toNat=k+1 by omega,Int.toNat_natCast];rfl
theorem Ry(s:So){i:Int}(h:0<=i):frF s (i+1).toNat=if(s.X i).tmod s.den=0 then frF s i.toNat else snoc (frF s i.toNat) (frN s i.toNat) i:=by
  obtain⟨k,rfl⟩:=Int.eq_ofNat_of_zero_le h;rw [show((k:Int)+1).toNat=k+1 by omega,Int.toNat_natCast];rfl
theorem V4 (s:So):∀n:Nat,0<=frN s n/\frN s n<=n/\(∀k,0<=k->k<frN s n->0<=frF s n k/\frF s n k<n/\(s.X (frF s n k)).tmod s.den≠0)/\Vs 0 (frN s n) (frF s n)/\∀q,0<=q->q<(n:Int)->(s.X q).tmod s.den≠0->∃k,0<=k/\k<frN s n/\frF s n k=q
  |0=>⟨by simp [frN],by simp [frN],fun k k0 k1=>by simp [frN] at k1;omega,fun i j i0 ij j1=>by simp [frN] at j1;omega,fun q q0 q1=>by omega⟩
  | n + 1 =>by
    obtain⟨h1,h2,h3,h4,h5⟩:=V4 s n
    simp only [frN,frF]
    by_cases h:(s.X n).tmod s.den=0
    · rw [if_pos h,if_pos h]
      refine⟨h1,by omega,fun k k0 k1=> ?_,h4,fun q q0 q1 hq=> ?_⟩
      · have:=h3 k k0 k1;exact⟨this.1,by omega,this.2.2⟩
      · by_cases e:q=n
        · rw [e] at hq;exact absurd h hq
        · exact h5 q q0 (by omega) hq
    · rw [if_neg h,if_neg h]
      refine⟨by omega,by omega,fun k k0 k1=> ?_,fun i j i0 ij j1=> ?_,fun q q0 q1 hq=> ?_⟩
      · by_cases e:k<frN s n
        · rw [Zk e];have:=h3 k k0 e;exact⟨this.1,by omega,this.2.2⟩
        · rw [Zl e];exact⟨by omega,by omega,h⟩
      · by_cases e:j<frN s n
        · rw [Zk e,Zk (show i<frN s n by omega)];exact h4 i j i0 ij e
        · rw [Zl e,Zk (show i<frN s n by omega)];have:=h3 i i0 (by omega);omega
      · by_cases e:q=n
        · exact⟨frN s n,h1,by omega,by rw [Zl (by omega),e]⟩
        · obtain⟨k,k0,k1,hk⟩:=h5 q q0 (by omega) hq
          exact⟨k,k0,by omega,by rw [Zk k1];exact hk⟩
def KL(a r:List Int):Bool:=(List.zipWith (fun x y=>if 0<x/\0<y then(1:Int) else 0) a r).any fun x=>decide (0<x)
def YQ(m:Int)(mf:Int->Int->Int)(st:List Int×Us)(k:Int):List Int×Us:=
  if KL (lst m (mf k)) st.1 then(List.zipWith (fun x y=>max 0 (y-x)) (lst m (mf k)) st.1,st.2++ [(lst m (mf k),1)]) else st
def Un(m:Int)(mf:Int->Int->Int)(r0:List Int)(L0:Us)(h:List Int):List Int×Us:=h.foldl (YQ m mf) (r0,L0)
theorem Rq{n:Int}{f:Int->Int}(n0:0<=n):lst (n+1) f=lst n f++ [f n]:=by
  unfold lst
  rw [show(n+1).toNat=n.toNat+1 by omega,List.range_succ,List.map_append,List.map_singleton,Int.toNat_of_nonneg n0]
theorem Ux(m:Int)(mf:Int->Int->Int)(r0:List Int)(L0:Us){j:Int}{t:Int->Int}(j0:0<=j):Un m mf r0 L0 (lst (j+1) t)=YQ m mf (Un m mf r0 L0 (lst j t)) (t j):=by
  rw [Rq j0];simp [Un]
theorem WV{m:Int}{f g:Int->Int}:KL (lst m f) (lst m g)=true↔∃i,0<=i/\i<m/\0<f i/\0<g i:=by
  unfold KL
  rw [YS,WR]
  constructor
  · rintro⟨k,k0,k1,h⟩
    refine⟨k,k0,k1,?_⟩
    by_cases hh:0<f k/\0<g k
    · exact hh
    · rw [if_neg hh] at h;omega
  · rintro⟨k,k0,k1,h⟩
    exact⟨k,k0,k1,by rw [if_pos h];omega⟩
theorem uNo{m n j:Int}{mf:Int->Int->Int}{r0:List Int}{L0:Us}{t g ln cnt:Int->Int}{pt:Int->Int->Int}(j0:0<=j)(h:(lst m g,plL n ln pt cnt)=Un m mf r0 L0 (lst j t))(hn:¬∃i,0<=i/\i<m/\0<mf (t j) i/\0<g i):(lst m g,plL n ln pt cnt)=Un m mf r0 L0 (lst (j+1) t):=by
  rw [Ux _ _ _ _ j0,<-h]
  unfold YQ
  rw [if_neg fun hh=>hn (WV.1 hh)]
theorem ZgR{m n j:Int}{mf:Int->Int->Int}{r0:List Int}{L0:Us}{t g g2 ln cnt ln2 cnt2:Int->Int}{pt pt2:Int->Int->Int}(j0:0<=j)(n0:0<=n)(h:(lst m g,plL n ln pt cnt)=Un m mf r0 L0 (lst j t))(hn:∃i,0<=i/\i<m/\0<mf (t j) i/\0<g i)(hg:∀k,0<=k->k<m->g2 k=max 0 (g k-mf (t j) k))
    (h1:∀k,0<=k->k<n->ln2 k=ln k/\cnt2 k=cnt k/\pt2 k=pt k) (h2:ln2 n=m) (h3:cnt2 n=1) (h4:pt2 n=mf (t j)):(lst m g2,plL (n+1) ln2 pt2 cnt2)=Un m mf r0 L0 (lst (j+1) t):=by
  rw [Ux _ _ _ _ j0,<-h]
  unfold YQ
  dsimp only
  rw [if_pos (WV.2 hn),YS,VS n0 h1 h2 h3 h4,ZO (f:=g2) (g:=fun k=>max 0 (g k-mf (t j) k)) hg]
def UpR (p:Prob) (u:Int) (ml:Int->Int) (mf:Int->Int->Int) (s:So) (out:Us) (e:Int):Prop:=
  (e≠0/\out= []/\∃n ln pt cnt,WholeR p u ml mf s n ln pt cnt e)\/(∃n1 ln1 pt1 cnt1 t n ln pt cnt,WholeR p u ml mf s n1 ln1 pt1 cnt1 0/\0<=n1/\0<=n/\PermOn 0 (frN s u.toNat) (frF s u.toNat) t/\Srt (Tie fun x y=>(s.X y).tmod s.den<(s.X x).tmod s.den) 0 (frN s u.toNat) t/\
    plL n ln pt cnt=(Un p.m mf (lst p.m (Z4 p (ZC n1 pt1 cnt1))) (plL n1 ln1 pt1 cnt1) (lst (frN s u.toNat) t)).2/\TrimR p n ln pt cnt out e)
theorem Td{mf g:Int->Int}{i:Int}{us us2:Prop}(i0:0<=i)(h:us↔∃q,0<=q/\q<i/\0<mf q/\0<g q)(h2:us2↔(us\/(0<mf i/\0<g i))):us2↔∃q,0<=q/\q<i+1/\0<mf q/\0<g q:=by
  rw [h2,h]
  constructor
  · rintro(⟨q,q0,q1,q2⟩|hh)
    · exact⟨q,q0,by omega,q2⟩
    · exact⟨i,i0,by omega,hh⟩
  · rintro⟨q,q0,q1,q2⟩
    by_cases e:q=i
    · subst e;exact .inr q2
    · exact .inl ⟨q,q0,by omega,q2⟩
theorem Zbo(s:So):Swo (fun x y=>(s.X y).tmod s.den<(s.X x).tmod s.den):=
  ⟨fun x y h=>by omega,fun x y z h k=>by omega,fun x y z h k=>by omega⟩
set_option maxHeartbeats 4000000 in
set_option maxRecDepth 20000 in
theorem Zh6{vL vD:Value}{p:Prob}{vM:Value}{u:Int}{mv:Int->Value}{ml:Int->Int}{mf:Int->Int->Int}{vX vY:Value}{s:So}(w0:World)(h:PAt w0 vL vD p)(hM:MAt w0 vM u mv ml mf)(hX:Row w0 vX 1 s.n (ints s.X))(hY:Row w0 vY 1 s.m (ints s.Y))(hn60:s.n<=1000):
    Calls Tryz.prog 35 [.agg #[vL,vD,.int .i64 p.stock,.int .i64 p.kerf],.agg #[vM,vX,vY,.int .i64 s.val,.int .i64 s.den]].toArray w0 fun e w=>∃v,e= .returned v/\∃r n pv ln pt cnt e,v= .tuple #[r,.int .i64 e]/\UpR p u ml mf s (plL n ln pt cnt) e/\(∀k,0<=k->k<n->1<=cnt k/\cnt k<=1000000000)/\n<=1000000/\Slh r n/\Sat w0 w [.own r 2 111 n (Zc pv cnt),.sem (Frame.rows 3 n pv ln pt)]:=by
  have hm:=h.L.slh.n0;have hm1:=h.L.slh.n1;have hd:=h.D.slh.n0;have hd1:=h.D.slh.n1;have hs:=h.is;have hk:=h.ik
  have hu:=hM.row.slh.n0;have hu1:=hM.row.slh.n1;have hn:=hX.slh.n0;have hn1:=hX.slh.n1
  refine Zj Tryz.func35 Tryz.ntmps35 fun w hS=> ?_
  refine zsr ?_
  refine zla (xbx (cs:= [_,_,_,_]) hS) ?_;rintro _ w ⟨g1,rfl,hS⟩
  replace hS:=hS.n1
  refine zla (xbx (cs:= [_,_,_,_,_]) hS) ?_;rintro _ w ⟨g2,rfl,hS⟩
  replace hS:=hS.n2
  refine zs2 ?_
  refine zlz ?_
  refine zlv (xls 0 st_35 hS) ?_
  refine zlv (xls 1 XH hS) ?_
  refine zlc (xc0 Zew) (Zao (p:=p) (u:=u) (ml:=ml) (mf:=mf) (s:=s) w (h.below hS.below) (hM.below hS.below) (hX.below hS.below) (hY.below hS.below) hn60) ?_;rintro _ w ⟨vnwh1,nnwh1,pnwh1,lnwh1,gnwh1,cnwh1,enwh1,rfl,hwhwh1,hvnwh1,hS'⟩
  replace hS:Sat w0 w [.blk g1 [vL,vD,.int .i64 p.stock,.int .i64 p.kerf],.blk g2 [vM,vX,vY,.int .i64 s.val,.int .i64 s.den],.own vnwh1 2 111 nnwh1 (Zc pnwh1 cnwh1),.sem (Frame.rows 3 nnwh1 pnwh1 lnwh1 gnwh1)]:=hS.comp hS';clear hS'
  have hrnwh1:=fun k (k0:0<=k) (k1:k<nnwh1)=>hS.slhIn 3 rfl k0 k1
  refine zs5 ?_
  refine zx5 ?_
  refine zs2 ?_
  refine zlt ?_
  refine zcif ?_ ?_<;>intro hc
  ·
   refine zsr ?_
   refine zs3 ?_
   refine zx14<|zf2 ⟨_,rfl,?_⟩
   exact⟨_,0,fun _=>undef,fun _=>0,fun _ _=>0,fun _=>0,_,rfl,.inl ⟨by omega,rfl,_,_,_,_,hwhwh1⟩,fun k k0 k1=>by omega,by omega,slh_nil,((hS.sub (.cons _ (.cons _ (.cons _ (.cons _ .slnil))))).addnil 2 111 (Zc (fun _=>undef) (fun _=>0))).addrows 3 (fun _=>undef) (fun _=>0) (fun _ _=>0)⟩
  refine ZR ?_
  refine zlv (xls 0 st_35 hS) ?_
  obtain⟨hokp,hfitt,htot,hn60w,hplw,hn19⟩:=hwhwh1.ok (by omega) hu
  have hok9:=hokp
  have hsd:=hfitt.1
  obtain⟨⟨d1,d2⟩,⟨d3,d4⟩,d5⟩:=id hsd
  have hun:=hfitt.2.1
  have hu6:=hfitt.2.2.1
  have hpm1:=hokp.m1;have hpm2:=hokp.m2;have hpd:=hokp.d
  refine zlv xmv ?_
  refine zlc (xc0 Zal) (Vz (u:=nnwh1) (pv:=pnwh1) (ln:=lnwh1) (pt:=gnwh1) (cnt:=cnwh1) (p:=p) w (⟨(hS.rowN 2 rfl),fun k k0 k1=>hS.rowIn 3 rfl k0 k1,fun k k0 k1=>hS.roomIn 3 rfl k0 k1⟩:VAt _ vnwh1 nnwh1 pnwh1 lnwh1 gnwh1 cnwh1) (h.below hS.below)) ?_;rintro _ w ⟨vdmd1,ndmd1,fdmd1,edmd1,rfl,hmdmd1,hvdmd1,hS'⟩
  replace hS:Sat w0 w [.blk g1 [vL,vD,.int .i64 p.stock,.int .i64 p.kerf],.blk g2 [vM,vX,vY,.int .i64 s.val,.int .i64 s.den],.own vnwh1 2 111 nnwh1 (Zc pnwh1 cnwh1),.sem (Frame.rows 3 nnwh1 pnwh1 lnwh1 gnwh1),.own vdmd1 1 3 ndmd1 (ints fdmd1)]:=hS.comp hS';clear hS'
  obtain⟨hnd9,hfd9⟩:ndmd1=p.m/\fdmd1=ZC nnwh1 gnwh1 cnwh1:=by rcases hmdmd1 with⟨g1,_⟩|⟨_,g2,g3,_⟩;exact absurd hplw g1;exact⟨g2,g3⟩
  have hfbb:∀k,0<=k->k<p.m->0<=fdmd1 k/\fdmd1 k<=2000000000:=fun k k0 k1=>by rw [hfd9];have h9:=Xt hplw.2.2 hn19 (Int.le_refl _) k0 k1;omega
  have hfb9:=fun k (k0:0<=k) (k1:k<p.m)=>(hfbb k k0 k1).1
  have htl:=W6 hokp hfb9 p.m.toNat (by have:=hokp.m1;omega)
  refine zs5 ?_
  refine zlz ?_
  refine zlv (xls 0 st_35 hS) ?_
  refine zlv xmv ?_
  refine zlc (xc0 Zeu) (ZcN (p:=p) (f:=fdmd1) w (h.below hS.below) hokp (hnd9▸(hS.rowN 4 rfl)) hfbb) ?_;rintro _ w ⟨vllf1,wllf1,rfl,hvllf1,hwllf1,hS'⟩
  replace hS:Sat w0 w [.blk g1 [vL,vD,.int .i64 p.stock,.int .i64 p.kerf],.blk g2 [vM,vX,vY,.int .i64 s.val,.int .i64 s.den],.own vnwh1 2 111 nnwh1 (Zc pnwh1 cnwh1),.sem (Frame.rows 3 nnwh1 pnwh1 lnwh1 gnwh1),.own vdmd1 1 3 ndmd1 (ints fdmd1),.own vllf1 1 3 p.m (ints p.L),.own wllf1 1 3 p.d (ints (Z4 p fdmd1))]:=hS.comp hS';clear hS'
  refine zlv (xany (v:=wllf1)) ?_
  refine zlv xas ?_
  refine zlz ?_
  refine zlv (xfb 1 fd_31_1) ?_
  refine zlv (xlp 1 (ds:= [vX,vY,.int .i64 s.val,.int .i64 s.den]) ZK hS) ?_
  refine zla (xal (cs:= [_,_,_,_]) WL hS) ?_;rintro _ w ⟨g3,rfl,hS⟩
  replace hS:=hS.n8
  refine zle (xsw 7 ZK hS (hd:=(Za hX.slh.one (Za hY.slh.one (Za rfl (Za rfl Zd)))))) ?_;clear hS;rintro w hS
  replace hS:=hS.n8
  refine zlz ?_
  refine zlv xas ?_
  refine zx5 ?_
  refine zlv (xfb 0 fd_29_0) ?_
  refine zlv (xlb 7 pl_22 hS) ?_
  refine zlv (xln sl_22 hX.slh) ?_
  refine zlv xmv ?_
  refine zx6 ?_
  replace hS:=hS.addnil 1 3 (ints (fun _=>0))
  replace hS:=hS.n9
  refine zlp (fun mm M w=>∃(nO:Int) (fO:Int->Int) (i:Int) (vO:Value),mm=((s.n-i).toNat)/\(0<=i)/\(i<=s.n)/\(nO=frN s i.toNat)/\(fO=frF s i.toNat)/\(0<=nO/\nO<=i)/\(Slh vO nO)/\M= [(2,.pointer (some ⟨g1,0,none⟩)),(3,.pointer (some ⟨g2,0,none⟩)),(4,.slice none 0 0),(5,.int .i64 0),(6,vnwh1),(10,wllf1),(11,.pointer (some ⟨g3,0,none⟩)),(12,vO),(45,vX),(46,.int .i64 s.n),(47,.int .i64 i)]/\Sat w0 w [.blk g1 [vL,vD,.int .i64 p.stock,.int .i64 p.kerf],.blk g2 [vM,vX,vY,.int .i64 s.val,.int .i64 s.den],.own vnwh1 2 111 nnwh1 (Zc pnwh1 cnwh1),.sem (Frame.rows 3 nnwh1 pnwh1 lnwh1 gnwh1),.own vdmd1 1 3 ndmd1 (ints fdmd1),.own vllf1 1 3 p.m (ints p.L),.own wllf1 1 3 p.d (ints (Z4 p fdmd1)),.blk g3 [vX,vY,.int .i64 s.val,.int .i64 s.den],.own vO 1 3 nO (ints fO)]) ⟨0,(fun _=>0),0,(.slice none 0 0),rfl,(by omega),(by omega),?_,?_,(by omega),?_,rfl,hS⟩ ?_
  ·
   rfl
  ·
   rfl
  ·
   exact slh_nil
  clear hS w
  rintro mm M w ⟨nO,fO,i,vO,rfl,h0,h1,hfN,hfF,hnO,hvO,rfl,hS⟩
  refine zsr ?_
  refine zlv xlss ?_
  refine zx7 ?_
  refine zcif ?_ ?_<;>intro hc
  ·
   refine zx3 ?_
   refine zlv xmv ?_
   refine zlv (xix (kk:=i) sl_22 hX.slh) ?_
   refine zlv (xlr (u:= .int .i64 (s.X i)) pl_3 (hX.below hS.below)) ?_
   have hXi:=d5 i h0 (by omega)
   have hti:=Wm hXi.1 d1
   refine zs2 ?_
   refine zlz ?_
   refine zlv xmv ?_
   refine zlv (xfb 3 fd_29_3) ?_
   refine zlv (xlb 7 pl_3 hS) ?_
   refine zlv (xrem (r:=(Int.tmod (s.X i) s.den))) ?_
   refine zlv Yf ?_
   refine zlt ?_
   refine zcif ?_ ?_<;>intro hc
   ·
    refine zrg ?_
    refine zs2 ?_
    refine zla (xli (n:=1) (len:=1) (pv:= [(0,.int .i64 i)]) (cs:= [.int .i64 i]) (c:=ints (fun _=>i)) sl_22 el_3 hS) ?_;rintro v1 w ⟨hS,hv1⟩
    replace hS:=hS.n10
    refine zla (xap 8 (r:=nO+1) sl_22 el_3 hS (hS.rowN 9 rfl) (ZJ _ _ _)) ?_;rintro v2 w ⟨hS,hv2⟩
    replace hS:=hS.n10
    refine zlv xas ?_
    refine zx10 ?_
    refine zlv (xadd (r:=i+1)) ?_
    refine zlv xmv ?_
    refine zln<|zlq ⟨nO+1,(snoc fO nO i),i+1,v2,rfl,(by omega),(by omega),?_,?_,(by omega),?_,rfl,hS.pk [0,1,2,3,4,5,6,7,8]⟩
    ·
     rw [Rx s h0,<-hfN];first|rw [if_pos (by omega)]|rw [if_neg (by omega)]
    ·
     rw [Ry s h0,<-hfN,<-hfF];first|rw [if_pos (by omega)]|rw [if_neg (by omega)]
    ·
     exact hv2
   refine zx4 ?_
   refine zlv (xadd (r:=i+1)) ?_
   refine zlv xmv ?_
   refine zln<|zlq ⟨nO,fO,i+1,vO,rfl,(by omega),(by omega),?_,?_,(by omega),?_,rfl,hS⟩
   ·
    rw [Rx s h0,<-hfN];first|rw [if_pos (by omega)]|rw [if_neg (by omega)]
   ·
    rw [Ry s h0,<-hfN,<-hfF];first|rw [if_pos (by omega)]|rw [if_neg (by omega)]
   ·
    exact hvO
  refine zx8 ?_
  refine zlv xmv ?_
  have hiN:i=u:=by omega
  rw [hiN] at hfN hfF
  obtain⟨hr1,hr2,hr3,hr4,hr5⟩:=V4 s u.toNat
  have hdO:∀k,0<=k->k<nO->0<=fO k/\fO k<s.n:=fun k k0 k1=>by rw [hfF];have:=hr3 k k0 (by omega);omega
  have hIO:Vs 0 nO fO:=by rw [hfN,hfF];exact hr4
  refine zlv xmf ?_
  refine zlc (xc0 Zhs) (Zcv (gs:=g3) (vd:=vO) (n:=nO) (nm:=s.n) (s:=fO) (lt:=fun x y=>(s.X y).tmod s.den<(s.X x).tmod s.den) (F:=Frame.bun [.blk g1 [vL,vD,.int .i64 p.stock,.int .i64 p.kerf],.blk g2 [vM,vX,vY,.int .i64 s.val,.int .i64 s.den],.own vnwh1 2 111 nnwh1 (Zc pnwh1 cnwh1),.sem (Frame.rows 3 nnwh1 pnwh1 lnwh1 gnwh1),.own vdmd1 1 3 ndmd1 (ints fdmd1),.own vllf1 1 3 p.m (ints p.L),.own wllf1 1 3 p.d (ints (Z4 p fdmd1)),.blk g3 [vX,vY,.int .i64 s.val,.int .i64 s.den]]) w0 w (Sat.bundle (l1:= [_]) (hS.pk [8,0,1,2,3,4,5,6,7])) hvO (by omega) (fun w x y x0 x1 y0 y1 hb hF=>ZdU w (hF.1 _ (List.mem_of_getElem? (i:=7) rfl)) (hX.below hb) (hY.below hb) hsd x0 x1 y0 y1) hdO (Zbo s) hIO) ?_;rintro _ w ⟨rfl,t1,hpt1,hst1,hS⟩
  replace hS:=Sat.unbundle (l1:= [_]) (l3:= []) hS
  replace hS:=hS.n9
  refine zx5 ?_
  refine zlv xmv ?_
  have htd:∀k,0<=k->k<nO->0<=t1 k/\t1 k<s.n:=fun k k0 k1=>by obtain⟨q,q0,q1,q2⟩:=hpt1.fr k0 k1;rw [show t1 k=fO q from q2];exact hdO q q0 q1
  have hlf:∀k,0<=k->k<p.m->0<=Z4 p fdmd1 k/\Z4 p fdmd1 k<=1000:=fun k k0 k1=>by have h9:=Ue hokp k0 k1;have h8:=hfb9 k k0 k1;unfold Z4;rw [if_pos ⟨k0,k1⟩];omega
  refine zlv (xln sl_22 hvO) ?_
  refine zlv xmv ?_
  refine zx6<|zlp (fun mm M w=>∃(nC:Int) (wv:Int->Value) (lC:Int->Int) (gC:Int->Int->Int) (cC:Int->Int) (gR:Int->Int) (j:Int) (wC:Value),mm=((nO-j).toNat)/\(0<=j)/\(j<=nO)/\(0<=nC)/\(nC<=60+j)/\((lst p.m gR,plL nC lC gC cC)=Un p.m mf (lst p.m (Z4 p fdmd1)) (plL nnwh1 lnwh1 gnwh1 cnwh1) (lst j t1))/\(∀k,0<=k->k<p.m->0<=gR k/\gR k<=1000)/\(Slh wC nC)/\M= [(2,.pointer (some ⟨g1,0,none⟩)),(3,.pointer (some ⟨g2,0,none⟩)),(4,.slice none 0 0),(5,.int .i64 0),(6,wC),(10,wllf1),(65,vO),(66,.int .i64 nO),(67,.int .i64 j)]/\Sat w0 w [.own vO 1 3 nO (ints t1),.blk g1 [vL,vD,.int .i64 p.stock,.int .i64 p.kerf],.blk g2 [vM,vX,vY,.int .i64 s.val,.int .i64 s.den],.own wC 2 111 nC (Zc wv cC),.sem (Frame.rows 3 nC wv lC gC),.own vdmd1 1 3 ndmd1 (ints fdmd1),.own vllf1 1 3 p.m (ints p.L),.own wllf1 1 3 p.d (ints gR),.blk g3 [vX,vY,.int .i64 s.val,.int .i64 s.den]]) ⟨nnwh1,pnwh1,lnwh1,gnwh1,cnwh1,(Z4 p fdmd1),0,vnwh1,rfl,(by omega),(by omega),(by omega),(by omega),?_,?_,?_,rfl,hS⟩ ?_
  ·
   rfl
  ·
   exact hlf
  ·
   exact hvnwh1
  clear hS w
  rintro mm M w ⟨nC,wv,lC,gC,cC,gR,j,wC,rfl,j0,j1,hnC0,hnC1,hUr,hGR,hwC,rfl,hS⟩
  have hrs1:=fun k (k0:0<=k) (k1:k<nC)=>hS.slhIn 4 rfl k0 k1
  refine zsr ?_
  refine zlv xlss ?_
  refine zx7 ?_
  refine zcif ?_ ?_<;>intro hc
  ·
   refine zx3 ?_
   refine zlv (xix (kk:=j) sl_22 hvO) ?_
   refine zlv (xlr (u:= .int .i64 (t1 j)) pl_3 (hS.rowN 0 rfl)) ?_
   have htj:=htd j j0 (by omega)
   obtain⟨hmk,hak⟩:=Xp (hfitt.2.2.2.1 (t1 j) htj.1 (by omega)).1
   refine zlv xas ?_
   refine zlz ?_
   refine zlv (xfb 0 fd_31_0) ?_
   refine zlv (xlb 2 pl_27 hS) ?_
   refine zlv xmv ?_
   refine zlv (xix (kk:=(t1 j)) sl_27 hM.row.slh) ?_
   refine zlv (xlr (u:=(mv (t1 j))) pl_22 (hM.row.below hS.below)) ?_
   refine zlv xas ?_
   refine zlz ?_
   refine zlv xas ?_
   refine zx5 ?_
   refine zlv xmv ?_
   refine zlv (xln sl_22 (hM.p (t1 j) (by omega) (by omega)).slh) ?_
   refine zlv xmv ?_
   refine zx6<|zlp (fun mm M w=>∃(useful:Prop) (i2:Int),mm=((ml (t1 j)-i2).toNat)/\(0<=i2)/\(i2<=ml (t1 j))/\(useful↔∃q,0<=q/\q<i2/\0<mf (t1 j) q/\0<gR q)/\M= [(2,.pointer (some ⟨g1,0,none⟩)),(3,.pointer (some ⟨g2,0,none⟩)),(4,.slice none 0 0),(5,.int .i64 0),(6,wC),(10,wllf1),(17,(mv (t1 j))),(18,B (useful)),(65,vO),(66,.int .i64 nO),(67,.int .i64 j),(76,(mv (t1 j))),(77,.int .i64 (ml (t1 j))),(78,.int .i64 i2)]/\Sat w0 w [.own vO 1 3 nO (ints t1),.blk g1 [vL,vD,.int .i64 p.stock,.int .i64 p.kerf],.blk g2 [vM,vX,vY,.int .i64 s.val,.int .i64 s.den],.own wC 2 111 nC (Zc wv cC),.sem (Frame.rows 3 nC wv lC gC),.own vdmd1 1 3 ndmd1 (ints fdmd1),.own vllf1 1 3 p.m (ints p.L),.own wllf1 1 3 p.d (ints gR),.blk g3 [vX,vY,.int .i64 s.val,.int .i64 s.den]]) ⟨False,0,rfl,(by omega),(by omega),?_,rfl,hS⟩ ?_ (hM:=by repeat' first|exact U7|refine zpk rfl ?_|refine zpk (congrArg some (B_false not_false).symm) ?_|refine zpk (congrArg some (Yq trivial).symm) ?_)
   ·
    exact⟨fun h=>h.elim,fun⟨q,q0,q1,_⟩=>by omega⟩
   clear hS w
   rintro mm M w ⟨useful,i2,rfl,i20,i21,hus,rfl,hS⟩
   refine zsr ?_
   refine zlv xlss ?_
   refine zx7 ?_
   refine zcif ?_ ?_<;>intro hc
   ·
    refine zx3 ?_
    refine zlv xmv ?_
    refine zlv (xix (kk:=i2) sl_22 (hM.p (t1 j) (by omega) (by omega)).slh) ?_
    refine zlv (xlr (u:= .int .i64 ((mf (t1 j)) i2)) pl_3 ((hM.p (t1 j) (by omega) (by omega)).below hS.below)) ?_
    have haq:=hak i2 i20 (by omega)
    refine zs2 ?_
    refine zlt<|zrg ?_
    refine zs2 ?_
    refine zlb 84 ?_ ?_<;>intro hc
    ·
     iterate 9 refine zlo ?_
     refine zs2 ?_
     refine zx10 ?_
     refine zlv (xadd (r:=i2+1)) ?_
     refine zlv xmv ?_
     refine zln<|zlq ⟨True,i2+1,rfl,(by omega),(by omega),?_,rfl,hS⟩ (hM:=by repeat' first|exact U7|refine zpk rfl ?_|refine zpk (congrArg some (B_false not_false).symm) ?_|refine zpk (congrArg some (Yq trivial).symm) ?_)
     ·
      refine Td i20 hus ?_
      first
      |exact⟨fun _=> .inl ‹useful›,fun _=>trivial⟩
      |exact⟨fun h9=> .inr ⟨‹0<mf (t1 j) i2›,h9⟩,fun h9=>h9.elim (fun h8=>absurd h8 ‹¬useful›) (·.2)⟩
      |exact⟨fun h9=>h9.elim,fun h9=>h9.elim (fun h8=>absurd h8 ‹¬useful›) (fun h8=>absurd h8.1 ‹¬0<mf (t1 j) i2›)⟩
    refine zs3 ?_
    refine zlb 87 ?_ ?_<;>intro hc
    ·
     refine zs2 ?_
     refine zlv (xix (kk:=i2) sl_22 hwllf1) ?_
     refine zlv (xlr (u:= .int .i64 (gR i2)) pl_3 (hS.rowN 7 rfl)) ?_
     refine zs4 ?_
     refine zx10 ?_
     refine zlv (xadd (r:=i2+1)) ?_
     refine zlv xmv ?_
     refine zln<|zlq ⟨0<gR i2,i2+1,rfl,(by omega),(by omega),?_,rfl,hS⟩
     ·
      refine Td i20 hus ?_
      first
      |exact⟨fun _=> .inl ‹useful›,fun _=>trivial⟩
      |exact⟨fun h9=> .inr ⟨‹0<mf (t1 j) i2›,h9⟩,fun h9=>h9.elim (fun h8=>absurd h8 ‹¬useful›) (·.2)⟩
      |exact⟨fun h9=>h9.elim,fun h9=>h9.elim (fun h8=>absurd h8 ‹¬useful›) (fun h8=>absurd h8.1 ‹¬0<mf (t1 j) i2›)⟩
    iterate 5 refine zlo ?_
    refine zs3 ?_
    refine zx10 ?_
    refine zlv (xadd (r:=i2+1)) ?_
    refine zlv xmv ?_
    refine zln<|zlq ⟨False,i2+1,rfl,(by omega),(by omega),?_,rfl,hS⟩ (hM:=by repeat' first|exact U7|refine zpk rfl ?_|refine zpk (congrArg some (B_false not_false).symm) ?_|refine zpk (congrArg some (Yq trivial).symm) ?_)
    ·
     refine Td i20 hus ?_
     first
     |exact⟨fun _=> .inl ‹useful›,fun _=>trivial⟩
     |exact⟨fun h9=> .inr ⟨‹0<mf (t1 j) i2›,h9⟩,fun h9=>h9.elim (fun h8=>absurd h8 ‹¬useful›) (·.2)⟩
     |exact⟨fun h9=>h9.elim,fun h9=>h9.elim (fun h8=>absurd h8 ‹¬useful›) (fun h8=>absurd h8.1 ‹¬0<mf (t1 j) i2›)⟩
   refine zx18 ?_
   refine zs2 ?_
   refine zlt ?_
   refine zcif ?_ ?_<;>intro hc
   ·
    refine zxt<|ztx<|zbh<|ztn<|zrg ?_
    refine zlv (xadd (r:=j+1)) ?_
    refine zlv xmv ?_
    refine zln<|zlq ⟨nC,wv,lC,gC,cC,gR,j+1,wC,rfl,(by omega),(by omega),(by omega),(by omega),?_,?_,?_,rfl,hS⟩
    ·
     first|exact uNo j0 hUr (fun⟨q,q0,q1,q2⟩=>absurd (hus.2 ⟨q,q0,by omega,q2⟩) ‹_›)|exact ZgR j0 hnC0 hUr (by obtain⟨q,q0,q1,q2⟩:=hus.1 (by first|assumption|exact Classical.not_not.1 ‹_›);exact⟨q,q0,by omega,q2⟩) (fun k k0 k1=>(hg4 k k0 k1).trans (if_pos (by omega))) (fun k k0 k1=>⟨Zo k1,Zk k1,Zo k1⟩) ((Zn (by omega)).trans hmk) (Zl (by omega)) (Zn (by omega))
    ·
     first|exact hGR|(intro k k0 k1;have h9:=hg4 k k0 k1;rw [if_pos (by omega)] at h9;have h8:=hGR k k0 k1;have h7:=hak k k0 k1;omega)
    ·
     exact hwC
   refine ZR ?_
   refine zs2 ?_
   refine zlc (xc0 cl_70) (c_clone (n:=(ml (t1 j))) (f:=(mf (t1 j))) w ((hM.p (t1 j) (by omega) (by omega)).below hS.below) (by omega)) ?_;rintro vq1 w ⟨_,rfl,hslq1,hS'⟩
   replace hS:Sat w0 w [.own vO 1 3 nO (ints t1),.blk g1 [vL,vD,.int .i64 p.stock,.int .i64 p.kerf],.blk g2 [vM,vX,vY,.int .i64 s.val,.int .i64 s.den],.own wC 2 111 nC (Zc wv cC),.sem (Frame.rows 3 nC wv lC gC),.own vdmd1 1 3 ndmd1 (ints fdmd1),.own vllf1 1 3 p.m (ints p.L),.own wllf1 1 3 p.d (ints gR),.blk g3 [vX,vY,.int .i64 s.val,.int .i64 s.den],.own vq1 1 3 (ml (t1 j)) (ints (mf (t1 j)))]:=hS.comp hS';clear hS'
   refine zlv (xany (v:= .agg #[vq1,.int .i64 1]) (hr:=by obtain⟨_,_,_,_,rfl,_⟩:=hslq1;kernel_rfl)) ?_
   refine zla (xli (n:=1) (len:=1) (pv:= [(0,.agg #[vq1,.int .i64 1])]) (cs:= [vq1,.int .i64 1]) (c:=Zc (fun _=>vq1) (fun _=>1)) sl_60 Yl hS (hf:=by obtain⟨_,_,_,_,rfl,_⟩:=hslq1;kernel_rfl)) ?_;rintro v3 w ⟨hS,hv3⟩
   replace hS:=hS.n11
   refine zla (xap 3 (r:=nC+1) sl_60 Yl hS (hS.rowN 10 rfl) (YJ _ _ _ _ _) (h1:=fun k _ _=>YE (fun _=>hslq1.one) k)) ?_;rintro v4 w ⟨hS,hv4⟩
   replace hS:=hS.n11
   replace hS:=Sat.merge (l1:= [_,_,_,_]) (l2:= [_,_,_,_]) (l3:= [_]) hS (by omega)
   have hrs2:=fun k (k0:0<=k) (k1:k<nC+1)=>hS.slhIn 4 rfl k0 k1
   replace hS:=hS.n10
   refine zlv xas ?_
   refine zlz ?_
   refine zlv xmv ?_
   refine zlv (xln sl_22 (hM.p (t1 j) (by omega) (by omega)).slh) ?_
   refine zlv xmv ?_
   refine zx6<|zlp (fun mm M w=>∃(g4:Int->Int) (i4:Int),mm=((ml (t1 j)-i4).toNat)/\(0<=i4)/\(i4<=ml (t1 j))/\(∀k,0<=k->k<p.m->g4 k=if k<i4 then max 0 (gR k-mf (t1 j) k) else gR k)/\M= [(2,.pointer (some ⟨g1,0,none⟩)),(3,.pointer (some ⟨g2,0,none⟩)),(4,.slice none 0 0),(5,.int .i64 0),(6,v4),(10,wllf1),(65,vO),(66,.int .i64 nO),(67,.int .i64 j),(104,(mv (t1 j))),(105,.int .i64 (ml (t1 j))),(106,.int .i64 i4)]/\Sat w0 w [.own vO 1 3 nO (ints t1),.blk g1 [vL,vD,.int .i64 p.stock,.int .i64 p.kerf],.blk g2 [vM,vX,vY,.int .i64 s.val,.int .i64 s.den],.own v4 2 111 (nC+1) (Zc (gsn wv nC vq1) (snoc cC nC 1)),.sem (Frame.rows 3 (nC+1) (gsn wv nC vq1) (gsn lC nC (ml (t1 j))) (gsn gC nC (mf (t1 j)))),.own vdmd1 1 3 ndmd1 (ints fdmd1),.own vllf1 1 3 p.m (ints p.L),.own wllf1 1 3 p.d (ints g4),.blk g3 [vX,vY,.int .i64 s.val,.int .i64 s.den],.own v3 2 111 1 (Zc (fun _=>vq1) (fun _=>1))]) ⟨gR,0,rfl,(by omega),(by omega),?_,rfl,hS⟩ ?_
   ·
    intro k k0 k1;rw [if_neg (by omega)]
   clear hS w
   rintro mm M w ⟨g4,i4,rfl,i40,i41,hg4,rfl,hS⟩
   refine zsr ?_
   refine zlv xlss ?_
   refine zx7 ?_
   refine zcif ?_ ?_<;>intro hc
   ·
    refine zx3 ?_
    refine zlv xmv ?_
    refine zlv (xix (kk:=i4) sl_22 (hM.p (t1 j) (by omega) (by omega)).slh) ?_
    refine zlv (xlr (u:= .int .i64 ((mf (t1 j)) i4)) pl_3 ((hM.p (t1 j) (by omega) (by omega)).below hS.below)) ?_
    have haq:=hak i4 i40 (by omega)
    have hgq:=hGR i4 i40 (by omega)
    have hgi:=hg4 i4 i40 (by omega)
    rw [if_neg (by omega)] at hgi
    refine zs2 ?_
    refine zlt<|zrg ?_
    refine zs4 ?_
    refine zlv (xix (kk:=i4) sl_22 hwllf1) ?_
    refine zlv (xlr (u:= .int .i64 (g4 i4)) pl_3 (hS.rowN 7 rfl)) ?_
    refine zlv xmv ?_
    refine zlv (xsub (r:=g4 i4-((mf (t1 j)) i4))) ?_
    refine zlv (Zda (r:=(max 0 (g4 i4-((mf (t1 j)) i4))))) ?_
    refine zlv (xix (kk:=i4) sl_22 hwllf1) ?_
    refine zle (xso 7 pl_3 hS (Zs _ _ _)) ?_;clear hS;rintro w hS
    replace hS:=hS.n10
    refine zx10 ?_
    refine zlv (xadd (r:=i4+1)) ?_
    refine zlv xmv ?_
    refine zln<|zlq ⟨(upd g4 i4 (max 0 (g4 i4-((mf (t1 j)) i4)))),i4+1,rfl,(by omega),(by omega),?_,rfl,hS⟩
    ·
     intro k k0 k1;unfold upd;by_cases e:k=i4
     · rw [if_pos e,if_pos (by omega),e];omega
     · rw [if_neg e,hg4 k k0 k1];by_cases e2:k<i4
       · rw [if_pos e2,if_pos (by omega)]
       · rw [if_neg e2,if_neg (by omega)]
   refine zxt<|ztx<|ztx<|zbh<|zbn<|ztn<|zrg ?_
   refine zlv (xadd (r:=j+1)) ?_
   refine zlv xmv ?_
   refine zln<|zlq ⟨nC+1,gsn wv nC vq1,gsn lC nC (ml (t1 j)),gsn gC nC (mf (t1 j)),(snoc cC nC 1),g4,j+1,v4,rfl,(by omega),(by omega),(by omega),(by omega),?_,?_,?_,rfl,hS.pk [0,1,2,3,4,5,6,7,8]⟩
   ·
    first|exact uNo j0 hUr (fun⟨q,q0,q1,q2⟩=>absurd (hus.2 ⟨q,q0,by omega,q2⟩) ‹_›)|exact ZgR j0 hnC0 hUr (by obtain⟨q,q0,q1,q2⟩:=hus.1 (by first|assumption|exact Classical.not_not.1 ‹_›);exact⟨q,q0,by omega,q2⟩) (fun k k0 k1=>(hg4 k k0 k1).trans (if_pos (by omega))) (fun k k0 k1=>⟨Zo k1,Zk k1,Zo k1⟩) ((Zn (by omega)).trans hmk) (Zl (by omega)) (Zn (by omega))
   ·
    first|exact hGR|(intro k k0 k1;have h9:=hg4 k k0 k1;rw [if_pos (by omega)] at h9;have h8:=hGR k k0 k1;have h7:=hak k k0 k1;omega)
   ·
    exact hv4
  refine zx8 ?_
  refine zlv (xls 1 st_35 hS) ?_
  refine zlv xmv ?_
  refine zlc (xc0 Zev) (Zcq (u:=nC) (pv:=wv) (ln:=lC) (pt:=gC) (cnt:=cC) (p:=p) w (⟨(hS.rowN 3 rfl),fun k k0 k1=>hS.rowIn 4 rfl k0 k1,fun k k0 k1=>hS.roomIn 4 rfl k0 k1⟩:VAt _ wC nC wv lC gC cC) (h.below hS.below)) ?_;rintro _ w ⟨vntr1,nntr1,pntr1,lntr1,gntr1,cntr1,entr1,rfl,htrtr1,htctr1,htntr1,hvntr1,hS'⟩
  replace hS:Sat w0 w [.own vO 1 3 nO (ints t1),.blk g1 [vL,vD,.int .i64 p.stock,.int .i64 p.kerf],.blk g2 [vM,vX,vY,.int .i64 s.val,.int .i64 s.den],.own wC 2 111 nC (Zc wv cC),.sem (Frame.rows 3 nC wv lC gC),.own vdmd1 1 3 ndmd1 (ints fdmd1),.own vllf1 1 3 p.m (ints p.L),.own wllf1 1 3 p.d (ints gR),.blk g3 [vX,vY,.int .i64 s.val,.int .i64 s.den],.own vntr1 2 111 nntr1 (Zc pntr1 cntr1),.sem (Frame.rows 3 nntr1 pntr1 lntr1 gntr1)]:=hS.comp hS';clear hS'
  have hrntr1:=fun k (k0:0<=k) (k1:k<nntr1)=>hS.slhIn 10 rfl k0 k1
  refine zs4 ?_
  refine zx1<|zf2 ⟨_,rfl,?_⟩
  have hjN:j=frN s u.toNat:=by omega
  rw [hjN] at hUr
  exact⟨_,_,_,_,_,_,_,rfl,.inr ⟨_,_,_,_,_,_,_,_,_,(by rw [show(0:Int)=enwh1 by omega];exact hwhwh1),hn19,hnC0,(by rw [<-hfN,<-hfF];exact hpt1),(by rw [<-hfN];exact hst1),(by rw [<-hfd9,<-hUr]),htrtr1⟩,htctr1,htntr1,hvntr1,hS.pk [9,10]⟩
theorem XC{F G c d:Int->Int}:∀{m:Nat},(∀k:Nat,k<m->F k=G k/\c k=d k)->psum F c m=psum G d m
  |0,_=>rfl
  |m+1,h=>by simp only [psum];rw [XC fun k hk=>h k (by omega),(h m (by omega)).1,(h m (by omega)).2]
theorem Yz{n:Int}{f:Int->Int}{j:Int}(j0:0<=j)(j1:j<n):(lst n f).getD j.toNat 0=f j:=by
  rw [List.getD_eq_getElem?_getD,lst_get,Int.toNat_of_nonneg j0,if_pos j1];rfl
theorem Rr{m:Int}{l:List Int}(h:l.length=m.toNat):l=lst m fun k=>l.getD k.toNat 0:=by
  apply List.ext_getElem?
  intro k
  rw [lst_get]
  by_cases hk:(k:Int)<m
  · rw [if_pos hk,List.getD_eq_getElem?_getD,Int.toNat_natCast,List.getElem?_eq_getElem (by omega)];rfl
  · rw [if_neg hk];simp;omega
def mkU(j:Int)(L:Us):Int:=wsum (fun l=>l.getD j.toNat 0) L
theorem Zdp{n:Int}{ln cnt:Int->Int}{pt:Int->Int->Int}(n0:0<=n){j:Int}(j0:0<=j)(hl:∀k,0<=k->k<n->j<ln k):ZC n pt cnt j=mkU j (plL n ln pt cnt):=by
  unfold mkU ZC
  rw [ZV _ n0]
  exact XC fun k hk=>⟨(Yz j0 (hl k (by omega) (by omega))).symm,rfl⟩
theorem VH:∀(h:List (List Int)) (s:List Int×Us),wsum (fun _=>1) (h.foldl YY s).2<=wsum (fun _=>1) s.2+h.length
  | [],s=>by simp
  | a ::h,s=>by
    have h1:=VH h (YY s a)
    have h2:wsum (fun _=>1) (YY s a).2<=wsum (fun _=>1) s.2+1:=by
      unfold YY
      dsimp only
      split
      · rw [Yj];simp [wsum]
      · omega
    rw [List.foldl_cons,List.length_cons];push_cast;omega
theorem RV:∀{N:Us},(∀x∈N,0<=x.2)->((X8 N).length:Int)=wsum (fun _=>1) N
  | [],_=>rfl
  | u::N,h=>by
    have h1:=RV (N:=N) fun x hx=>h x (by simp [hx])
    have h2:=h u (by simp)
    unfold X8 at h1⊢
    rw [List.reverse_cons,List.flatMap_append,List.length_append]
    simp only [List.flatMap_cons,List.flatMap_nil,List.append_nil,List.length_replicate,wsum]
    push_cast
    rw [h1,Int.toNat_of_nonneg h2];omega
theorem Rf{p:Prob}{u:Int}{ln cnt:Int->Int}{pt:Int->Int->Int}(h:PlanOk p u ln pt cnt):∀x∈plL u ln pt cnt,1<=x.2:=fun x hx=>by
  obtain⟨j,hj⟩:=List.mem_iff_getElem?.1 hx
  rw [plL_get] at hj
  split at hj
  · injection hj with hj;rw [<-hj];exact(h.2.2 j (by omega) (by assumption)).1
  · cases hj
theorem TrimR.bars{p:Prob}{u e:Int}{ln cnt:Int->Int}{pt:Int->Int->Int}{out:Us}(h:TrimR p u ln pt cnt out e)(he:e=0):wsum (fun _=>1) out<=wsum (fun _=>1) (plL u ln pt cnt):=by
  rcases h with⟨_,_,h⟩|⟨_,_,_,h⟩|⟨h1,_,_,N,hN,hO⟩
  · omega
  · omega
  · have hp:∀x∈N,0<=x.2:=fun x hx=>by have:=hN.pos (Rf h1) x hx;omega
    have h6:=RV hp
    have h5:=VH (X8 N) (lst p.m fun j=>ZC u pt cnt j-p.D j, [])
    have h7:=hN.wsum fun _=>1
    have h8:=hO.wsum fun _=>1
    have h9:wsum (fun _=>1) (([]:Us))=0:=rfl
    dsimp only at h5
    unfold Wn at h8
    rw [h9] at h5
    omega
theorem TrimR.ok{p:Prob}{u e:Int}{ln cnt:Int->Int}{pt:Int->Int->Int}{out:Us}(h:TrimR p u ln pt cnt out e)(h1:PlanOk p u ln pt cnt)(h2:∀j,0<=j->j<p.m->p.D j<=ZC u pt cnt j):e=0:=by
  rcases h with⟨h,_⟩|⟨_,h,_⟩|⟨_,_,h,_⟩
  · exact absurd h1 h
  · exact absurd h2 h
  · exact h
def TW(p:Prob)(l:List Int):Prop:=∃f,FitsP p p.m f/\l=lst p.m f
theorem XO{p:Prob}{n m:Int}{f g:Int->Int}(h:FitsP p n f)(hn:n=m)(he:∀k,0<=k->k<p.m->g k=f k):FitsP p m g:=by
  subst hn
  refine⟨h.ok,h.eq,fun i i0 i1=>by rw [he i i0 i1];exact h.all i i0 i1,?_⟩
  have hm:=h.ok.m1
  have e:Yb p g p.m.toNat=Yb p f p.m.toNat:=Zh fun i i0 i1=>by rw [he i i0 (by omega)]
  rw [e];exact h.used
theorem Rg{p:Prob}{n:Int}{ln cnt:Int->Int}{pt:Int->Int->Int}(hok:p.Ok)(hn:n<=1000)(hl:∀k,0<=k->k<n->0<=ln k)(hL:∀x∈plL n ln pt cnt,(1<=x.2/\x.2<=1000)/\TW p x.1):PlanOk p n ln pt cnt:=by
  refine⟨hok,hn,fun k k0 k1=> ?_⟩
  have hm:(lst (ln k) (pt k),cnt k)∈plL n ln pt cnt:=List.mem_iff_getElem?.2 ⟨k.toNat,by rw [plL_get,Int.toNat_of_nonneg k0,if_pos k1]⟩
  obtain⟨⟨h1,h2⟩,f,h3,h4⟩:=hL _ hm
  have hm1:=hok.m1
  obtain⟨q1,q2⟩:=(Wg (hl k k0 k1) (by omega)).1 h4
  exact⟨h1,h2,XO h3 q1.symm fun i i0 i1=>q2 i i0 (by omega)⟩
theorem VR{p:Prob}{n:Int}{ln cnt:Int->Int}{pt:Int->Int->Int}(h:PlanOk p n ln pt cnt):∀x∈plL n ln pt cnt,(1<=x.2/\x.2<=1000)/\TW p x.1:=fun x hx=>by
  obtain⟨j,hj⟩:=List.mem_iff_getElem?.1 hx
  rw [plL_get] at hj
  split at hj
  · injection hj with hj
    obtain⟨h1,h2,h3⟩:=h.2.2 j (by omega) (by assumption)
    rw [<-hj]
    exact⟨⟨h1,h2⟩,pt j,XO h3 h3.eq fun _ _ _=>rfl,by have:=h3.eq;dsimp only;rw [this]⟩
  · cases hj
theorem VF {m:Int} {mf:Int->Int->Int} {D:Int->Int}:∀(h:List Int) (L0:Us),(∀k∈h,∀j,0<=j->j<m->0<=mf k j)->
    (h.foldl (YQ m mf) (lst m (fun j=>max 0 (D j-mkU j L0)),L0)).1=lst m (fun j=>max 0 (D j-mkU j (h.foldl (YQ m mf) (lst m (fun j=>max 0 (D j-mkU j L0)),L0)).2))/\
    (∀j,0<=j->j<m->mkU j L0<=mkU j (h.foldl (YQ m mf) (lst m (fun j=>max 0 (D j-mkU j L0)),L0)).2/\(D j<=mkU j (h.foldl (YQ m mf) (lst m (fun j=>max 0 (D j-mkU j L0)),L0)).2\/mkU j L0+(h.map fun k=>mf k j).sum<=mkU j (h.foldl (YQ m mf) (lst m (fun j=>max 0 (D j-mkU j L0)),L0)).2))/\
    wsum (fun _=>1) (h.foldl (YQ m mf) (lst m (fun j=>max 0 (D j-mkU j L0)),L0)).2<=wsum (fun _=>1) L0+h.length/\
    (h.foldl (YQ m mf) (lst m (fun j=>max 0 (D j-mkU j L0)),L0)).2.length<=L0.length+h.length/\
    ∀x∈(h.foldl (YQ m mf) (lst m (fun j=>max 0 (D j-mkU j L0)),L0)).2,x∈L0\/∃k∈h,x=(lst m (mf k),1)
  | [],L0,_=>⟨rfl,fun j _ _=>⟨Int.le_refl _,.inr (by simp)⟩,by simp,by simp,fun x hx=> .inl hx⟩
  | k ::h,L0,hp=>by
    rw [List.foldl_cons]
    have hk:=hp k (by simp)
    by_cases hn:KL (lst m (mf k)) (lst m (fun j=>max 0 (D j-mkU j L0)))=true
    · have e:YQ m mf (lst m (fun j=>max 0 (D j-mkU j L0)),L0) k=(lst m (fun j=>max 0 (D j-mkU j (L0++ [(lst m (mf k),1)]))),L0++ [(lst m (mf k),1)]):=by
        unfold YQ
        dsimp only
        rw [if_pos hn,YS]
        congr 1
        apply ZO;intro j j0 j1
        have h1:mkU j (L0++ [(lst m (mf k),1)])=mkU j L0+mf k j:=by
          unfold mkU;rw [Yj];simp only [wsum];rw [Yz j0 j1];omega
        have h2:=hk j j0 j1
        rw [h1];omega
      rw [e]
      obtain⟨i1,i2,i3,i4,i5⟩:=VF (D:=D) h (L0++ [(lst m (mf k),1)]) fun q hq=>hp q (by simp [hq])
      refine⟨i1,fun j j0 j1=> ?_,?_,?_,fun x hx=> ?_⟩
      · have h1:mkU j (L0++ [(lst m (mf k),1)])=mkU j L0+mf k j:=by
          unfold mkU;rw [Yj];simp only [wsum];rw [Yz j0 j1];omega
        have h2:=hk j j0 j1
        obtain⟨g1,g2⟩:=i2 j j0 j1
        rw [h1] at g1 g2
        refine⟨by omega,?_⟩
        rcases g2 with g2|g2
        · exact .inl g2
        · right;rw [List.map_cons,List.sum_cons];omega
      · rw [Yj] at i3;simp only [wsum] at i3;rw [List.length_cons];push_cast;omega
      · rw [List.length_append] at i4;simp at i4⊢;omega
      · rcases i5 x hx with h1|⟨q,hq,h1⟩
        · rcases List.mem_append.1 h1 with h1|h1
          · exact .inl h1
          · exact .inr ⟨k,by simp,by simpa using h1⟩
        · exact .inr ⟨q,by simp [hq],h1⟩
    · have e:YQ m mf (lst m (fun j=>max 0 (D j-mkU j L0)),L0) k=(lst m (fun j=>max 0 (D j-mkU j L0)),L0):=by
        unfold YQ;rw [if_neg hn]
      rw [e]
      obtain⟨i1,i2,i3,i4,i5⟩:=VF (D:=D) h L0 fun q hq=>hp q (by simp [hq])
      refine⟨i1,fun j j0 j1=> ?_,by rw [List.length_cons];push_cast;omega,by rw [List.length_cons];omega,fun x hx=> ?_⟩
      · have h2:=hk j j0 j1
        obtain⟨g1,g2⟩:=i2 j j0 j1
        refine⟨g1,?_⟩
        by_cases hz:mf k j=0
        · rcases g2 with g2|g2
          · exact .inl g2
          · right;rw [List.map_cons,List.sum_cons];omega
        · left
          by_cases hD:D j<=mkU j L0
          · omega
          · exact absurd (WV.2 ⟨j,j0,j1,by omega,by omega⟩) hn
      · rcases i5 x hx with h1|⟨q,hq,h1⟩
        · exact .inl h1
        · exact .inr ⟨q,by simp [hq],h1⟩
theorem Zbq{a b:List Int}(h:a.Perm b):a.sum=b.sum:=by
  induction h with
  |nil=>rfl
  |cons x _ ih=>simp only [List.sum_cons,ih]
  |swap x y l=>simp only [List.sum_cons];omega
  |trans _ _ i1 i2=>rw [i1,i2]
theorem ZbD{n:Int}{f t:Int->Int}(n0:0<=n)(h:PermOn 0 n f t):(lst n t).Perm (lst n f):=by
  obtain⟨a,b,e1,e2,e3⟩:=h
  have h1:=VZ (t:=a) n0 ⟨a,b,e1,e2,fun k=>rfl⟩ f
  have h2:lst n t=(List.range n.toNat).map fun(i:Nat)=>f (a (i:Int)):=by
    unfold lst;exact List.map_congr_left fun i _=>e3 i
  rw [h2];exact h1
theorem ZbO(s:So)(G:Int->Int):∀n:Nat,((lst (frN s n) (frF s n)).map G).sum=psum (fun q=>if(s.X q).tmod s.den=0 then 0 else G q) (fun _=>1) n
  |0=>rfl
  | n +1=>by
    have h0:=(V4 s n).1
    have ih:=ZbO s G n
    simp only [frN,frF,psum]
    by_cases h:(s.X n).tmod s.den=0
    · rw [if_pos h,if_pos h,if_pos h,ih];omega
    · rw [if_neg h,if_neg h,if_neg h,Rq h0,List.map_append,List.sum_append,ZO (f:=snoc (frF s n) (frN s n) n) (g:=frF s n) fun k k0 k1=>Zk k1,ih,Zl (by omega)]
      simp
theorem Rw {s:So} {f:Int->Int} (hd:1<=s.den) {N:Int} (hX:∀k:Nat,(k:Int)<N->0<=s.X k) (hf:∀k:Nat,(k:Int)<N->0<=f k):∀n:Nat,(n:Int)<=N->psum f s.X n<=s.den*(psum f (fun q=>(s.X q).tdiv s.den) n+psum (fun q=>if(s.X q).tmod s.den=0 then 0 else f q) (fun _=>1) n)
  |0,_=>by simp [psum]
  | n + 1,hn=>by
    have ih:=Rw hd hX hf n (by omega)
    have h1:=hX n (by omega)
    have h2:=hf n (by omega)
    have h3:=Int.tmod_add_mul_tdiv (s.X n) s.den
    have h4:=Wm h1 hd
    simp only [psum]
    have key:f n*s.X n<=s.den*(f n*(s.X n).tdiv s.den+(if(s.X n).tmod s.den=0 then 0 else f n)):=by
      by_cases h:(s.X n).tmod s.den=0
      · rw [if_pos h,Int.add_zero,Int.mul_left_comm]
        exact Int.mul_le_mul_of_nonneg_left (by omega) h2
      · rw [if_neg h]
        have e:s.den*(f n*(s.X n).tdiv s.den+f n)=f n*(s.den*((s.X n).tdiv s.den+1)):=by
          rw [Int.mul_left_comm (f n),Int.mul_add (f n),Int.mul_one]
        rw [e]
        refine Int.mul_le_mul_of_nonneg_left ?_ h2
        rw [Int.mul_add,Int.mul_one];omega
    rw [Int.mul_add] at ih key⊢
    rw [Int.mul_add,Int.mul_add,Int.mul_one]
    omega
theorem U5{p:Prob}{hist:List Int}{s:Us}(hok:p.Ok)(h:FFOk p.m (p.stock+p.kerf) (szP p) hist s){b:List Int×Int}(hb:b∈s){j:Int}(j0:0<=j)(j1:j<p.m):0<=b.1.getD j.toNat 0/\b.1.getD j.toNat 0<=p.stock+p.kerf:=by
  obtain⟨h2,h3,h4⟩:=h.ok _ hb
  have h5:=h.nn _ hb
  have h6:=To h5 (sz:=szP p) (fun k hk=>(R9 hok (by omega) (by omega)).1) (j:=j.toNat) (by omega)
  refine⟨?_,by omega⟩
  rw [List.getD_eq_getElem?_getD,List.getElem?_eq_getElem (by omega)]
  exact h5 _ (List.getElem_mem _)
theorem UG(p:Prob)(d:Int->Int):∀n:Nat,psum (szP p) d n=Yb p d n
  |0=>rfl
  | n +1=>by
    have h1:Yb p d (n+1)=Yb p d n+d n*(p.L n+p.kerf):=by
      have:=ZY (fun i=>d i*(p.L i+p.kerf)) (i:=(n:Int)) (by omega)
      rw [show((n:Int)+1).toNat=n+1 by omega,Int.toNat_natCast] at this
      exact this
    rw [h1,psum,UG p d n,Int.mul_comm]
theorem Xi{a b A B:Int}(a0:0<=a)(a1:a<=A)(b0:0<=b)(b1:b<=B):0<=a*b/\a*b<=A*B:=
  ⟨Int.mul_nonneg a0 b0,Int.mul_le_mul a1 b1 b0 (by omega)⟩
theorem Vv{p:Prob}(hok:p.Ok)(hf:WT p):psum (fun _=>1) p.D p.m.toNat<=180:=by
  obtain⟨h1,h2,_⟩:=hf.2.2 hok
  have hd:=hok.d
  have hm:=hok.m1
  have hb:∀n:Nat,(n:Int)<=p.m->psum (fun _=>1) p.D n<=30*n:=by
    intro n
    induction n with
    |zero=>intro _;simp [psum]
    |succ n ih=>intro hn;have:=ih (by omega);have:=h1 n (by omega) (by omega);simp only [psum];push_cast;omega
  have:=hb p.m.toNat (by omega)
  omega
theorem Vy{p:Prob}{e:Int}(hok:p.Ok)(hf:WT p)(h:ChkR p e):e=0:=by
  have h1:=Vv hok hf
  rcases h with⟨h,_⟩|⟨_,h,_⟩|⟨_,_,h⟩
  · exact absurd hok h
  · omega
  · exact h
theorem ZaA{p:Prob}{u n:Int}{ml ln cnt:Int->Int}{mf pt:Int->Int->Int}{s:So}{e:Int}(hok:p.Ok)(hf:WT p)(hfit:Vf p u ml mf s)(h:WholeR p u ml mf s n ln pt cnt e):e=0:=by
  rcases h with⟨h,_⟩|⟨_,_,h,_⟩|⟨_,_,_,h,_⟩
  · exact absurd ⟨hok,hfit⟩ h
  · exact Vy hok hf h
  · exact h
theorem WB{p:Prob}{n:Int}{ln cnt:Int->Int}{pt:Int->Int->Int}(hok:p.Ok)(hn:n<=1000)(hL:∀x∈plL n ln pt cnt,(1<=x.2/\x.2<=1000)/\TW p x.1):PlanOk p n ln pt cnt:=by
  refine Rg hok hn (fun k k0 k1=> ?_) hL
  obtain⟨_,f,h3,h4⟩:=hL (lst (ln k) (pt k),cnt k) (List.mem_iff_getElem?.2 ⟨k.toNat,by rw [plL_get,Int.toNat_of_nonneg k0,if_pos k1]⟩)
  have h5:=congrArg List.length h4
  dsimp only at h5
  rw [Yn,Yn] at h5
  have:=hok.m1
  omega
theorem PlanOk.mk{p:Prob}{n:Int}{ln cnt:Int->Int}{pt:Int->Int->Int}(h:PlanOk p n ln pt cnt)(n0:0<=n){j:Int}(j0:0<=j)(j1:j<p.m):ZC n pt cnt j=mkU j (plL n ln pt cnt):=
  Zdp n0 j0 fun k k0 k1=>by have:=(h.2.2 k k0 k1).2.2.eq;omega
theorem KK{f g:List Int->Int}:∀{L:Us},(∀x∈L,0<=x.2)->(∀x∈L,f x.1<=g x.1)->wsum f L<=wsum g L
  | [],_,_=>Int.le_refl _
  | x::L,h,k=>by
    have h1:=KK (f:=f) (g:=g) (L:=L) (fun y hy=>h y (by simp [hy])) fun y hy=>k y (by simp [hy])
    have h2:=Int.mul_le_mul_of_nonneg_right (k x (by simp)) (h x (by simp))
    simp only [wsum];omega
theorem Zcb:∀{L:Us},(∀x∈L,1<=x.2)->(L.length:Int)<=wsum (fun _=>1) L/\∀x∈L,x.2<=wsum (fun _=>1) L
  | [],_=>⟨by simp [wsum],by simp⟩
  | y ::L,h=>by
    obtain⟨h1,h2⟩:=Zcb (L:=L) fun x hx=>h x (by simp [hx])
    have h3:=h y (by simp)
    simp only [wsum]
    refine⟨by rw [List.length_cons];push_cast;omega,fun x hx=> ?_⟩
    rcases List.mem_cons.1 hx with e|e
    · rw [e];have:(0:Int)<=L.length:=by omega
      omega
    · have:=h2 x e;omega
theorem VD{p:Prob}{u n:Int}{ml ln cnt:Int->Int}{mf pt:Int->Int->Int}{s:So}(h:WholeR p u ml mf s n ln pt cnt 0)(u0:0<=u):
    (∀j,ZC n pt cnt j=psum (fun q=>mf q j) (fun q=>(s.X q).tdiv s.den) u.toNat)/\wsum (fun _=>1) (plL n ln pt cnt)=psum (fun _=>1) (fun q=>(s.X q).tdiv s.den) u.toNat:=by
  rcases h with⟨_,_,h⟩|⟨_,_,_,h,_⟩|⟨h1,h2,h3,_,h4,h5,h6,h7⟩
  · omega
  · exact absurd rfl h
  · obtain⟨hs,hn,hu6,hall,_⟩:=h2
    have hX:∀k:Nat,(k:Int)<u->0<=s.X k:=fun k hk=>(hs.2.2 k (by omega) (by omega)).1
    have hr:=X1 s u.toNat
    subst h4 h5 h6 h7
    refine⟨fun j=>Km s mf j u hX hs.1.1 u.toNat (by omega),?_⟩
    rw [ZV _ hr.1]
    have h8:=Km s (fun _ _=>1) 0 u hX hs.1.1 u.toNat (by omega)
    rw [<-h8]
    refine XC fun k hk=>⟨?_,rfl⟩
    obtain⟨q,_,_,_,q4,_⟩:=Zae s ml (fun _ _=>1) u.toNat k (by omega) (by omega)
    rw [q4]
theorem Kd{p:Prob}{u n:Int}{ml ln cnt:Int->Int}{mf pt:Int->Int->Int}{s:So}(hfit:Vf p u ml mf s)(h:WholeR p u ml mf s n ln pt cnt 0)(u0:0<=u){j:Int}(j0:0<=j)(j1:j<p.m):
    p.D j<=ZC n pt cnt j+psum (fun q=>if(s.X q).tmod s.den=0 then 0 else mf q j) (fun _=>1) u.toNat:=by
  obtain⟨hs,hn,hu6,hall,hge⟩:=hfit
  have hX:∀k:Nat,(k:Int)<u->0<=s.X k:=fun k hk=>(hs.2.2 k (by omega) (by omega)).1
  have hF:∀k:Nat,(k:Int)<u->0<=mf k j:=fun k hk=>((Xp (hall k (by omega) hk).1).2 j j0 j1).1
  have h1:=Rw (s:=s) (f:=fun q=>mf q j) hs.1.1 hX hF u.toNat (by omega)
  have h2:=hge j j0 j1
  rw [(VD h u0).1 j]
  have h3:s.den*p.D j<=s.den*(psum (fun q=>mf q j) (fun q=>(s.X q).tdiv s.den) u.toNat+psum (fun q=>if(s.X q).tmod s.den=0 then 0 else mf q j) (fun _=>1) u.toNat):=by
    rw [Int.mul_comm s.den (p.D j)];exact Int.le_trans h2 h1
  exact Int.le_of_mul_le_mul_left h3 (by have:=hs.1.1;omega)
theorem ZeE {p:Prob} {u:Int} {ml:Int->Int} {mf:Int->Int->Int} {s:So} {out:Us} {e:Int} (hok:p.Ok) (hf:WT p) (hfit:Vf p u ml mf s) (u0:0<=u) (h:UpR p u ml mf s out e):
    e=0/\wsum (fun _=>1) out<=psum (fun _=>1) (fun q=>(s.X q).tdiv s.den) u.toNat+frN s u.toNat:=by
  rcases h with⟨h,_,_,_,_,_,h2⟩|⟨n1,ln1,pt1,cnt1,t,n,ln,pt,cnt,hw,n10,n0,hp,_,hU,hT⟩
  · exact absurd (ZaA hok hf hfit h2) h
  · obtain⟨_,_,_,hn60,hP1,_⟩:=hw.ok rfl u0
    have hw2:=VD hw u0
    have hu6:=hfit.2.2.1
    obtain⟨f0,f1,f2,f3,f4⟩:=V4 s u.toNat
    have ht:∀k,0<=k->k<frN s u.toNat->0<=t k/\t k<u:=fun k k0 k1=>by
      obtain⟨q,q0,q1,q2⟩:=hp.fr k0 k1
      rw [q2];have:=f2 q q0 q1;omega
    have htm:∀k∈lst (frN s u.toNat) t,0<=k/\k<u:=fun k hk=>by
      unfold lst at hk
      obtain⟨i,hi,rfl⟩:=List.mem_map.1 hk
      have:=List.mem_range.1 hi
      exact ht i (by omega) (by omega)
    have hL:lst p.m (Z4 p (ZC n1 pt1 cnt1))=lst p.m fun j=>max 0 (p.D j-mkU j (plL n1 ln1 pt1 cnt1)):=ZO fun k k0 k1=>by
      unfold Z4;rw [if_pos ⟨k0,k1⟩,hP1.mk n10 k0 k1]
    obtain⟨i1,i2,i3,i4,i5⟩:=VF (m:=p.m) (mf:=mf) (D:=p.D) (lst (frN s u.toNat) t) (plL n1 ln1 pt1 cnt1) fun k hk j j0 j1=>((Xp (hfit.2.2.2.1 k (htm k hk).1 (htm k hk).2).1).2 j j0 j1).1
    rw [<-hL] at i2 i3 i4 i5
    unfold Un at hU
    rw [<-hU] at i2 i3 i4 i5
    rw [plL_len,plL_len,Yn] at i4
    rw [Yn] at i3
    have hPO:PlanOk p n ln pt cnt:=WB hok (by omega) fun x hx=>by
      rcases i5 x hx with h1|⟨k,hk,h1⟩
      · exact VR hP1 x h1
      · have hk2:=htm k hk
        have h3:=(hfit.2.2.2.1 k hk2.1 hk2.2).1.1
        rw [h1]
        exact⟨⟨Int.le_refl 1,show(1:Int)<=1000 by omega⟩,mf k,XO h3 h3.eq fun _ _ _=>rfl,rfl⟩
    have he:e=0:=hT.ok hPO fun j j0 j1=>by
      rw [hPO.mk n0 j0 j1]
      rcases(i2 j j0 j1).2 with g|g
      · exact g
      · have h1:=Kd hfit hw u0 j0 j1
        rw [hP1.mk n10 j0 j1] at h1
        have h2:=ZbO s (fun k=>mf k j) u.toNat
        have h3:=Zbq ((ZbD f0 hp).map fun k=>mf k j)
        omega
    refine⟨he,?_⟩
    have h4:=hT.bars he
    rw [hw2.2] at i3
    omega
theorem ZeW{p:Prob}{hist:List Int}{s:Us}(hok:p.Ok)(h:FFOk p.m (p.stock+p.kerf) (szP p) hist s){b:List Int×Int}(hb:b∈s):TW p b.1:=by
  obtain⟨h2,h3,h4⟩:=h.ok _ hb
  have h5:=h.nn _ hb
  have hm:=hok.m1
  have hl:=Rr (m:=p.m) h2
  have e:XB (szP p) b.1=Yb p (fun k=>b.1.getD k.toNat 0) p.m.toNat:=by
    rw [hl,UF _ _ (by omega),UG]
    refine Zh fun i i0 i1=> ?_
    dsimp only
    rw [<-hl]
  refine⟨fun k=>b.1.getD k.toNat 0,⟨hok,rfl,fun i i0 i1=> ?_,by omega⟩,hl⟩
  obtain⟨g1,g2⟩:=U5 hok h hb i0 i1
  refine⟨g1,?_⟩
  have h6:(b.1.getD i.toNat 0)*(1+p.kerf)<=p.stock+p.kerf:=by
    have hs:=hok.all i i0 i1
    unfold Prob.each at hs
    have h7:(b.1.getD i.toNat 0)*(p.L i+p.kerf)<=Yb p (fun k=>b.1.getD k.toNat 0) p.m.toNat:=XV (f:=fun i=>b.1.getD i.toNat 0*(p.L i+p.kerf)) i0 (by omega) fun k k0 k1=>by
      have hk:=hok.all k k0 (by omega)
      unfold Prob.each at hk
      exact Int.mul_nonneg (U5 hok h hb k0 (by omega)).1 (by have:=hok.k1;omega)
    have h8:=Int.mul_le_mul_of_nonneg_left (show 1+p.kerf<=p.L i+p.kerf by omega) g1
    omega
  have hk1:=hok.k1
  have hs2:=hok.s2
  refine Classical.byContradiction fun hc=> ?_
  have h9:=Int.mul_le_mul_of_nonneg_right (show(2001:Int)<=b.1.getD i.toNat 0 by omega) (show 0<=1+p.kerf by omega)
  omega
def Kl(j:Int):Int->Int:=fun k=>if k=j then 1 else 0
theorem VQ{d:Int->Int}{j:Int}(j0:0<=j):∀n:Nat,psum (Kl j) d n=if j<(n:Int) then d j else 0
  |0=>by rw [if_neg (by omega)];rfl
  | n +1=>by
    simp only [psum]
    rw [VQ j0 n]
    unfold Kl
    by_cases h:(n:Int)=j
    · rw [if_neg (by omega),if_pos h,if_pos (by omega),h];omega
    · rw [if_neg h]
      by_cases h2:j<(n:Int)
      · rw [if_pos h2,if_pos (by omega)];omega
      · rw [if_neg h2,if_neg (by omega)];omega
theorem ZbA{m:Int}{l:List Int}(hl:l.length=m.toNat){j:Int}(j0:0<=j)(j1:j<m):XB (Kl j) l=l.getD j.toNat 0:=by
  have h:=Rr (m:=m) hl
  have h1:XB (Kl j) l=XB (Kl j) (lst m fun k=>l.getD k.toNat 0):=by rw [<-h]
  rw [h1,UF _ _ (by omega),VQ j0,if_pos (by omega)]
theorem ZbP{p:Prob}{d:Int->Int}(hok:p.Ok)(hd:∀k,0<=k->k<p.m->0<=d k){N:Us}(hN:NormR (Vq (Yo p.m (p.stock+p.kerf) (szP p) (pcsTo d p.m 0))) N):
    (∀x∈N,1<=x.2/\TW p x.1)/\wsum (fun _=>1) N<=psum (fun _=>1) d p.m.toNat/\∀j,0<=j->j<p.m->mkU j N=d j:=by
  have hm:=hok.m1
  obtain⟨hp1,hp2⟩:=VT (d:=d) (m:=p.m) (i:=p.m) (c:=0) hd (by omega) (by omega) (by omega) (fun h=>by omega) fun _=>rfl
  have hF:=Zag hok hp1
  have hone:∀x∈Vq (Yo p.m (p.stock+p.kerf) (szP p) (pcsTo d p.m 0)),∃b∈Yo p.m (p.stock+p.kerf) (szP p) (pcsTo d p.m 0),x=(b.1,1):=fun x hx=>by
    unfold Vq at hx
    obtain⟨b,hb,rfl⟩:=List.mem_map.1 hx
    exact⟨b,hb,rfl⟩
  refine⟨fun x hx=>⟨hN.pos (fun y hy=>by obtain⟨b,_,rfl⟩:=hone y hy;exact Int.le_refl _) x hx,?_⟩,?_,fun j j0 j1=> ?_⟩
  · obtain⟨y,hy,e⟩:=hN.keys x hx
    obtain⟨b,hb,rfl⟩:=hone y hy
    rw [<-e];exact ZeW (b:=b) hok hF hb
  · rw [hN.wsum,WU]
    have h1:=hF.ln
    have h2:((Yo p.m (p.stock+p.kerf) (szP p) (pcsTo d p.m 0)).map fun _=>(1:Int)).sum=(Yo p.m (p.stock+p.kerf) (szP p) (pcsTo d p.m 0)).length:=by
      generalize Yo p.m (p.stock+p.kerf) (szP p) (pcsTo d p.m 0)=l
      induction l with
      |nil=>rfl
      |cons a l ih=>rw [List.map_cons,List.sum_cons,ih,List.length_cons];push_cast;omega
    omega
  · unfold mkU
    rw [hN.wsum,WU]
    have h1:=hF.ct (Kl j)
    rw [UL _ _ (by omega) (by omega) hd,VQ j0,if_pos (by omega)] at h1
    have h2:((Yo p.m (p.stock+p.kerf) (szP p) (pcsTo d p.m 0)).map fun b=>b.1.getD j.toNat 0)=(Yo p.m (p.stock+p.kerf) (szP p) (pcsTo d p.m 0)).map fun b=>XB (Kl j) b.1:=
      List.map_congr_left fun b hb=>(ZbA (hF.ok b hb).1 j0 j1).symm
    rw [h2,h1];omega
end Go.Proofs.YtopmifmfecfaaaaGreat
namespace Go.Proofs.YtopmifmfecfaaaaGreat
open Go Go.RowKit Go.Proofs.Gw
theorem Zce:Zb Tryz.prog 30=true:=by kernel_rfl
theorem ZhC:Zb Tryz.prog 44=true:=by kernel_rfl
theorem Zhu:Zb Tryz.prog 62=true:=by kernel_rfl
theorem Zhp:Zb Tryz.prog 78=true:=by kernel_rfl
set_option maxRecDepth 20000 in
theorem Zcy{vV:Value}{n:Int}{pv:Int->Value}{ln:Int->Int}{pt:Int->Int->Int}{cnt:Int->Int}{vV2:Value}{n2:Int}{pv2:Int->Value}{ln2:Int->Int}{pt2:Int->Int->Int}{cnt2:Int->Int}(w0:World)(hV:VAt w0 vV n pv ln pt cnt)(hV2:VAt w0 vV2 n2 pv2 ln2 pt2 cnt2)(hnn:n<=100000):
    Calls Tryz.prog 44 [vV,vV2].toArray w0 fun e w=>∃v,e= .returned v/\v=B (SameP n n2 ln ln2 pt pt2 cnt cnt2)/\Sat w0 w []:=by
  have hn5:=hnn
  refine Zj Tryz.func44 Tryz.ntmps44 fun w hS=> ?_
  refine zsr ?_
  refine zlv xas ?_
  refine zlz ?_
  refine zlv xmv ?_
  refine zlc (xc0 Zhu) (Zcr (n:=n) (pv:=pv) (ln:=ln) (pt:=pt) (cnt:=cnt) w (hV.below hS.below) (by omega)) ?_;rintro vtth1 w ⟨_,rfl,hvtth1,hS'⟩
  replace hS:Sat w0 w [.own vtth1 2 100 n (Zc pv cnt)]:=hS.comp hS';clear hS'
  refine zlv xmv ?_
  refine zlc (xc0 Zhp) (ZdZ (n:=n) (pv:=pv) (ln:=ln) (pt:=pt) (cnt:=cnt) (n2:=n2) (pv2:=pv2) (ln2:=ln2) (pt2:=pt2) (cnt2:=cnt2) w (⟨(hS.rowN 0 rfl),fun k k0 k1=>(hV.p k k0 k1).below hS.below,hV.room⟩:VAt _ vtth1 n pv ln pt cnt) (hV2.below hS.below)) ?_;rintro _ w ⟨rfl,hS'⟩
  replace hS:=hS.cmp hS';clear hS'
  refine zlv xas ?_
  refine zx1<|zf1 ⟨_,rfl,?_⟩
  exact⟨rfl,hS.nl⟩
theorem ZeJ{w:World}{v a b c:Value}{f g h:Int->Int}(hr:Row w v 2 3 (fun k=>([a,.int .i64 1,b,.int .i64 1,c,.int .i64 1]:List Value).getD k.toNat undef))(ha:Row w a 1 2 (ints f))(hb:Row w b 1 2 (ints g))(hc:Row w c 1 2 (ints h))(ra:Gw.XR a)(rb:Gw.XR b)(rc:Gw.XR c):
    VAt w v 3 (fun k=> [a,b,c].getD k.toNat undef) (fun _=>2) (fun k=> [f,g,h].getD k.toNat (fun _=>0)) (fun _=>1):=by
  have e:∀k:Int,0<=k->k<3->k=0\/k=1\/k=2:=fun k k0 k1=>by omega
  refine⟨⟨hr.1,fun k hk=> ?_⟩,fun i i0 i1=> ?_,fun i i0 i1=> ?_⟩
  · have:=hr.2 k hk
    rcases k with _|_|_|_|_|_|k
    · exact this
    · exact this
    · exact this
    · exact this
    · exact this
    · exact this
    · simp at hk;omega
  · rcases e i i0 i1 with rfl|rfl|rfl
    · exact ha
    · exact hb
    · exact hc
  · rcases e i i0 i1 with rfl|rfl|rfl
    · exact ra
    · exact rb
    · exact rc
set_option maxRecDepth 20000 in
theorem c_awake34(w0:World):
    Calls Tryz.prog 28 [].toArray w0 fun e w=>∃v,e= .returned v/\v= .bool true/\Sat w0 w []:=by
  refine Zj Tryz.func28 Tryz.ntmps28 fun w hS=> ?_
  refine zsr ?_
  refine zlv xas ?_
  refine zlz ?_
  refine zla (xli (n:=2) (len:=2) (pv:= [(0,.int .i64 5),(1,.int .i64 3)]) (cs:= [.int .i64 5,.int .i64 3]) (c:=ints (fun k=> [5,3].getD k.toNat 0)) sl_22 el_3 hS) ?_;rintro v1 w ⟨hS,hv1⟩
  replace hS:=hS.n1
  refine zla (xli (n:=2) (len:=2) (pv:= [(0,.int .i64 3),(1,.int .i64 4)]) (cs:= [.int .i64 3,.int .i64 4]) (c:=ints (fun k=> [3,4].getD k.toNat 0)) sl_22 el_3 hS) ?_;rintro v2 w ⟨hS,hv2⟩
  replace hS:=hS.n2
  refine zlv (xany (v:= .agg #[v1,v2,.int .i64 11,.int .i64 1]) (hr:=by obtain⟨_,_,_,_,rfl,_⟩:=hv1;obtain⟨_,_,_,_,rfl,_⟩:=hv2;kernel_rfl)) ?_
  refine zlc (xc0 Zce) (KF (p:=(⟨2,(fun k=> [5,3].getD k.toNat 0),2,(fun k=> [3,4].getD k.toNat 0),11,1⟩:Prob)) w (⟨(hS.rowN 0 rfl),(hS.rowN 1 rfl),(ZgZ _ (by decide)),(ZgZ _ (by decide)),(by(try dsimp only);omega),(by(try dsimp only);omega)⟩:PAt _ _ _ (⟨2,(fun k=> [5,3].getD k.toNat 0),2,(fun k=> [3,4].getD k.toNat 0),11,1⟩:Prob))) ?_;rintro _ w ⟨vnff1,nnff1,pnff1,lnff1,gnff1,cnff1,enff1,rfl,hffff1,hfcff1,hfnff1,hvnff1,hS'⟩
  replace hS:Sat w0 w [.own v1 1 3 2 (ints (fun k=> [5,3].getD k.toNat 0)),.own v2 1 3 2 (ints (fun k=> [3,4].getD k.toNat 0)),.own vnff1 2 111 nnff1 (Zc pnff1 cnff1),.sem (Frame.rows 3 nnff1 pnff1 lnff1 gnff1)]:=hS.comp hS';clear hS'
  have hrnff1:=fun k (k0:0<=k) (k1:k<nnff1)=>hS.slhIn 3 rfl k0 k1
  obtain⟨he0,hl0⟩:=ZeU hffff1
  refine zs5 ?_
  refine zlz ?_
  refine zs3 ?_
  refine zlb 12 ?_ ?_<;>intro hc
  ·
   refine zlv xmv ?_
   refine zla (xli (n:=2) (len:=2) (pv:= [(0,.int .i64 2),(1,.int .i64 0)]) (cs:= [.int .i64 2,.int .i64 0]) (c:=ints (fun k=> [2,0].getD k.toNat 0)) sl_22 el_3 hS) ?_;rintro v3 w ⟨hS,hv3⟩
   replace hS:=hS.n5
   refine zlv (xany (v:= .agg #[v3,.int .i64 1]) (hr:=by obtain⟨_,_,_,_,rfl,_⟩:=hv3;kernel_rfl)) ?_
   refine zla (xli (n:=2) (len:=2) (pv:= [(0,.int .i64 1),(1,.int .i64 1)]) (cs:= [.int .i64 1,.int .i64 1]) (c:=ints (fun k=> [1,1].getD k.toNat 0)) sl_22 el_3 hS) ?_;rintro v4 w ⟨hS,hv4⟩
   replace hS:=hS.n6
   refine zlv (xany (v:= .agg #[v4,.int .i64 1]) (hr:=by obtain⟨_,_,_,_,rfl,_⟩:=hv4;kernel_rfl)) ?_
   refine zla (xli (n:=2) (len:=2) (pv:= [(0,.int .i64 0),(1,.int .i64 3)]) (cs:= [.int .i64 0,.int .i64 3]) (c:=ints (fun k=> [0,3].getD k.toNat 0)) sl_22 el_3 hS) ?_;rintro v5 w ⟨hS,hv5⟩
   replace hS:=hS.n7
   refine zlv (xany (v:= .agg #[v5,.int .i64 1]) (hr:=by obtain⟨_,_,_,_,rfl,_⟩:=hv5;kernel_rfl)) ?_
   refine zla (xli (n:=3) (len:=3) (pv:= [(0,.agg #[v3,.int .i64 1]),(1,.agg #[v4,.int .i64 1]),(2,.agg #[v5,.int .i64 1])]) (cs:= [v3,.int .i64 1,v4,.int .i64 1,v5,.int .i64 1]) (c:=fun k=>([(v3:Value),(.int .i64 1:Value),(v4:Value),(.int .i64 1:Value),(v5:Value),(.int .i64 1:Value)]).getD k.toNat undef) X9 Kp hS (hf:=by obtain⟨_,_,_,_,rfl,_⟩:=hv3;obtain⟨_,_,_,_,rfl,_⟩:=hv4;obtain⟨_,_,_,_,rfl,_⟩:=hv5;kernel_rfl)) ?_;rintro v6 w ⟨hS,hv6⟩
   replace hS:=hS.n8
   have hsm:SameP nnff1 3 lnff1 (fun _=>2) gnff1 (fun k=> [(fun k=> [2,0].getD k.toNat 0),(fun k=> [1,1].getD k.toNat 0),(fun k=> [0,3].getD k.toNat 0)].getD k.toNat (fun _=>0)) cnff1 (fun _=>1):=SameP.of_plL hvnff1.n0 (by omega) (fun k k0 k1=>(hrnff1 k k0 k1).n0) (fun _ _ _=>by omega) (hl0.trans (by decide+kernel))
   refine zlc (xc0 ZhC) (Zcy (n:=nnff1) (pv:=pnff1) (ln:=lnff1) (pt:=gnff1) (cnt:=cnff1) (n2:=3) (ln2:=fun _=>2) (pt2:=(fun k=> [(fun k=> [2,0].getD k.toNat 0),(fun k=> [1,1].getD k.toNat 0),(fun k=> [0,3].getD k.toNat 0)].getD k.toNat (fun _=>0))) (cnt2:=fun _=>1) w (⟨(hS.rowN 2 rfl),fun k k0 k1=>hS.rowIn 3 rfl k0 k1,fun k k0 k1=>hS.roomIn 3 rfl k0 k1⟩:VAt _ vnff1 nnff1 pnff1 lnff1 gnff1 cnff1) (ZeJ (hS.rowN 7 rfl) (hS.rowN 4 rfl) (hS.rowN 5 rfl) (hS.rowN 6 rfl) (Ent.holds.roomy (hS.holds _ (List.mem_of_getElem? (i:=4) rfl))) (Ent.holds.roomy (hS.holds _ (List.mem_of_getElem? (i:=5) rfl))) (Ent.holds.roomy (hS.holds _ (List.mem_of_getElem? (i:=6) rfl)))) (by omega)) ?_;rintro _ w ⟨rfl,hS'⟩
   replace hS:=hS.cmp hS';clear hS'
   refine zs2 ?_
   refine zx1<|zf1 ⟨_,rfl,?_⟩
   exact⟨(ZU hsm).symm,hS.nl⟩
  iterate 9 refine zlo ?_
  refine zs2 ?_
  refine zx1<|zf1 ⟨_,rfl,?_⟩
  exfalso
  first|omega|exact absurd hsm ‹_›
end Go.Proofs.YtopmifmfecfaaaaGreat
namespace Go.Proofs.YtopmifmfecfaaaaGreat
open Go Go.RowKit Go.Proofs.Gw
structure ExU (p:Prob) (N:Us):Prop where
  pat:∀x∈N,1<=x.2/\TW p x.1
  few:wsum (fun _=>1) N<=psum (fun _=>1) p.D p.m.toNat
  mks:∀j,0<=j->j<p.m->mkU j N=p.D j
theorem FFitR.ex{p:Prob}{N:Us}{e:Int}(hok:p.Ok)(h:FFitR p N e)(he:e=0):ExU p N:=by
  obtain⟨h1,h2,h3⟩:=ZbP hok (fun k k0 k1=>(Ue hok k0 k1).1) (h.2.1 he)
  exact⟨h1,h2,h3⟩
theorem RU(f:List Int->Int):∀{N:Us},(∀x∈N,0<=x.2)->((X8 N).map f).sum=wsum f N
  | [],_=>rfl
  | u ::N,h=>by
    have h1:=RU f (N:=N) fun x hx=>h x (by simp [hx])
    have h2:=h u (by simp)
    unfold X8 at h1⊢
    rw [List.reverse_cons,List.flatMap_append,List.map_append,List.sum_append,h1]
    simp only [List.flatMap_cons,List.flatMap_nil,List.append_nil,List.map_replicate,wsum]
    have h3:∀n:Nat,(List.replicate n (f u.1)).sum=f u.1*n:=fun n=>by
      induction n with
      |zero=>simp
      |succ n ih=>rw [List.replicate_succ,List.sum_cons,ih];push_cast;rw [Int.mul_add];omega
    rw [h3,Int.toNat_of_nonneg h2];omega
theorem Zc0{N:Us}:∀a∈X8 N,∃x∈N,a=x.1:=fun a ha=>by
  unfold X8 at ha
  obtain⟨x,hx,h⟩:=List.mem_flatMap.1 ha
  exact⟨x,List.mem_reverse.1 hx,(List.mem_replicate.1 h).2⟩
theorem Kt{m:Int}{j:Int}(j0:0<=j)(j1:j<m):∀(h:List (List Int)),(∀a∈h,∃f:Int->Int,(∀k,0<=k->k<m->0<=f k)/\a=lst m f)->0<=(h.map fun a=>a.getD j.toNat 0).sum
  | [],_=>by simp
  | a::h,ha=>by
    have h1:=Kt j0 j1 h fun b hb=>ha b (by simp [hb])
    obtain⟨f,hf,rfl⟩:=ha a (by simp)
    have:=hf j j0 j1
    rw [List.map_cons,List.sum_cons,Yz j0 j1];omega
theorem VG {m:Int}:∀(h:List (List Int)) (M:Int->Int) (L:Us),(∀a∈h,∃f:Int->Int,(∀k,0<=k->k<m->0<=f k)/\a=lst m f)->(∀k,0<=k->k<m->0<=M k)->
    (∃M':Int->Int,(h.foldl YY (lst m M,L)).1=lst m M'/\∀j,0<=j->j<m->M' j=max 0 (M j-(h.map fun a=>a.getD j.toNat 0).sum)/\mkU j (h.foldl YY (lst m M,L)).2=mkU j L+(h.map fun a=>a.getD j.toNat 0).sum-(M j-M' j))/\
    ∀x∈(h.foldl YY (lst m M,L)).2,x∈L\/∃(f g:Int->Int),lst m f∈h/\x=(lst m g,1)/\(∀k,0<=k->k<m->0<=g k/\g k<=f k)/\∃k,0<=k/\k<m/\0<g k
  | [],M,L,_,hM=>⟨⟨M,rfl,fun j j0 j1=>by have:=hM j j0 j1;simp only [List.foldl_nil,List.map_nil,List.sum_nil];omega⟩,fun x hx=> .inl hx⟩
  | a :: h, M,L,ha,hM=>by
    obtain⟨f,hf,rfl⟩:=ha a (by simp)
    have e1:tM (lst m f) (lst m M)=lst m fun k=>M k-min (f k) (M k):=YS _ _ _ _
    have e2:tA (lst m f) (lst m M)=lst m fun k=>f k-min (f k) (M k):=YS _ _ _ _
    have hM1:∀k,0<=k->k<m->0<=M k-min (f k) (M k):=fun k k0 k1=>by omega
    have ha1:∀a∈h,∃f:Int->Int,(∀k,0<=k->k<m->0<=f k)/\a=lst m f:=fun b hb=>ha b (by simp [hb])
    rw [List.foldl_cons]
    by_cases hn:(lst m fun k=>f k-min (f k) (M k)).any (fun x=>decide (0<x))=true
    · have e:YY (lst m M,L) (lst m f)=(lst m fun k=>M k-min (f k) (M k),L++ [(lst m fun k=>f k-min (f k) (M k),1)]):=by
        unfold YY;dsimp only;rw [e1,e2,if_pos hn]
      rw [e]
      obtain⟨⟨M',h1,h2⟩,h3⟩:=VG h (fun k=>M k-min (f k) (M k)) (L++ [(lst m fun k=>f k-min (f k) (M k),1)]) ha1 hM1
      refine⟨⟨M',h1,fun j j0 j1=> ?_⟩,fun x hx=> ?_⟩
      · obtain⟨g1,g2⟩:=h2 j j0 j1
        rw [List.map_cons,List.sum_cons,Yz j0 j1]
        have g3:mkU j (L++ [(lst m fun k=>f k-min (f k) (M k),1)])=mkU j L+(f j-min (f j) (M j)):=by
          unfold mkU;rw [Yj];simp only [wsum];rw [Yz j0 j1];omega
        rw [g3] at g2
        have:=hf j j0 j1;have:=hM j j0 j1;have:=Kt j0 j1 h ha1
        omega
      · rcases h3 x hx with h4|⟨f',g,h4,h5⟩
        · rcases List.mem_append.1 h4 with h4|h4
          · exact .inl h4
          · obtain⟨k,k0,k1,hk⟩:=WR.1 hn
            exact .inr ⟨f,_,by simp,by simpa using h4,fun k k0 k1=>by have:=hf k k0 k1;have:=hM k k0 k1;omega,k,k0,k1,hk⟩
        · exact .inr ⟨f',g,by simp [h4],h5⟩
    · have e:YY (lst m M,L) (lst m f)=(lst m fun k=>M k-min (f k) (M k),L):=by
        unfold YY;dsimp only;rw [e1,e2,if_neg hn]
      rw [e]
      obtain⟨⟨M',h1,h2⟩,h3⟩:=VG h (fun k=>M k-min (f k) (M k)) L ha1 hM1
      refine⟨⟨M',h1,fun j j0 j1=> ?_⟩,fun x hx=> ?_⟩
      · obtain⟨g1,g2⟩:=h2 j j0 j1
        rw [List.map_cons,List.sum_cons,Yz j0 j1]
        have hz:¬0<f j-min (f j) (M j):=fun hh=>hn (WR.2 ⟨j,j0,j1,hh⟩)
        have:=hf j j0 j1;have:=hM j j0 j1;have:=Kt j0 j1 h ha1
        omega
      · rcases h3 x hx with h4|⟨f',g,h4,h5⟩
        · exact .inl h4
        · exact .inr ⟨f',g,by simp [h4],h5⟩
theorem UH(d:Int->Int):∀n:Nat,psum (fun k=>d k) (fun _=>1) n=psum (fun _=>1) d n
  |0=>rfl
  |n+1=>by simp only [psum];rw [UH d n];omega
theorem TZ(f g:List Int->Int):∀L:Us,wsum (fun l=>f l+g l) L=wsum f L+wsum g L
  | []=>rfl
  |x::L=>by simp only [wsum];rw [TZ f g L,Int.add_mul];omega
theorem Ur:∀L:Us,wsum (fun _=>0) L=0
  | []=>rfl
  |x::L=>by simp only [wsum];rw [Ur L];omega
theorem KJ(L:Us):∀n:Nat,wsum (fun l=>psum (fun k=>l.getD k.toNat 0) (fun _=>1) n) L=psum (fun k=>mkU k L) (fun _=>1) n
  |0=>Ur L
  | n +1=>by
    have h:=TZ (fun l=>psum (fun k=>l.getD k.toNat 0) (fun _=>1) n) (fun l=>l.getD n 0) L
    simp only [psum]
    rw [KJ L n] at h
    have e:(fun l:List Int=>psum (fun k=>l.getD k.toNat 0) (fun _=>1) n+l.getD (n:Int).toNat 0*1)=fun l=>psum (fun k=>l.getD k.toNat 0) (fun _=>1) n+l.getD n 0:=by
      funext l;rw [Int.toNat_natCast];omega
    rw [e,h]
    unfold mkU
    rw [Int.toNat_natCast];omega
theorem ZbQ{p:Prob}{n:Int}{f g:Int->Int}(h:FitsP p n f)(hn:n=p.m)(hg:∀k,0<=k->k<p.m->0<=g k/\g k<=f k):FitsP p p.m g:=by
  refine⟨h.ok,rfl,fun i i0 i1=>by have:=h.all i i0 i1;have:=hg i i0 i1;omega,Int.le_trans (Yc fun i i0 i1=> ?_) h.used⟩
  have hm:=h.ok.m1
  have h1:=hg i i0 (by omega)
  have h2:=h.ok.all i i0 (by omega)
  unfold Prob.each at h2
  exact Int.mul_le_mul_of_nonneg_right h1.2 (by have:=h.ok.k1;omega)
theorem TrimR.ex {p:Prob} {u e:Int} {ln cnt:Int->Int} {pt:Int->Int->Int} {out:Us} (h:TrimR p u ln pt cnt out e) (he:e=0) (u0:0<=u):ExU p out:=by
  rcases h with⟨_,_,h⟩|⟨_,_,_,h⟩|⟨h1,h2,_,N,hN,hO⟩
  · omega
  · omega
  · have hok:=h1.1
    have hm:=hok.m1
    have hpos:=fun x hx=>hN.pos (Rf h1) x hx
    have hfitN:∀x∈N,TW p x.1:=fun x hx=>by
      obtain⟨y,hy,ey⟩:=hN.keys x hx
      rw [<-ey];exact(VR h1 y hy).2
    have hbar:∀a∈X8 N,TW p a:=fun a ha=>by
      obtain⟨x,hx,rfl⟩:=Zc0 a ha
      exact hfitN x hx
    have hmade:∀j,0<=j->j<p.m->ZC u pt cnt j=((X8 N).map fun a=>a.getD j.toNat 0).sum:=fun j j0 j1=>by
      rw [RU _ fun x hx=>by have:=hpos x hx;omega,h1.mk u0 j0 j1]
      exact(hN.wsum _).symm
    obtain⟨⟨M',_,hc⟩,hmem⟩:=VG (m:=p.m) (X8 N) (fun j=>ZC u pt cnt j-p.D j) [] (fun a ha=>by
      obtain⟨f,hf,rfl⟩:=hbar a ha
      exact⟨f,fun k k0 k1=>(hf.all k k0 k1).1,rfl⟩) fun k k0 k1=>by have:=h2 k k0 k1;omega
    have hT:∀x∈(Wn (lst p.m fun j=>ZC u pt cnt j-p.D j) (X8 N)).2,1<=x.2/\TW p x.1/\(∀k,0<=k->k<p.m->0<=x.1.getD k.toNat 0)/\∃k,0<=k/\k<p.m/\0<x.1.getD k.toNat 0:=fun x hx=>by
      rcases hmem x hx with h|⟨f,g,hf,rfl,hg,k,k0,k1,hk⟩
      · cases h
      · obtain⟨f',hf',ef⟩:=hbar _ hf
        have e1:=((Wg (by omega) (by omega)).1 ef).2
        refine⟨Int.le_refl _,⟨g,ZbQ hf' rfl fun k k0 k1=>by have:=hg k k0 k1;rw [<-e1 k k0 k1];exact this,rfl⟩,fun k k0 k1=> ?_,k,k0,k1,?_⟩
        · dsimp only;rw [Yz k0 k1];exact(hg k k0 k1).1
        · dsimp only;rw [Yz k0 k1];exact hk
    have hmk:∀j,0<=j->j<p.m->mkU j (Wn (lst p.m fun j=>ZC u pt cnt j-p.D j) (X8 N)).2=p.D j:=fun j j0 j1=>by
      obtain⟨g1,g2⟩:=hc j j0 j1
      rw [<-hmade j j0 j1] at g1 g2
      have g3:mkU j ([]:Us)=0:=rfl
      have hd:=(Ue hok j0 j1).1
      unfold Wn
      have:=h2 j j0 j1
      omega
    refine⟨fun x hx=>⟨hO.pos (fun y hy=>(hT y hy).1) x hx,?_⟩,?_,fun j j0 j1=> ?_⟩
    · obtain⟨y,hy,ey⟩:=hO.keys x hx
      rw [<-ey];exact(hT y hy).2.1
    · rw [hO.wsum]
      refine Int.le_trans (KK (g:=fun l=>psum (fun k=>l.getD k.toNat 0) (fun _=>1) p.m.toNat) (fun x hx=>by have:=(hT x hx).1;omega) fun x hx=> ?_) ?_
      · obtain⟨_,_,h3,k,k0,k1,hk⟩:=hT x hx
        have h4:=Xo (d:=fun _=>1) (f:=fun k=>x.1.getD k.toNat 0) (i:=(k+1).toNat) (n:=p.m.toNat) (by omega) fun q hq=>by have:=h3 q (by omega) (by omega);omega
        rw [Yu _ _ k0] at h4
        have h5:=Xo (d:=fun _=>1) (f:=fun k=>x.1.getD k.toNat 0) (i:=0) (n:=k.toNat) (by omega) fun q hq=>by have:=h3 q (by omega) (by omega);omega
        have h6:psum (fun k=>x.1.getD k.toNat 0) (fun _=>1) 0=0:=rfl
        omega
      · rw [KJ,<-UH]
        refine Int.le_of_eq (XC fun k hk=>⟨hmk k (by omega) (by omega),rfl⟩)
    · unfold mkU;rw [hO.wsum];exact hmk j j0 j1
theorem Tu(pt:Int->Int->Int)(cnt:Int->Int)(j:Int):∀n:Nat,Uk pt cnt n j=psum (fun k=>pt k j) cnt n
  |0=>rfl
  | n+1=>by
    have:=ZY (fun i=>pt i j*cnt i) (i:=(n:Int)) (by omega)
    rw [show((n:Int)+1).toNat=n+1 by omega,Int.toNat_natCast] at this
    unfold Uk
    rw [this]
    have h:=Tu pt cnt j n
    unfold Uk at h
    rw [h];rfl
theorem ExU.sound{p:Prob}{n:Int}{ln cnt:Int->Int}{pt:Int->Int->Int}(h:ExU p (plL n ln pt cnt))(hok:p.Ok)(ht:psum (fun _=>1) p.D p.m.toNat<=1000)(n0:0<=n):SoundP p n ln pt cnt/\∀j,0<=j->j<p.m->Uk pt cnt n.toNat j=p.D j:=by
  obtain⟨h1,h2⟩:=Zcb (L:=plL n ln pt cnt) fun x hx=>(h.pat x hx).1
  have h3:=h.few
  rw [plL_len] at h1
  have hP:PlanOk p n ln pt cnt:=WB hok (by omega) fun x hx=>⟨⟨(h.pat x hx).1,by have:=h2 x hx;omega⟩,(h.pat x hx).2⟩
  refine⟨⟨hok,by omega,fun i i0 i1=> ?_⟩,fun j j0 j1=> ?_⟩
  · obtain⟨g1,g2,g3⟩:=hP.2.2 i i0 i1
    exact⟨g3,g1,g2⟩
  · rw [Tu]
    have:=hP.mk n0 j0 j1
    unfold ZC at this
    rw [this];exact h.mks j j0 j1
theorem DownR.ex{p:Prob}{u:Int}{ml:Int->Int}{mf:Int->Int->Int}{s:So}{out:Us}{e:Int}(h:DownR p u ml mf s out e)(he:e=0):ExU p out:=by
  rcases h with⟨h,_⟩|⟨n1,ln1,pt1,cnt1,n2,ln2,pt2,cnt2,hw,n10,n20,hN,hT⟩
  · exact absurd he h
  · exact hT.ex he (by omega)
theorem UpR.ex{p:Prob}{u:Int}{ml:Int->Int}{mf:Int->Int->Int}{s:So}{out:Us}{e:Int}(h:UpR p u ml mf s out e)(he:e=0):ExU p out:=by
  rcases h with⟨h,_⟩|⟨n1,ln1,pt1,cnt1,t,n,ln,pt,cnt,hw,n10,n0,hp,_,hU,hT⟩
  · exact absurd he h
  · exact hT.ex he n0
theorem WholeR.bad{p:Prob}{u n:Int}{ml ln cnt:Int->Int}{mf pt:Int->Int->Int}{s:So}{e:Int}(h:WholeR p u ml mf s n ln pt cnt e)(hn:¬Vf p u ml mf s):e=1:=by
  rcases h with⟨_,_,h⟩|⟨_,h,_⟩|⟨_,h,_⟩
  · exact h
  · exact absurd h hn
  · exact absurd h hn
theorem DownR.bad{p:Prob}{u:Int}{ml:Int->Int}{mf:Int->Int->Int}{s:So}{out:Us}{e:Int}(h:DownR p u ml mf s out e)(hn:¬Vf p u ml mf s):e=1/\out= []:=by
  rcases h with⟨_,h1,_,_,_,_,h2⟩|⟨n1,ln1,pt1,cnt1,n2,ln2,pt2,cnt2,hw,_⟩
  · exact⟨h2.bad hn,h1⟩
  · have:=hw.bad hn;omega
theorem UpR.bad{p:Prob}{u:Int}{ml:Int->Int}{mf:Int->Int->Int}{s:So}{out:Us}{e:Int}(h:UpR p u ml mf s out e)(hn:¬Vf p u ml mf s):e=1/\out= []:=by
  rcases h with⟨_,h1,_,_,_,_,h2⟩|⟨n1,ln1,pt1,cnt1,t,n,ln,pt,cnt,hw,_⟩
  · exact⟨h2.bad hn,h1⟩
  · have:=hw.bad hn;omega
end Go.Proofs.YtopmifmfecfaaaaGreat
namespace Go.Proofs.YtopmifmfecfaaaaGreat
open Go Go.RowKit Go.Proofs.Gw
theorem cl_36:Zb Tryz.prog 36=true:=by kernel_rfl
theorem Zg7:ZP Tryz.prog 64=some (.nilFunc,1,8):=by kernel_rfl
theorem ZgT:ZN Tryz.prog 64=true:=by kernel_rfl
theorem Kb:ZB Tryz.prog 104=some (64,1):=by kernel_rfl
def Xr(b x:Us)(e:Int):Us:=if e=0/\wsum (fun _=>1) x<wsum (fun _=>1) b then x else b
def Zc7(i:Int)(p:Prob)(u:Int)(ml:Int->Int)(mf:Int->Int->Int)(s:So)(out:Us)(e:Int):Prop:=if i=0 then DownR p u ml mf s out e else UpR p u ml mf s out e
def BRun(p:Prob)(u:Int)(ml:Int->Int)(mf:Int->Int->Int)(s:So)(l:Us)(i:Int)(cur:Us):Prop:=
  (i=0/\cur=l)\/(i=1/\∃x e,DownR p u ml mf s x e/\cur=Xr l x e)\/(i=2/\∃x e y f,DownR p u ml mf s x e/\UpR p u ml mf s y f/\cur=Xr (Xr l x e) y f)
theorem BRun.next{p:Prob}{u:Int}{ml:Int->Int}{mf:Int->Int->Int}{s:So}{l cur x:Us}{i e:Int}(h:BRun p u ml mf s l i cur)(i2:i<2)(hx:Zc7 i p u ml mf s x e):BRun p u ml mf s l (i+1) (Xr cur x e):=by
  unfold Zc7 at hx
  rcases h with⟨rfl,rfl⟩|⟨rfl,y,f,h1,rfl⟩|⟨h,_⟩
  · exact .inr (.inl ⟨rfl,x,e,by simpa using hx,rfl⟩)
  · exact .inr (.inr ⟨rfl,y,f,x,e,h1,by simpa using hx,rfl⟩)
  · omega
def BestR(p:Prob)(out:Us)(e:Int):Prop:=
  (e≠0/\FFitR p [] e/\out= [])\/(e=0/\∃l,FFitR p l 0/\∃u ml mf s ec,0<=u/\ColR p u ml mf s ec/\((ec≠0/\out=l)\/(ec=0/\BRun p u ml mf s l 2 out)))
theorem ColR.n60{p:Prob}{u:Int}{ml:Int->Int}{mf:Int->Int->Int}{s:So}{e:Int}(h:ColR p u ml mf s e)(he:e=0)(u0:0<=u):u<=60/\s.n<=60:=by
  have hk:=(h.okS u0 he).1.n
  rcases h with⟨_,_,_,h⟩|⟨_,h,_⟩|⟨_,_,_,h1,_⟩
  · omega
  · exact absurd he h
  · have:=h1.few.2.1;omega
theorem Zfl(i:Int):Zb Tryz.prog (if i=0 then 33 else 35)=true:=by split<;>kernel_rfl
theorem ZhJ(i:Int){vL vD:Value}{p:Prob}{vM:Value}{u:Int}{mv:Int->Value}{ml:Int->Int}{mf:Int->Int->Int}{vX vY:Value}{s:So}(w0:World)(h:PAt w0 vL vD p)(hM:MAt w0 vM u mv ml mf)(hX:Row w0 vX 1 s.n (ints s.X))(hY:Row w0 vY 1 s.m (ints s.Y))(hn60:s.n<=1000):
    Calls Tryz.prog (if i=0 then 33 else 35) [.agg #[vL,vD,.int .i64 p.stock,.int .i64 p.kerf],.agg #[vM,vX,vY,.int .i64 s.val,.int .i64 s.den]].toArray w0 fun e w=>∃v,e= .returned v/\∃r n pv ln pt cnt e,v= .tuple #[r,.int .i64 e]/\Zc7 i p u ml mf s (plL n ln pt cnt) e/\(∀k,0<=k->k<n->1<=cnt k/\cnt k<=1000000000)/\n<=1000000/\Slh r n/\Sat w0 w [.own r 2 111 n (Zc pv cnt),.sem (Frame.rows 3 n pv ln pt)]:=by
  by_cases hi:i=0
  · rw [if_pos hi]
    refine(ZgC w0 h hM hX hY hn60).mono fun e w he=> ?_
    unfold Zc7;simp only [if_pos hi];exact he
  · rw [if_neg hi]
    refine(Zh6 w0 h hM hX hY hn60).mono fun e w he=> ?_
    unfold Zc7;simp only [if_neg hi];exact he
set_option maxHeartbeats 4000000 in
set_option maxRecDepth 20000 in
theorem ZgH{vL vD:Value}{p:Prob}(w0:World)(h:PAt w0 vL vD p):
    Calls Tryz.prog 31 [.agg #[vL,vD,.int .i64 p.stock,.int .i64 p.kerf]].toArray w0 fun e w=>∃v,e= .returned v/\∃r n pv ln pt cnt e,v= .tuple #[r,.int .i64 e]/\BestR p (plL n ln pt cnt) e/\(∀k,0<=k->k<n->1<=cnt k/\cnt k<=1000000000)/\n<=1000000/\Slh r n/\Sat w0 w [.own r 2 111 n (Zc pv cnt),.sem (Frame.rows 3 n pv ln pt)]:=by
  have hm:=h.L.slh.n0;have hm1:=h.L.slh.n1;have hd:=h.D.slh.n0;have hd1:=h.D.slh.n1;have hs:=h.is;have hk:=h.ik
  refine Zj Tryz.func31 Tryz.ntmps31 fun w hS=> ?_
  refine zsr ?_
  refine zla (xbx (cs:= [_,_,_,_]) hS) ?_;rintro _ w ⟨g1,rfl,hS⟩
  replace hS:=hS.n1
  refine zs2 ?_
  refine zlz ?_
  refine zlv (xls 0 st_35 hS) ?_
  refine zlc (xc0 Zce) (KF (p:=p) w (h.below hS.below)) ?_;rintro _ w ⟨vnff1,nnff1,pnff1,lnff1,gnff1,cnff1,enff1,rfl,hffff1,hfcff1,hfnff1,hvnff1,hS'⟩
  replace hS:Sat w0 w [.blk g1 [vL,vD,.int .i64 p.stock,.int .i64 p.kerf],.own vnff1 2 111 nnff1 (Zc pnff1 cnff1),.sem (Frame.rows 3 nnff1 pnff1 lnff1 gnff1)]:=hS.comp hS';clear hS'
  have hrnff1:=fun k (k0:0<=k) (k1:k<nnff1)=>hS.slhIn 2 rfl k0 k1
  refine zs5 ?_
  refine zx5 ?_
  refine zs2 ?_
  refine zlt ?_
  refine zcif ?_ ?_<;>intro hc
  ·
   refine zsr ?_
   refine zs3 ?_
   refine zx14<|zf2 ⟨_,rfl,?_⟩
   exact⟨_,0,fun _=>undef,fun _=>0,fun _ _=>0,fun _=>0,_,rfl,.inl ⟨by omega,(by rw [<-hffff1.2.2 (by omega)];exact hffff1),rfl⟩,fun k k0 k1=>by omega,by omega,slh_nil,((hS.sub (.cons _ (.cons _ (.cons _ .slnil)))).addnil 2 111 (Zc (fun _=>undef) (fun _=>0))).addrows 3 (fun _=>undef) (fun _=>0) (fun _ _=>0)⟩
  refine ZR ?_
  refine zlv (xls 0 st_35 hS) ?_
  refine zlc (xc0 ZhG) (ZcV (p:=p) w (h.below hS.below)) ?_;rintro _ w ⟨vPcs1,vvcs1,vXcs1,vYcs1,ucs1,mlcs1,mfcs1,scs1,ecs1,rfl,hcocs1,hvPcs1,hvXcs1,hvYcs1,hS'⟩
  replace hS:Sat w0 w [.blk g1 [vL,vD,.int .i64 p.stock,.int .i64 p.kerf],.own vnff1 2 111 nnff1 (Zc pnff1 cnff1),.sem (Frame.rows 3 nnff1 pnff1 lnff1 gnff1),.own vPcs1 1 22 ucs1 vvcs1,.sem (Frame.rows 3 ucs1 vvcs1 mlcs1 mfcs1),.own vXcs1 1 3 scs1.n (ints scs1.X),.own vYcs1 1 3 scs1.m (ints scs1.Y)]:=hS.comp hS';clear hS'
  have hrwcs1:=fun k (k0:0<=k) (k1:k<ucs1)=>hS.slhIn 4 rfl k0 k1
  refine zs3 ?_
  refine zla (xal (cs:= [_,_,_,_,_]) Zet hS) ?_;rintro _ w ⟨g2,rfl,hS⟩
  replace hS:=hS.n8
  refine zle (xsw 7 XH hS (hd:=(Za hvPcs1.one (Za hvXcs1.one (Za hvYcs1.one (Za rfl (Za rfl Zd))))))) ?_;clear hS;rintro w hS
  replace hS:=hS.n8
  refine zlv xas ?_
  refine zx5 ?_
  refine zs2 ?_
  refine zlt ?_
  refine zcif ?_ ?_<;>intro hc
  ·
   refine zsr ?_
   refine zs3 ?_
   refine zx14<|zf2 ⟨_,rfl,?_⟩
   exact⟨_,_,_,_,_,_,0,rfl,.inr ⟨rfl,_,(by rw [show(0:Int)=enff1 by omega];exact hffff1),_,_,_,_,_,hvPcs1.n0,hcocs1,.inl ⟨by omega,rfl⟩⟩,fun k k0 k1=>by have:=hfcff1 k k0 k1;omega,by omega,hvnff1,hS.pk [1,2]⟩
  refine YR ?_
  refine zla (xli (n:=2) (len:=2) (pv:= [(0,.func (.func 33) #[] #[]),(1,.func (.func 35) #[] #[])]) (cs:= [.func (.func 33) #[] #[],.func (.func 35) #[] #[]]) (c:=(fun k=>Value.func (.func (if k=0 then 33 else 35)) #[] #[])) Kb Zg7 hS) ?_;rintro v1 w ⟨hS,hv1⟩
  replace hS:=hS.n9
  refine zlv (xln Kb hv1) ?_
  refine zlv xmv ?_
  refine zx6<|zlp (fun mm M w=>∃(nC:Int) (wv:Int->Value) (lC:Int->Int) (gC:Int->Int->Int) (cC:Int->Int) (i:Int) (wC:Value),mm=((2-i).toNat)/\(0<=i)/\(i<=2)/\(∀k,0<=k->k<nC->1<=cC k/\cC k<=1000000000)/\(nC<=1000000)/\(BRun p ucs1 mlcs1 mfcs1 scs1 (plL nnff1 lnff1 gnff1 cnff1) i (plL nC lC gC cC))/\(Slh wC nC)/\M= [(1,.pointer (some ⟨g1,0,none⟩)),(2,.slice none 0 0),(3,.int .i64 0),(4,wC),(6,.pointer (some ⟨g2,0,none⟩)),(27,v1),(28,.int .i64 2),(29,.int .i64 i)]/\Sat w0 w [.blk g1 [vL,vD,.int .i64 p.stock,.int .i64 p.kerf],.own wC 2 111 nC (Zc wv cC),.sem (Frame.rows 3 nC wv lC gC),.own vPcs1 1 22 ucs1 vvcs1,.sem (Frame.rows 3 ucs1 vvcs1 mlcs1 mfcs1),.own vXcs1 1 3 scs1.n (ints scs1.X),.own vYcs1 1 3 scs1.m (ints scs1.Y),.blk g2 [vPcs1,vXcs1,vYcs1,.int .i64 scs1.val,.int .i64 scs1.den],.own v1 1 64 2 (fun k=>Value.func (.func (if k=0 then 33 else 35)) #[] #[])]) ⟨nnff1,pnff1,lnff1,gnff1,cnff1,0,vnff1,rfl,(by omega),(by omega),?_,(by omega),?_,?_,rfl,hS⟩ ?_
  ·
   intro k k0 k1;have:=hfcff1 k k0 k1;omega
  ·
   exact .inl ⟨rfl,rfl⟩
  ·
   exact hvnff1
  clear hS w
  rintro mm M w ⟨nC,wv,lC,gC,cC,i,wC,rfl,i0,i1,hcB,hnB,hBR,hwC,rfl,hS⟩
  have hrs1:=fun k (k0:0<=k) (k1:k<nC)=>hS.slhIn 2 rfl k0 k1
  obtain⟨hu60,hsn60⟩:=hcocs1.n60 (by omega) hvPcs1.n0
  refine zsr ?_
  refine zlv xlss ?_
  refine zx7 ?_
  refine zcif ?_ ?_<;>intro hc
  ·
   refine zx3 ?_
   refine zlv (xix (kk:=i) Kb hv1) ?_
   refine zlv (xlr (u:= .func (.func (if i=0 then 33 else 35)) #[] #[]) ZgT (hS.rowN 8 rfl)) ?_
   refine zlv xas ?_
   refine zlz ?_
   refine zlv xmv ?_
   refine zlv (xls 0 st_35 hS) ?_
   refine zlv (xls 7 XH hS) ?_
   refine zlc (xc0 (Zfl i)) (ZhJ i (p:=p) (u:=ucs1) (ml:=mlcs1) (mf:=mfcs1) (s:=scs1) w (h.below hS.below) (⟨(hS.rowN 3 rfl),fun k k0 k1=>hS.rowIn 4 rfl k0 k1,fun k k0 k1=>hS.roomIn 4 rfl k0 k1⟩:MAt _ vPcs1 ucs1 vvcs1 mlcs1 mfcs1) (hS.rowN 5 rfl) (hS.rowN 6 rfl) (by omega)) ?_;rintro _ w ⟨vnrd1,nnrd1,pnrd1,lnrd1,gnrd1,cnrd1,enrd1,rfl,hrrrd1,hcrd1,hnrd1,hvnrd1,hS'⟩
   replace hS:Sat w0 w [.blk g1 [vL,vD,.int .i64 p.stock,.int .i64 p.kerf],.own wC 2 111 nC (Zc wv cC),.sem (Frame.rows 3 nC wv lC gC),.own vPcs1 1 22 ucs1 vvcs1,.sem (Frame.rows 3 ucs1 vvcs1 mlcs1 mfcs1),.own vXcs1 1 3 scs1.n (ints scs1.X),.own vYcs1 1 3 scs1.m (ints scs1.Y),.blk g2 [vPcs1,vXcs1,vYcs1,.int .i64 scs1.val,.int .i64 scs1.den],.own v1 1 64 2 (fun k=>Value.func (.func (if k=0 then 33 else 35)) #[] #[]),.own vnrd1 2 111 nnrd1 (Zc pnrd1 cnrd1),.sem (Frame.rows 3 nnrd1 pnrd1 lnrd1 gnrd1)]:=hS.comp hS';clear hS'
   have hrnrd1:=fun k (k0:0<=k) (k1:k<nnrd1)=>hS.slhIn 10 rfl k0 k1
   refine zs5 ?_
   refine zlz ?_
   refine zs3 ?_
   refine zlb 42 ?_ ?_<;>intro hc
   ·
    refine zlv xmv ?_
    refine zlc (xc0 cl_36) (c_pbars (u:=nnrd1) (pv:=pnrd1) (ln:=lnrd1) (pt:=gnrd1) (cnt:=cnrd1) w (⟨(hS.rowN 9 rfl),fun k k0 k1=>hS.rowIn 10 rfl k0 k1,fun k k0 k1=>hS.roomIn 10 rfl k0 k1⟩:VAt _ vnrd1 nnrd1 pnrd1 lnrd1 gnrd1 cnrd1) (by omega) (fun k k0 k1=>by first|(have h8:=hcB k k0 k1;omega)|(have h8:=hcrd1 k k0 k1;omega))) ?_;rintro _ w ⟨rfl,hS'⟩
    replace hS:=hS.cmp hS';clear hS'
    refine zlv xmv ?_
    refine zlc (xc0 cl_36) (c_pbars (u:=nC) (pv:=wv) (ln:=lC) (pt:=gC) (cnt:=cC) w (⟨(hS.rowN 1 rfl),fun k k0 k1=>hS.rowIn 2 rfl k0 k1,fun k k0 k1=>hS.roomIn 2 rfl k0 k1⟩:VAt _ wC nC wv lC gC cC) (by omega) (fun k k0 k1=>by first|(have h8:=hcB k k0 k1;omega)|(have h8:=hcrd1 k k0 k1;omega))) ?_;rintro _ w ⟨rfl,hS'⟩
    replace hS:=hS.cmp hS';clear hS'
    refine zs2 ?_
    refine zlt ?_
    refine zcif ?_ ?_<;>intro hc
    ·
     refine zrg ?_
     refine zs2 ?_
     refine zx10 ?_
     refine zlv (xadd (r:=i+1)) ?_
     refine zlv xmv ?_
     refine zln<|zlq ⟨nnrd1,pnrd1,lnrd1,gnrd1,cnrd1,i+1,vnrd1,rfl,(by omega),(by omega),?_,(by omega),?_,?_,rfl,hS.pk [0,9,10,3,4,5,6,7,8]⟩
     ·
      first|exact hcB|exact hcrd1
     ·
      have hnx:=hBR.next (by omega) hrrrd1
      unfold Xr at hnx
      rw [ZV _ hvnrd1.n0,ZV _ hwC.n0] at hnx
      first|(rw [if_pos ⟨by omega,by assumption⟩] at hnx;exact hnx)|(rw [if_neg (by first|(intro hh;exact absurd hh.1 (by omega))|(intro hh;exact absurd hh.2 (by assumption))|(rintro⟨q1,q2⟩;omega))] at hnx;exact hnx)
     ·
      exact hvnrd1
    refine zx4 ?_
    refine zlv (xadd (r:=i+1)) ?_
    refine zlv xmv ?_
    refine zln<|zlq ⟨nC,wv,lC,gC,cC,i+1,wC,rfl,(by omega),(by omega),?_,(by omega),?_,?_,rfl,hS.pk [0,1,2,3,4,5,6,7,8]⟩
    ·
     first|exact hcB|exact hcrd1
    ·
     have hnx:=hBR.next (by omega) hrrrd1
     unfold Xr at hnx
     rw [ZV _ hvnrd1.n0,ZV _ hwC.n0] at hnx
     first|(rw [if_pos ⟨by omega,by assumption⟩] at hnx;exact hnx)|(rw [if_neg (by first|(intro hh;exact absurd hh.1 (by omega))|(intro hh;exact absurd hh.2 (by assumption))|(rintro⟨q1,q2⟩;omega))] at hnx;exact hnx)
    ·
     exact hwC
   iterate 5 refine zlo ?_
   refine zlv xpf ?_
   refine zlt<|zcf<|zsk<|zbn<|ztn<|zrg ?_
   refine zlv (xadd (r:=i+1)) ?_
   refine zlv xmv ?_
   refine zln<|zlq ⟨nC,wv,lC,gC,cC,i+1,wC,rfl,(by omega),(by omega),?_,(by omega),?_,?_,rfl,hS.pk [0,1,2,3,4,5,6,7,8]⟩
   ·
    first|exact hcB|exact hcrd1
   ·
    have hnx:=hBR.next (by omega) hrrrd1
    unfold Xr at hnx
    rw [ZV _ hvnrd1.n0,ZV _ hwC.n0] at hnx
    first|(rw [if_pos ⟨by omega,by assumption⟩] at hnx;exact hnx)|(rw [if_neg (by first|(intro hh;exact absurd hh.1 (by omega))|(intro hh;exact absurd hh.2 (by assumption))|(rintro⟨q1,q2⟩;omega))] at hnx;exact hnx)
   ·
    exact hwC
  refine zx8 ?_
  refine zs3 ?_
  refine zx1<|zf2 ⟨_,rfl,?_⟩
  exact⟨_,_,_,_,_,_,0,rfl,.inr ⟨rfl,_,(by rw [show(0:Int)=enff1 by omega];exact hffff1),_,_,_,_,_,hvPcs1.n0,hcocs1,.inr ⟨by omega,by rw [show(2:Int)=i by omega];exact hBR⟩⟩,hcB,by omega,hwC,hS.pk [1,2]⟩
end Go.Proofs.YtopmifmfecfaaaaGreat
namespace Go.Proofs.YtopmifmfecfaaaaGreat
open Go Go.RowKit Go.Proofs.Gw
theorem ExU.rng{p:Prob}{n:Int}{ln cnt:Int->Int}{pt:Int->Int->Int}(h:SoundP p n ln pt cnt):∀i,0<=i->i<n->(-9223372036854775808<=cnt i/\cnt i<=9223372036854775807)/\∀k,0<=k->k<ln i-> -9223372036854775808<=pt i k/\pt i k<=9223372036854775807:=fun i i0 i1=>by
  obtain⟨h1,h2,h3⟩:=h.all i i0 i1
  refine⟨by omega,fun k k0 k1=> ?_⟩
  have:=h1.all k k0 (by have:=h1.eq;omega)
  omega
end Go.Proofs.YtopmifmfecfaaaaGreat
namespace Go.Proofs.YtopmifmfecfaaaaGreat
open Go Go.RowKit Go.Proofs.Gw
theorem cl_28:Zb Tryz.prog 28=true:=by kernel_rfl
theorem ZhE:Zb Tryz.prog 31=true:=by kernel_rfl
theorem Rk{p:Prob}{b x:Us}{e:Int}(hb:ExU p b)(hx:e=0->ExU p x):ExU p (Xr b x e):=by
  unfold Xr
  by_cases h:e=0/\wsum (fun _=>1) x<wsum (fun _=>1) b
  · rw [if_pos h];exact hx h.1
  · rw [if_neg h];exact hb
theorem BestR.ok{p:Prob}{out:Us}{e:Int}(hok:p.Ok)(hf:WT p)(h:BestR p out e):e=0/\ExU p out:=by
  rcases h with⟨h1,h2,_⟩|⟨h1,l,h2,u,ml,mf,s,ec,u0,hc,h3⟩
  · exact absurd (Vy hok hf h2.1) h1
  · refine⟨h1,?_⟩
    have hl:=h2.ex hok rfl
    rcases h3 with⟨_,rfl⟩|⟨_,h3⟩
    · exact hl
    · rcases h3 with⟨h4,_⟩|⟨h4,_⟩|⟨_,x,f,y,g,hx,hy,rfl⟩
      · omega
      · omega
      · exact Rk (Rk hl hx.ex) hy.ex
end Go.Proofs.YtopmifmfecfaaaaGreat
namespace Go.Proofs.YtopmifmfecfaaaaGreat
open Go Go.RowKit Go.Proofs.Gw
theorem ZhD:Zb Tryz.prog 37=true:=by kernel_rfl
theorem Wf(c:Int->Int):∀n:Nat,psum (fun _=>1) c n=Ze c n
  |0=>rfl
  | n+1=>by
    have:=ZY c (i:=(n:Int)) (by omega)
    rw [show((n:Int)+1).toNat=n+1 by omega,Int.toNat_natCast] at this
    rw [this,psum,Wf c n];omega
theorem MOk.price{p:Prob}{u:Int}{ml:Int->Int}{mf:Int->Int->Int}{s:So}(h:MOk p u ml mf s)(hw:WC p s.Y<=s.den){k:Int}(k0:0<=k)(k1:k<p.m):p.D k*s.Y k<=p.D k*s.den:=by
  have hok:=h.pats.1
  have hd:=Xn hok k0 k1
  rcases Int.lt_or_eq_of_le hd.1 with hp|hp
  · obtain⟨h1,h2⟩:=Rm hok k0 k1
    obtain⟨h3,h4⟩:=XY h1
    have h5:=R7 hok (y:=s.Y) h3 h4
    have h6:=KY (x:=fun i=>Xc p k i*s.Y i) k0 (by omega:k<(p.m.toNat:Int)) fun j _ _ e=>by
      show Xc p k j*_=0
      rw [show Xc p k j=0 from if_neg e,Int.zero_mul]
    rw [h6] at h5
    have h7:=h2 hp
    have h8:=(h.Y k k0 k1).1
    have h9:=Int.mul_le_mul_of_nonneg_right h7 h8
    exact Int.mul_le_mul_of_nonneg_left (by omega) hd.1
  · rw [<-hp];omega
theorem MOk.val_le{p:Prob}{u:Int}{ml:Int->Int}{mf:Int->Int->Int}{s:So}(h:MOk p u ml mf s)(hw:WC p s.Y<=s.den):s.val<=psum (fun _=>1) p.D p.m.toNat*s.den:=by
  rw [<-h.bY,Wf,<-Ye]
  exact Yc fun k k0 k1=>h.price hw k0 (by have:=h.pats.1.m1;omega)
theorem MOk.fit{p:Prob}{u:Int}{ml:Int->Int}{mf:Int->Int->Int}{s:So}(h:MOk p u ml mf s)(hw:WC p s.Y<=s.den)(hf:WT p)(hu:u<=60):Vf p u ml mf s:=by
  have hok:=h.pats.1
  have ht:=Vv hok hf
  have hv:=h.val_le hw
  have hd:=h.d1
  have hn:=h.n
  refine⟨⟨⟨h.d1,h.d2⟩,h.v,fun k k0 k1=>h.X k k0 (by omega)⟩,h.n,hu,fun k k0 k1=>⟨h.pats.2 k k0 k1,?_⟩,fun j j0 j1=> ?_⟩
  · have h1:=XV (f:=s.X) (n:=u.toNat) k0 (by omega) fun i i0 i1=>(h.X i i0 (by omega)).1
    rw [h.cX] at h1
    have h2:=Int.mul_le_mul_of_nonneg_right ht (show 0<=s.den by omega)
    rw [Int.tdiv_eq_ediv_of_nonneg (h.X k k0 k1).1]
    have h3:s.X k/s.den<=180:=by
      have h4:s.X k/s.den<181:=Int.ediv_lt_of_lt_mul (by omega) (by omega)
      omega
    omega
  · unfold ZC
    rw [<-Tu]
    exact h.rows j j0 j1
theorem ZaP{s:So}{u:Int}(h:∀j,0<=j->j<u->(s.X j).tmod s.den=0)(u0:0<=u):frN s u.toNat=0:=by
  obtain⟨h1,h2,h3,_⟩:=V4 s u.toNat
  rcases Int.lt_or_eq_of_le h1 with h4|h4
  · obtain⟨g1,g2,g3⟩:=h3 0 (by omega) h4
    exact absurd (h _ g1 (by omega)) g3
  · exact h4.symm
theorem Uu{s:So}:∀n:Nat,(∀j,0<=j->j<(n:Int)->(s.X j).tmod s.den=0)->psum (fun _=>1) (fun q=>(s.X q).tdiv s.den) n*s.den=Ze s.X n
  |0,_=>by simp [psum,Ze]
  | n+1,h=>by
    have h1:=Uu n fun j j0 j1=>h j j0 (by omega)
    have h2:=h n (by omega) (by omega)
    have h3:=Int.tmod_add_mul_tdiv (s.X n) s.den
    have:=ZY s.X (i:=(n:Int)) (by omega)
    rw [show((n:Int)+1).toNat=n+1 by omega,Int.toNat_natCast] at this
    rw [this,psum,Int.add_mul,h1,Int.one_mul,Int.mul_comm _ s.den];omega
theorem Rj(b x:Us)(e:Int):wsum (fun _=>1) (Xr b x e)<=wsum (fun _=>1) b/\(e=0->wsum (fun _=>1) (Xr b x e)<=wsum (fun _=>1) x):=by
  unfold Xr
  by_cases h:e=0/\wsum (fun _=>1) x<wsum (fun _=>1) b
  · rw [if_pos h];exact⟨by omega,fun _=>Int.le_refl _⟩
  · rw [if_neg h];exact⟨Int.le_refl _,fun he=>by by_cases h2:wsum (fun _=>1) x<wsum (fun _=>1) b;exact absurd ⟨he,h2⟩ h;omega⟩
theorem BestR.bound {p:Prob} {n e el u ec:Int} {ln cnt ml:Int->Int} {pt mf:Int->Int->Int} {l:Us} {s:So} (hok:p.Ok) (hf:WT p) (n0:0<=n) (h:BestR p (plL n ln pt cnt) e) (hl:FFitR p l el) (hc:ColR p u ml mf s ec):
    wsum (fun _=>1) (plL n ln pt cnt)<=wsum (fun _=>1) l/\(ec≠0->wsum (fun _=>1) (plL n ln pt cnt)=wsum (fun _=>1) l)/\
    (ec=0->s.val<=wsum (fun _=>1) (plL n ln pt cnt)*s.den/\((∀j,0<=j->j<s.n->(s.X j).tmod s.den=0)->wsum (fun _=>1) (plL n ln pt cnt)*s.den=s.val)):=by
  obtain⟨_,hx⟩:=h.ok hok hf
  have ht:=Vv hok hf
  obtain⟨hs,hmk⟩:=hx.sound hok (by omega) n0
  rcases h with⟨h1,h2,_⟩|⟨h1,l',h2,u',ml',mf',s',ec',u0,hc',h3⟩
  · exact absurd (Vy hok hf h2.1) h1
  · obtain⟨rfl,_⟩:=h2.same hl
    obtain⟨_,rfl,rfl⟩:=hc'.same hc
    have hw1:wsum (fun _=>1) (plL n ln pt cnt)=Ze cnt n.toNat:=by rw [ZV _ n0,Wf]
    have low:ec'=0->s'.val<=wsum (fun _=>1) (plL n ln pt cnt)*s'.den:=fun he=>by
      obtain⟨hm,hwc⟩:=hc'.okS u0 he
      have hM:MeetsP p n ln pt cnt:=⟨hs,fun k k0 k1=>Int.le_of_eq (hmk k k0 k1).symm⟩
      have h4:=Kf (y:=s'.Y) (fun i i0 i1=>(hm.Y i i0 i1).1) hM n0
      rw [hm.bY,<-hw1] at h4
      refine Int.le_trans h4 (Int.mul_le_mul_of_nonneg_left hwc ?_)
      rw [hw1];exact Z2 fun i i0 i1=>by have:=(hs.all i i0 (by omega)).2;omega
    rcases h3 with⟨h3,h4⟩|⟨h3,h4⟩
    · rw [h4];exact⟨Int.le_refl _,fun _=>rfl,fun he=>absurd he h3⟩
    · rcases h4 with⟨h5,_⟩|⟨h5,_⟩|⟨_,x,f,y,g,hxd,hyu,h6⟩
      · omega
      · omega
      · have p1:=Rj l' x f
        have p2:=Rj (Xr l' x f) y g
        rw [<-h6] at p2
        refine⟨by omega,fun he=>absurd h3 he,fun he=>⟨low he,fun hn=> ?_⟩⟩
        obtain⟨hm,hwc⟩:=hc'.okS u0 he
        have hfit:=hm.fit hwc hf (hc'.n60 he u0).1
        obtain⟨hg,hb⟩:=ZeE hok hf hfit u0 hyu
        have hnn:=hm.n
        have hz:=ZaP (u:=u') (fun j j0 j1=>hn j j0 (by omega)) u0
        have hv:=Uu (s:=s') u'.toNat fun j j0 j1=>hn j j0 (by omega)
        rw [hm.cX] at hv
        have h7:=Int.mul_le_mul_of_nonneg_right (show wsum (fun _=>1) (plL n ln pt cnt)<=psum (fun _=>1) (fun q=>(s'.X q).tdiv s'.den) u'.toNat by have:=p2.2 hg;omega) (show 0<=s'.den by have:=hm.d1;omega)
        have:=low he
        omega
set_option maxHeartbeats 4000000 in
set_option maxRecDepth 20000 in
theorem Ru{vL vD:Value}{p:Prob}(w0:World)(h:PAt w0 vL vD p):
    Calls Tryz.prog 7 [.agg #[vL,vD,.int .i64 p.stock,.int .i64 p.kerf]].toArray w0 fun e w=>∃v,e= .returned v/\v= .bool true/\Sat w0 w []:=by
  have hm:=h.L.slh.n0;have hm1:=h.L.slh.n1;have hd:=h.D.slh.n0;have hd1:=h.D.slh.n1;have hs:=h.is;have hk:=h.ik
  refine Zj Tryz.func7 Tryz.ntmps7 fun w hS=> ?_
  refine zsr ?_
  refine zla (xbx (cs:= [_,_,_,_]) hS) ?_;rintro _ w ⟨g1,rfl,hS⟩
  replace hS:=hS.n1
  refine zlv xas ?_
  refine zx5 ?_
  refine zlc (xc0 cl_28) (c_awake34 w) ?_;rintro _ w ⟨rfl,hS'⟩
  replace hS:=hS.cmp hS';clear hS'
  refine zs2 ?_
  refine zlv (xls 0 YD hS) ?_
  refine zlc (xc0 ZhH) (Zec (p:=p) w (h.below hS.below)) ?_;rintro _ w ⟨rfl,hS'⟩
  replace hS:=hS.cmp hS';clear hS'
  refine zs3 ?_
  refine zlb 21 ?_ ?_<;>intro hc
  ·
   iterate 3 refine zlo ?_
   refine zlv xpt ?_
   refine zlt<|zct<|zsr ?_
   refine zlc (xc0 cl_28) (c_awake34 w) ?_;rintro _ w ⟨rfl,hS'⟩
   replace hS:=hS.cmp hS';clear hS'
   refine zlv xas ?_
   refine zx14<|zf1 ⟨_,rfl,?_⟩
   exact⟨rfl,hS.nl⟩
  refine zlv (xls 0 YD hS) ?_
  refine zlc (xc0 UY) (YK (p:=p) w (h.below hS.below)) ?_;rintro _ w ⟨rfl,hS'⟩
  replace hS:=hS.cmp hS';clear hS'
  refine zs2 ?_
  refine zlt ?_
  refine zcif ?_ ?_<;>intro hc
  ·
   refine zsr ?_
   refine zlc (xc0 cl_28) (c_awake34 w) ?_;rintro _ w ⟨rfl,hS'⟩
   replace hS:=hS.cmp hS';clear hS'
   refine zlv xas ?_
   refine zx14<|zf1 ⟨_,rfl,?_⟩
   exact⟨rfl,hS.nl⟩
  refine ZR ?_
  refine zlv (xls 0 YD hS) ?_
  have hf28:WT p:=by first|assumption|exact Classical.not_not.1 ‹_›
  have hokp:p.Ok:=by first|assumption|exact Classical.not_not.1 ‹_›
  refine zlc (xc0 ZhE) (ZgH (p:=p) w (h.below hS.below)) ?_;rintro _ w ⟨vnbs1,nnbs1,pnbs1,lnbs1,gnbs1,cnbs1,enbs1,rfl,hbsbs1,hcbs1,hnbs1,hvnbs1,hS'⟩
  replace hS:Sat w0 w [.blk g1 [vL,vD,.int .i64 p.stock,.int .i64 p.kerf],.own vnbs1 2 111 nnbs1 (Zc pnbs1 cnbs1),.sem (Frame.rows 3 nnbs1 pnbs1 lnbs1 gnbs1)]:=hS.comp hS';clear hS'
  have hrnbs1:=fun k (k0:0<=k) (k1:k<nnbs1)=>hS.slhIn 2 rfl k0 k1
  refine zs5 ?_
  refine zlz ?_
  refine zlv (xls 0 YD hS) ?_
  refine zlc (xc0 Zce) (KF (p:=p) w (h.below hS.below)) ?_;rintro _ w ⟨vnff1,nnff1,pnff1,lnff1,gnff1,cnff1,enff1,rfl,hffff1,hfcff1,hfnff1,hvnff1,hS'⟩
  replace hS:Sat w0 w [.blk g1 [vL,vD,.int .i64 p.stock,.int .i64 p.kerf],.own vnbs1 2 111 nnbs1 (Zc pnbs1 cnbs1),.sem (Frame.rows 3 nnbs1 pnbs1 lnbs1 gnbs1),.own vnff1 2 111 nnff1 (Zc pnff1 cnff1),.sem (Frame.rows 3 nnff1 pnff1 lnff1 gnff1)]:=hS.comp hS';clear hS'
  have hrnff1:=fun k (k0:0<=k) (k1:k<nnff1)=>hS.slhIn 4 rfl k0 k1
  refine zs5 ?_
  refine zlz ?_
  refine zlv xmv ?_
  refine zlc (xc0 cl_36) (c_pbars (u:=nnbs1) (pv:=pnbs1) (ln:=lnbs1) (pt:=gnbs1) (cnt:=cnbs1) w (⟨(hS.rowN 1 rfl),fun k k0 k1=>hS.rowIn 2 rfl k0 k1,fun k k0 k1=>hS.roomIn 2 rfl k0 k1⟩:VAt _ vnbs1 nnbs1 pnbs1 lnbs1 gnbs1 cnbs1) (by omega) (fun k k0 k1=>by first|(have h8:=hfcff1 k k0 k1;omega)|(have h8:=hcbs1 k k0 k1;omega))) ?_;rintro _ w ⟨rfl,hS'⟩
  replace hS:=hS.cmp hS';clear hS'
  refine zlv xmv ?_
  refine zlc (xc0 cl_36) (c_pbars (u:=nnff1) (pv:=pnff1) (ln:=lnff1) (pt:=gnff1) (cnt:=cnff1) w (⟨(hS.rowN 3 rfl),fun k k0 k1=>hS.rowIn 4 rfl k0 k1,fun k k0 k1=>hS.roomIn 4 rfl k0 k1⟩:VAt _ vnff1 nnff1 pnff1 lnff1 gnff1 cnff1) (by omega) (fun k k0 k1=>by first|(have h8:=hfcff1 k k0 k1;omega)|(have h8:=hcbs1 k k0 k1;omega))) ?_;rintro _ w ⟨rfl,hS'⟩
  replace hS:=hS.cmp hS';clear hS'
  refine zs2 ?_
  refine zx5 ?_
  refine zlv xmv ?_
  have he0:enff1=0:=Vy hokp hf28 hffff1.1
  obtain⟨hb0,hbx⟩:=hbsbs1.ok hokp hf28
  have ht9:=Vv hokp hf28
  have z5:=ZV (fun _=>1) (ln:=lnbs1) (pt:=gnbs1) (cnt:=cnbs1) hvnbs1.n0
  have z6:=ZV (fun _=>1) (ln:=lnff1) (pt:=gnff1) (cnt:=cnff1) hvnff1.n0
  obtain⟨zu,zl,zm,zs,zc,zh⟩:∃(u:Int) (ml:Int->Int) (mf:Int->Int->Int) (s:So) (ec:Int),ColR p u ml mf s ec:=by rcases hbsbs1 with⟨q1,_⟩|⟨_,_,_,u,ml,mf,s,ec,_,q2,_⟩;exact absurd hb0 q1;exact⟨u,ml,mf,s,ec,q2⟩
  have hle:=(BestR.bound hokp hf28 hvnbs1.n0 hbsbs1 hffff1 zh).1
  rw [z5,z6] at hle
  refine zs2 ?_
  refine zlb 43 ?_ ?_<;>intro hc;rotate_left
  refine zs4 ?_
  refine zlb 47 ?_ ?_<;>intro hc;rotate_left
  refine zs4 ?_
  refine zlt ?_
  refine zcif ?_ ?_<;>intro hc
  ·
   refine zsr ?_
   refine zlv xas ?_
   refine zx14<|zf1 ⟨_,rfl,?_⟩
   exfalso
   first|omega|(have:=y2 (by omega);omega)
  refine ZR ?_
  refine zlv (xls 0 YD hS) ?_
  refine zlc (xc0 ZhF) (Za7 (p:=p) w (h.below hS.below)) ?_;rintro _ w ⟨vPcs1,vvcs1,vXcs1,vYcs1,ucs1,mlcs1,mfcs1,scs1,ecs1,rfl,hcocs1,hvPcs1,hvXcs1,hvYcs1,hS'⟩
  replace hS:Sat w0 w [.blk g1 [vL,vD,.int .i64 p.stock,.int .i64 p.kerf],.own vnbs1 2 111 nnbs1 (Zc pnbs1 cnbs1),.sem (Frame.rows 3 nnbs1 pnbs1 lnbs1 gnbs1),.own vnff1 2 111 nnff1 (Zc pnff1 cnff1),.sem (Frame.rows 3 nnff1 pnff1 lnff1 gnff1),.own vPcs1 1 22 ucs1 vvcs1,.sem (Frame.rows 3 ucs1 vvcs1 mlcs1 mfcs1),.own vXcs1 1 3 scs1.n (ints scs1.X),.own vYcs1 1 3 scs1.m (ints scs1.Y)]:=hS.comp hS';clear hS'
  have hrwcs1:=fun k (k0:0<=k) (k1:k<ucs1)=>hS.slhIn 6 rfl k0 k1
  refine zs3 ?_
  refine zla (xal (cs:= [_,_,_,_,_]) Zes hS) ?_;rintro _ w ⟨g2,rfl,hS⟩
  replace hS:=hS.n10
  refine zle (xsw 9 Wp hS (hd:=(Za hvPcs1.one (Za hvXcs1.one (Za hvYcs1.one (Za rfl (Za rfl Zd))))))) ?_;clear hS;rintro w hS
  replace hS:=hS.n10
  refine zlv xas ?_
  refine zx5 ?_
  refine zlv xmv ?_
  obtain⟨_,y2,y3⟩:=BestR.bound hokp hf28 hvnbs1.n0 hbsbs1 hffff1 hcocs1
  rw [z5,z6] at y2
  rw [z5] at y3
  have hbf:=hbx.few
  rw [z5] at hbf
  refine zlv Yf ?_
  refine zlt ?_
  refine zcif ?_ ?_<;>intro hc
  ·
   refine zsr ?_
   refine zs4 ?_
   refine zx14<|zf1 ⟨_,rfl,?_⟩
   exact⟨(ZU (by first|omega|exact y2 (by omega)|(rcases hfrfr1 with⟨q1,_⟩|⟨_,q2,_⟩|⟨_,_,_,_,_,q3⟩;exact absurd ⟨⟨hd1,hd2⟩,hv,fun k k0 k1=>hmk.X k k0 (by have:=hmk.n;omega)⟩ q1;exact y5 q2;exact absurd q3 ‹_›))).symm,hS.nl⟩
  refine ZR ?_
  refine zlv (xfb 1 ZdC) ?_
  obtain⟨y4,y5⟩:=y3 (by omega)
  obtain⟨hmk,hwc⟩:=hcocs1.okS hvPcs1.n0 (by omega)
  have hd1:=hmk.d1;have hd2:=hmk.d2;have hv:=hmk.v
  have hn0:0<=psum (fun _=>1) cnbs1 nnbs1.toNat:=by have:=Xo (d:=cnbs1) (f:=fun _=>1) (i:=0) (n:=nnbs1.toNat) (by omega) (fun k hk=>by have:=hcbs1 k (by omega) (by omega);omega);simpa [psum] using this
  have hr9:=Xs hn0 (show psum (fun _=>1) cnbs1 nnbs1.toNat<=180 by omega) (show 0<=scs1.den by omega) hd2
  refine zlv (xlp 9 (ds:= [vXcs1,vYcs1,.int .i64 scs1.val,.int .i64 scs1.den]) st_36 hS) ?_
  refine zla (xal (cs:= [_,_,_,_]) Wb hS) ?_;rintro _ w ⟨g3,rfl,hS⟩
  replace hS:=hS.n11
  refine zle (xsw 10 st_36 hS (hd:=(Za hvXcs1.one (Za hvYcs1.one (Za rfl (Za rfl Zd)))))) ?_;clear hS;rintro w hS
  replace hS:=hS.n11
  refine zlz ?_
  refine zlv (xls 10 st_36 hS) ?_
  refine zlc (xc0 ZhD) (Za6 (s:=scs1) w (hS.rowN 7 rfl) (hS.rowN 8 rfl)) ?_;rintro _ w ⟨fkfr1,fofr1,rfl,hfrfr1,hS'⟩
  replace hS:=hS.cmp hS';clear hS'
  refine zs5 ?_
  refine zlz ?_
  refine zlv xmv ?_
  refine zlv (xfb 3 fd_36_3) ?_
  refine zlv (xlb 10 pl_3 hS) ?_
  refine zlv (xmul (r:=((psum (fun _=>1) cnbs1 (nnbs1).toNat)*scs1.den)) (e:=rfl)) ?_
  refine zlv (xfb 2 fd_36_2) ?_
  refine zlv (xlb 10 pl_3 hS) ?_
  refine zs2 ?_
  refine zlb 76 ?_ ?_<;>intro hc
  ·
   refine zs2 ?_
   refine zlb 78 ?_ ?_<;>intro hc
   ·
    iterate 7 refine zlo ?_
    refine zs3 ?_
    refine zx1<|zf1 ⟨_,rfl,?_⟩
    exact⟨rfl,hS.nl⟩
   refine zlv xmv ?_
   refine zlv (xfb 3 fd_36_3) ?_
   refine zlv (xlb 10 pl_3 hS) ?_
   refine zlv (xmul (r:=((psum (fun _=>1) cnbs1 (nnbs1).toNat)*scs1.den)) (e:=rfl)) ?_
   refine zlv (xfb 2 fd_36_2) ?_
   refine zlv (xlb 10 pl_3 hS) ?_
   refine zs4 ?_
   refine zx1<|zf1 ⟨_,rfl,?_⟩
   exact⟨(ZU (by first|omega|exact y2 (by omega)|(rcases hfrfr1 with⟨q1,_⟩|⟨_,q2,_⟩|⟨_,_,_,_,_,q3⟩;exact absurd ⟨⟨hd1,hd2⟩,hv,fun k k0 k1=>hmk.X k k0 (by have:=hmk.n;omega)⟩ q1;exact y5 q2;exact absurd q3 ‹_›))).symm,hS.nl⟩
  iterate 10 refine zlo ?_
  refine zs2 ?_
  refine zx1<|zf1 ⟨_,rfl,?_⟩
  exfalso
  first|omega|(have:=y2 (by omega);omega)
  all_goals
   refine YC ?_
   refine zlt<|zct<|zsr ?_
   refine YC ?_
   refine zx14<|zf1 ⟨_,rfl,?_⟩
   exfalso
   first|omega|(have:=y2 (by omega);omega)
end Go.Proofs.YtopmifmfecfaaaaGreat
namespace Go.Proofs.Gw
open Go Go.RowKit Go.ChangeShapes Go.WideShapes Go.ChangeAt
section
variable {H:Type} {enc:TypeId×Value->H} {P:Program} {w:World} {held:Bool}
def Small{H:Type}(P:Program)(t:TypeId)(d:DataW H):Prop:=(d.weights P t).all (· <=reachBytes)=true
theorem VL{ts:List TypeId}{ds:List (DataW H)}(h:(DataW.weightsEach P ts ds).all (· <=reachBytes)=true){j:Nat}{t:TypeId}{d:DataW H}(ht:ts[j]? =some t)(hd:ds[j]? =some d):Small P t d:=
  List.all_eq_true.2 fun n hn=>List.all_eq_true.1 h n (DataW.weights_mem_each ht hd n hn)
theorem Ti{t:TypeId}{fs:Array Field}{parts:List (DataW H)}(h:Small P t (.agg parts))(hu:P.underlying t=some (.struct fs)){j:Nat}{u:TypeId}{d:DataW H}(ht:(fs.toList.map (·.type))[j]? =some u)(hd:parts[j]? =some d):Small P u d:=by
  unfold Small at h
  simp only [DataW.weights,hu] at h
  exact VL h ht hd
theorem WY{e:TypeId}:∀{ds:List (DataW H)},(DataW.weightsAll P e ds).all (· <=reachBytes)=true->∀d∈ds,Small P e d
  | [],_,d,hd=>by cases hd
  | x::r,h,d,hd=>by
    simp only [DataW.weightsAll,List.all_append,Bool.and_eq_true] at h
    rcases List.mem_cons.1 hd with rfl|hd
    · exact h.1
    · exact WY h.2 d hd
theorem T7{t e:TypeId}{elems spare:List (DataW H)}(h:Small P t (.slice elems spare))(hu:P.underlying t=some (.slice e)):(elems.length+spare.length)*P.bytesOf e<=reachBytes/\∀d∈elems,Small P e d:=by
  unfold Small at h
  simp only [DataW.weights,hu,List.all_cons,List.all_append,Bool.and_eq_true,decide_eq_true_eq] at h
  exact⟨h.1,WY h.2.1⟩
theorem R6{n:Int}(h:(Lit.int .i64 n).wf=true): -9223372036854775808<=n/\n<=9223372036854775807:=by
  simp only [Lit.wf,Bool.and_eq_true,decide_eq_true_eq] at h
  have h1:IntKind.i64.min= -9223372036854775808:=by decide
  have h2:IntKind.i64.max=9223372036854775807:=by decide
  omega
theorem ZaD{a:Addr}{v:Value}(h:w.cell? a=some v):a.spot=none:=World.cell?_spot h
end
end Go.Proofs.Gw
namespace Go.Proofs.Gw
open Go Go.RowKit Go.ChangeShapes Go.WideShapes Go.ChangeAt
section
variable {H:Type} {enc:TypeId×Value->H} {P:Program} {w:World} {held:Bool}
def Rd{H:Type}(enc:TypeId×Value->H)(P:Program)(w:World)(held:Bool)(t:TypeId)(cs:List Value):Prop:=∃fuel y,DataW.trod enc P w 0 (fun _=>true) held fuel t cs=some y/\Small P t y.1
theorem Rd.int{k:IntKind}{t:TypeId}{cs:List Value}(h:Rd enc P w held t cs)(ht:P.underlying t=some (.int k)):∃n,cs= [.int k n]/\(Lit.int k n).wf=true:=by
  obtain⟨fuel,y,h,_⟩:=h
  obtain⟨n,h1,_,h2⟩:=DataW.trod_int ht h
  exact⟨n,h1,h2⟩
theorem Rd.intv{k:IntKind}{t:TypeId}{v:Value}(h:Rd enc P w held t [v])(ht:P.underlying t=some (.int k)):∃n,v= .int k n/\(Lit.int k n).wf=true:=by
  obtain⟨n,h1,h2⟩:=h.int ht
  exact⟨n,by simpa using h1,h2⟩
theorem Rd.struct{fs:Array Field}{t:TypeId}{cs:List Value}(h:Rd enc P w held t cs)(ht:P.underlying t=some (.struct fs)):∀(j:Nat) (f:Field),fs[j]? =some f->Rd enc P w held f.type ((cs.drop f.offset).take (P.cellsOf f.type)):=fun j f hf=>by
  obtain⟨fuel,y,h,hs⟩:=h
  obtain⟨xs,n,_,rfl,hl,hlen,hx⟩:=DataW.trod_struct ht h
  have hj:j<xs.length:=by rw [hlen];exact(Array.getElem?_eq_some_iff.1 hf).1
  have h1:=hx j f hf
  rw [List.getElem?_eq_getElem hj] at h1
  exact⟨n,_,h1,Ti (j:=j) hs ht (by simp [hf]) (by simp [hj])⟩
theorem Rd.len{fs:Array Field}{t:TypeId}{cs:List Value}(h:Rd enc P w held t cs)(ht:P.underlying t=some (.struct fs)):cs.length=P.cellsOf t:=by
  obtain⟨fuel,y,h,hs⟩:=h
  obtain⟨xs,n,_,rfl,hl,hlen,hx⟩:=DataW.trod_struct ht h
  exact hl
theorem Rd.slice {t e:TypeId} {s b:Nat} {v:Value} (h:Rd enc P w held t [v]) (ht:P.underlying t=some (.slice e)) (ce:P.cellsOf e=s) (be:P.bytesOf e=b) (hs1:1<=s) (hsb:s<=b):
    ∃(n:Int) (c:Int->Value),Row w v s n c/\b*n<=140737488351232/\∀i:Int,0<=i->i<n->Rd enc P w held e ((List.range s).map fun j:Nat=>c (i*s+j)):=by
  obtain⟨fuel,y,h,hs⟩:=h
  rcases Go.Deep.open_slice ht h with⟨hcs,_⟩|⟨a,len,cap,m,n,D,Pl,hcs,_,hl,hm,hmm,hy,hx⟩
  · simp only [List.cons.injEq,and_true] at hcs
    subst hcs
    exact⟨0,fun _=>undef,⟨⟨by omega,by omega,none,0,rfl,.inl rfl⟩,fun k hk=>by rw [Int.zero_mul] at hk;omega⟩,by omega,fun i a0 a1=>by omega⟩
  · simp only [List.cons.injEq,and_true] at hcs
    subst hcs
    simp only [if_true] at hmm
    subst hmm
    rw [hy] at hs
    have hsm:=T7 hs ht
    have hb1:=hsm.1
    rw [be] at hb1
    simp only [List.length_map,List.length_range] at hb1
    have h2:len*b<=(len+(m-len))*b:=Nat.mul_le_mul_right _ (by omega)
    have h3:len*b<=140737488351232:=by unfold reachBytes at hb1;omega
    have h4:len*1<=len*b:=Nat.mul_le_mul_left _ (by omega)
    rw [ce] at hx
    have e0:∀i:Nat,∃cs':List Value,i<len->w.cells? 0 (a.add (i*s)) s=some cs'/\DataW.trod enc P w 0 (fun _=>true) held n e cs'=some (D i,Pl i):=fun i=>by
      by_cases hi:i<len
      · obtain⟨cs',h5,h6⟩:=hx i (by omega)
        exact⟨cs',fun _=>⟨h5,h6⟩⟩
      · exact⟨[],fun h=>absurd h hi⟩
    obtain⟨C,hC⟩:=Classical.axiomOfChoice e0
    have hsp0:0<len->a.spot=none:=fun h0=>by
      obtain⟨_,h7,h8⟩:=World.cells?_some (hC 0 h0).1
      have h9:=h8 0 (by omega)
      rw [List.getElem?_eq_getElem (by omega)] at h9
      have h10:=ZaD h9
      simpa [Addr.add] using h10
    refine⟨len,fun k=>(C (k/s).toNat).getD (k%s).toNat undef,⟨⟨by omega,by omega,some a,m,by simp,?_⟩,fun j hj=> ?_⟩,?_,fun i i0 i1=> ?_⟩
    · by_cases hl0:len=0
      · left;omega
      · right
        have hsp:=hsp0 (by omega)
        exact⟨a.block,a.off,by cases a;simp at hsp;simp [hsp]⟩
    · have hjs:j<len*s:=by rw [<-Int.natCast_mul] at hj;omega
      have hi:j/s<len:=(Nat.div_lt_iff_lt_mul (by omega)).2 hjs
      have hlen0:0<len:=Nat.lt_of_le_of_lt (Nat.zero_le _) hi
      have hsp:=hsp0 hlen0
      obtain⟨_,h7,h8⟩:=World.cells?_some (hC (j/s) hi).1
      have hr:j%s<s:=Nat.mod_lt _ (by omega)
      have h9:=h8 (j%s) hr
      rw [Addr.add_eq a hsp,Addr.add_eq _ rfl] at h9
      have e1:((j:Int)/(s:Int)).toNat=j/s:=by rw [<-Int.natCast_ediv,Int.toNat_natCast]
      have e2:((j:Int)%(s:Int)).toNat=j%s:=by rw [<-Int.natCast_emod,Int.toNat_natCast]
      have e3:a.off+j/s*s+j%s=a.off+j:=by rw [Nat.add_assoc,Nat.mul_comm,Nat.div_add_mod]
      rw [List.getElem?_eq_getElem (by omega)] at h9
      simp only [e1,e2,List.getD_eq_getElem?_getD]
      rw [List.getElem?_eq_getElem (by omega)]
      simp only [cad,Int.toNat_natCast,Option.getD_some]
      simp only [e3] at h9
      exact h9
    · have:((len*b:Nat):Int)=b*len:=by rw [Int.natCast_mul,Int.mul_comm]
      omega
    · obtain⟨k,rfl⟩:=Int.eq_ofNat_of_zero_le i0
      have hk:k<len:=by omega
      obtain⟨h5,h6⟩:=hC k hk
      obtain⟨_,h7,h8⟩:=World.cells?_some h5
      have e:((List.range s).map fun j:Nat=>(C (((k:Int)*(s:Int)+(j:Int))/(s:Int)).toNat).getD (((k:Int)*(s:Int)+(j:Int))%(s:Int)).toNat undef)=C k:=by
        apply List.ext_getElem
        · simp [h7]
        · intro j hj1 hj2
          rw [List.getElem_map,List.getElem_range]
          have hjs:j<s:=by simpa using hj1
          have e0:((k:Int)*(s:Int)+(j:Int))=((k*s+j:Nat):Int):=by rw [Int.natCast_add,Int.natCast_mul]
          have e1:(((k*s+j:Nat):Int)/(s:Int)).toNat=k:=by
            rw [<-Int.natCast_ediv,Int.toNat_natCast,Nat.mul_comm,Nat.mul_add_div (by omega),Nat.div_eq_of_lt hjs,Nat.add_zero]
          have e2:(((k*s+j:Nat):Int)%(s:Int)).toNat=j:=by
            rw [<-Int.natCast_emod,Int.toNat_natCast,Nat.mul_comm,Nat.mul_add_mod,Nat.mod_eq_of_lt hjs]
          rw [e0,e1,e2,List.getD_eq_getElem?_getD,List.getElem?_eq_getElem hj2,Option.getD_some]
      rw [e]
      exact⟨n,_,h6,hsm.2 (D k) (List.mem_map.2 ⟨k,List.mem_range.2 hk,rfl⟩)⟩
theorem Rd.array{n:Nat}{t e:TypeId}{cs:List Value}(h:Rd enc P w held t cs)(ht:P.underlying t=some (.array n e)):∀i,i<n->Rd enc P w held e ((cs.drop (i*P.cellsOf e)).take (P.cellsOf e)):=fun i hi=>by
  obtain⟨fuel,y,h,hs⟩:=h
  obtain⟨xs,m,_,rfl,_,hl,hel⟩:=DataW.trod_array ht h
  have h1:=hel i hi
  rw [List.getElem?_eq_getElem (by omega)] at h1
  refine⟨m,_,h1,?_⟩
  unfold Small at hs
  simp only [DataW.weights,ht] at hs
  exact WY hs _ (List.mem_map.2 ⟨xs[i],List.getElem_mem _,rfl⟩)
theorem Rd.field{fs:Array Field}{t u:TypeId}{cs ds:List Value}(h:Rd enc P w held t cs)(ht:P.underlying t=some (.struct fs))(j:Nat){f:Field}(hf:fs[j]? =some f){k:Nat}(hu:f.type=u)(hk:P.cellsOf u=k)(hd:(cs.drop f.offset).take k=ds):Rd enc P w held u ds:=by
  subst hu;subst hd;rw [<-hk];exact h.struct ht j f hf
theorem R8{cs:Array Value}{l:List Value}(h:cs.toList=l):cs=l.toArray:=by subst h;simp
theorem Rd.arg{t:TypeId}{v:Value}{d:DataW H}{p:List MemPlace}(h:DataW.Trod enc P w 0 (fun _=>true) held t v d p)(hs:Small P t d):Rd enc P w held t v.cells.toList:=by
  obtain⟨fuel,hf⟩:=h
  exact⟨fuel,_,hf,hs⟩
theorem Zg0{cs:List Value}(h:cs.length=4):∃a b c d,cs= [a,b,c,d]:=by match cs,h with| [a,b,c,d],_=>exact⟨_,_,_,_,rfl⟩
theorem Rd.nums{k:IntKind}{t e:TypeId}{b:Nat}{v:Value}(h:Rd enc P w held t [v])(ht:P.underlying t=some (.slice e))(he:P.underlying e=some (.int k))(hc:P.cellsOf e=1)(hb:P.bytesOf e=b)(hb1:1<=b):
    ∃(n:Int) (f:Int->Int),Row w v 1 n (fun j=> .int k (f j))/\b*n<=140737488351232/\∀j,(Lit.int k (f j)).wf=true:=by
  obtain⟨n,c,h1,h2,h3⟩:=h.slice ht hc hb (by omega) hb1
  have h0:(Lit.int k 0).wf=true:=by cases k<;>decide
  have e0:∀i:Int,∃x:Int,(Lit.int k x).wf=true/\(0<=i->i<n->c i= .int k x):=fun i=>by
    by_cases hi:0<=i/\i<n
    · have h4:=h3 i hi.1 hi.2
      simp only [List.range_one,List.map_cons,List.map_nil] at h4
      obtain⟨x,hx,hw⟩:=h4.intv he
      refine⟨x,hw,fun _ _=> ?_⟩
      rw [<-hx];congr 1;omega
    · exact⟨0,h0,fun a0 a1=>absurd ⟨a0,a1⟩ hi⟩
  obtain⟨f,hf⟩:=Classical.axiomOfChoice e0
  exact⟨n,f,h1.congr fun i i0 i1=>(hf i).2 i0 (by omega),h2,fun j=>(hf j).1⟩
theorem Rd.ints{t e:TypeId}{v:Value}(h:Rd enc P w held t [v])(ht:P.underlying t=some (.slice e))(he:P.underlying e=some (.int .i64))(hc:P.cellsOf e=1)(hb:P.bytesOf e=8):∃(n:Int) (f:Int->Int),IAt w v n f:=by
  obtain⟨n,f,h1,_,h2⟩:=h.nums ht he hc hb (by omega)
  exact⟨n,f,h1,fun k=>R6 (h2 k)⟩
end
end Go.Proofs.Gw
