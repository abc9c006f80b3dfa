import Derived.Test.YtkichmnjjblodaaGreatPlD
set_option linter.unusedVariables false
set_option linter.unusedSimpArgs false
set_option maxRecDepth 20000
set_option maxHeartbeats 4000000
namespace Go.Proofs.YtkichmnjjblodaaGreat
open Go Go.RowKit Go.Proofs.Gw
theorem Zkp:Zc Tryz.prog 193=true:=by kernel_rfl
theorem VT:Zq Tryz.prog 141 0=some 0:=by kernel_rfl
def Zd4(p:Prob)(u:Int)(ml:Int->Int)(mf:Int->Int->Int)(s:So):Prop:=Y9 s/\s.n=u/\u<=60/\(∀k,0<=k->k<u->Z8 p (ml k) (mf k)/\(s.X k).tdiv s.den<=1000)/\∀j,0<=j->j<p.m->p.D j*s.den<=Zr u mf s.X j
theorem Zdz{m u:Int}{X:Int->Int}{mf:Int->Int->Int}(h:∀k,0<=k->k<u->(∀j,0<=j->j<m->0<=mf k j/\mf k j<=1000)/\0<=X k/\X k<=1073741824):∀{i:Int},0<=i->i<=u->∀{j:Int},0<=j->j<m->0<=Zr i mf X j/\Zr i mf X j<=1073741824000*i:=by
  intro i i0
  obtain⟨n,rfl⟩:=Int.eq_ofNat_of_zero_le i0
  induction n with
  |zero=>intro _ j _ _;exact⟨Int.le_refl _,by show(0:Int)<=_;omega⟩
  | succ n ih=>
    intro hi j j0 j1
    have h1:=ih (by omega) (by omega) j0 j1
    obtain⟨h2,h3,h4⟩:=h n (by omega) (by omega)
    have h5:=h2 j j0 j1
    have h6:=X9 h5.1 h5.2 h3 h4
    have h7:=Xg (pt:=mf) (cnt:=X) (i:=(n:Int)) (j:=j) (by omega)
    rw [show((n+1:Nat):Int)=(n:Int)+1 by omega,h7];omega
theorem U4{a d:Int}(h:0<=a)(hd:1<=d):0<=a.tmod d/\a.tmod d<d:=by
  rw [Int.tmod_eq_emod_of_nonneg h]
  exact⟨Int.emod_nonneg _ (by omega),Int.emod_lt_of_pos _ (by omega)⟩
theorem VG{p:Prob}{n:Int}{f:Int->Int}(h:Z8 p n f):n=p.m/\∀j,0<=j->j<p.m->0<=f j/\f j<=1000:=by
  have he:=h.1.eq
  refine⟨he,fun j j0 j1=> ?_⟩
  have h1:=h.1.all j j0 j1
  have h2:=h.2 j j0 (by omega)
  have h3:=TB h.1.ok j0 j1
  omega
theorem ZdV{vL vD:Value}{p:Prob}{vM:Value}{u:Int}{mv:Int->Value}{ml:Int->Int}{mf:Int->Int->Int}{vX vY:Value}{s:So}(w0:World)(h:PAt w0 vL vD p)(hok:p.Ok)(hM:MAt w0 vM u mv ml mf)(hX:Row w0 vX 1 s.n (ints s.X))(hY:Row w0 vY 1 s.m (ints s.Y))(yd:s.n<=1000):
    Calls Tryz.prog 166 [.agg #[vL,vD,.int .i64 p.stock,.int .i64 p.kerf],.agg #[vM,vX,vY,.int .i64 s.val,.int .i64 s.den]].toArray w0 fun e w=>∃v,e= .returned v/\v=B (Zd4 p u ml mf s)/\Sat w0 w []:=by
  have hm:=h.L.slh.n0;have hm1:=h.L.slh.n1;have hd:=h.D.slh.n0;have hd1:=h.D.slh.n1;have hs:=h.is;have hk:=h.ik
  have hu:=hM.row.slh.n0;have hu1:=hM.row.slh.n1;have hn:=hX.slh.n0;have hn1:=hX.slh.n1
  refine zenG Tryz.func166 Tryz.ntmps166 fun w hS=> ?_
  refine zsr<|zla (xbx (cs:= [_,_,_,_]) hS) ?_;rintro _ w ⟨g1,rfl,hS⟩
  refine zla (xbx (cs:= [_,_,_,_,_]) hS) ?_;rintro _ w ⟨g2,rfl,hS⟩
  refine(zP)<|zlz<|(zV (xfb 1 fd_141_1))<|(zV (xlp 1 (ds:= [vX,vY,.int .i64 s.val,.int .i64 s.den]) ZM hS))<|zla (xal (cs:= [_,_,_,_]) Wt hS) ?_;rintro _ w ⟨g3,rfl,hS⟩
  refine zle (xsw 2 ZM hS (hd:=(Za hX.slh.one (Za hY.slh.one (Za rfl (Za rfl Zi)))))) ?_;clear hS;rintro w hS
  refine zx5<|(zV (xls 2 ZM hS))<|zlc (xc0 Zkp) (ZdL (s:=s) w (hX.below hS.below) (hY.below hS.below) (by omega)) ?_;rintro _ w ⟨bZ,bX,jZ,rfl,xU,hS'⟩
  replace hS:=hS.cmp hS';clear hS'
  refine(zP)<|(zP)<|(zP)<|zla (xal (cs:= [_,_]) Zfb hS) ?_;rintro _ w ⟨g4,rfl,hS⟩
  refine zle (xsw 3 U9 hS) ?_;clear hS;rintro w hS
  refine(zP)<|zlz<|(zP)<|(zP)<|(zP)<|zlb 24 ?_ ?_<;>intro hc;rotate_left
  refine(zV (xfb 0 fd_139_0))<|(zV (xlb 2 pl_22 hS))<|(zV (xln Zb hX.slh))<|(zV (xfb 0 VT))<|(zV (xlb 1 ZQ hS))<|(zV (xln Zl hM.row.slh))<|(zP)<|(zP)<|(zP)<|zlb 33 ?_ ?_<;>intro hc;rotate_left
  refine(zV (xfb 0 fd_139_0))<|(zV (xlb 2 pl_22 hS))<|(zV (xln Zb hX.slh))<|(zP)<|(zP)<|zlt<|Zf ?_ ?_<;>intro hc
  ·
   refine zsr<|(zP)<|zx14<|zf1 ⟨_,rfl,?_⟩
   refine⟨Ze ?_,hS.nl⟩
   rintro⟨g1,g2,g3,g4,g5⟩
   first
   |(rcases xU with⟨q1,_⟩|⟨_,_,_,q4⟩;exact absurd g1 q1;omega)
   |omega
   |(have h9:=g4 k hk0 (by omega);first|exact absurd h9.1 ‹_›|(have:=h9.2;omega))
   |(have h9:=g5 i hi0 (by omega);have h8:=hf i hi0 (by omega);rw [show k=u by omega] at h8;omega)
  refine ZR<|zlv (xfb 0 fd_32_0) ?_
  have hsd:Y9 s:=by rcases xU with⟨_,_,_,q4⟩|⟨q1,_⟩;omega;exact q1
  obtain⟨⟨d1,d2⟩,⟨d3,d4⟩,d5⟩:=id hsd
  have zY:=hok.m1;have qx:=hok.m2;have hpd:=hok.d
  refine(zV (xlb 0 pl_22 hS))<|(zV (xln Zb h.L.slh))<|zla (xmk Zb Zu hS) ?_;rintro v1 w ⟨hS,hv1⟩
  refine(zP)<|zx5<|(zV (xfb 0 VT))<|(zV (xlb 1 ZQ hS))<|(zV (xln Zl hM.row.slh))<|(zP)<|zx6<|zlp (fun mm M w=>∃(f:Int->Int) (k:Int),mm=((u-k).toNat)/\(0<=k)/\(k<=u)/\(∀i,0<=i->i<k->Z8 p (ml i) (mf i)/\(s.X i).tdiv s.den<=1000)/\(∀j,0<=j->j<p.m->f j=Zr k mf s.X j)/\M= [(2,.pointer (some ⟨g1,0,none⟩)),(5,.pointer (some ⟨g3,0,none⟩)),(8,v1),(44,vM),(45,.int .i64 u),(46,.int .i64 k)]/\Sat w0 w [.blk g1 [vL,vD,.int .i64 p.stock,.int .i64 p.kerf],.blk g2 [vM,vX,vY,.int .i64 s.val,.int .i64 s.den],.blk g3 [vX,vY,.int .i64 s.val,.int .i64 s.den],.blk g4 [.int .i64 bZ,.int .i64 bX],.own v1 1 3 p.m (ints f)]) ⟨(fun _=>0),0,rfl,(by omega),(by omega),?_,?_,rfl,hS⟩ ?_
  ·
   intro i i0 i1;omega
  ·
   intro j _ _;rfl
  clear hS w
  rintro mm M w ⟨f,k,rfl,hk0,hk1,qa,hf,rfl,hS⟩
  refine zsr<|(zP)<|zx7<|Zf ?_ ?_<;>intro hc
  ·
   refine zx3<|(zP)<|(zV (xix (kk:=k) Zl hM.row.slh))<|zlv (xlr (u:=(mv k)) pl_22 (hM.row.below hS.below)) ?_
   have jY:=d5 k hk0 (by omega)
   have hqd:=Xn (a:=s.X k) (d:=s.den) (A:=1073741824) (by omega) (by omega)
   refine(zP)<|(zP)<|zlt<|zsq<|zsq<|zdst [0,1,2,3,4] [0,1,2,3,4] 1000 mx_ hS ?_;clear hS;intro w hS
   refine(zDl 0 (fun w hS=>(xls 0 st_32 hS)))<|(zDw 1 xmv)<|zdc 2 (xc0 Zfs) (RJ (p:=p) w (h.below hS.below) ((hM.p k (by omega) (by omega)).below hS.below)) ?_;rintro _ w ⟨rfl,hS'⟩
   replace hS:=hS.cmp hS';clear hS'
   refine⟨⟨fun _=>hS,hS⟩,?_⟩
   refine(zDw 3 Yv)<|(zDw 4 xmv)<|zdb 55 ?_ ?_<;>intro hc
   ·
    refine(zDo 5)<|(zDo 6)<|(zDo 7)<|(zDo 8)<|(zDo 9)<|(zDo 10)<|(zDo 11)<|(zDo 12)<|(zDo 13)<|(zDw 14 xpt)<|zdd<|ztn<|zct<|zsr ?_
    refine(zP)<|zlt<|zrt<|ztr<|zbr<|ztr<|ztr<|zbr<|ztr<|zf1 ⟨_,rfl,?_⟩
    refine⟨Ze ?_,hS.nl⟩
    rintro⟨g1,g2,g3,g4,g5⟩
    first
    |(rcases xU with⟨q1,_⟩|⟨_,_,_,q4⟩;exact absurd g1 q1;omega)
    |omega
    |(have h9:=g4 k hk0 (by omega);first|exact absurd h9.1 ‹_›|(have:=h9.2;omega))
    |(have h9:=g5 i hi0 (by omega);have h8:=hf i hi0 (by omega);rw [show k=u by omega] at h8;omega)
   refine(zDw 5 (xfb 0 fd_139_0))<|(zDl 6 (fun w hS=>(xlb 2 pl_22 hS)))<|(zDw 7 xmv)<|(zDw 8 (xix (kk:=k) Zb hX.slh))<|(zDl 9 (fun w hS=>(xlr (u:= .int .i64 (s.X k)) pl_3 (hX.below hS.below))))<|(zDw 10 (xfb 3 fd_139_3))<|(zDl 11 (fun w hS=>(xlb 2 pl_3 hS)))<|(zDw 12 (Vv (r:=(Int.tdiv (s.X k) s.den))))<|(zDw 13 Yq)<|(zDw 14 xpf)<|zdd<|ztn ?_
   refine Zf ?_ ?_<;>intro hc
   ·
    refine zsr<|(zP)<|zlt<|zrt<|ztr<|zbr<|ztr<|ztr<|zbr<|ztr<|zf1 ⟨_,rfl,?_⟩
    refine⟨Ze ?_,hS.nl⟩
    rintro⟨g1,g2,g3,g4,g5⟩
    first
    |(rcases xU with⟨q1,_⟩|⟨_,_,_,q4⟩;exact absurd g1 q1;omega)
    |omega
    |(have h9:=g4 k hk0 (by omega);first|exact absurd h9.1 ‹_›|(have:=h9.2;omega))
    |(have h9:=g5 i hi0 (by omega);have h8:=hf i hi0 (by omega);rw [show k=u by omega] at h8;omega)
   refine ZR<|zlv xmv ?_
   have hpk:Z8 p (ml k) (mf k):=by first|assumption|exact Classical.not_not.1 ‹_›
   have hrk:=VG hpk
   have hXk:=d5 k hk0 (by omega)
   refine(zV (xln Zb (hM.p k (by omega) (by omega)).slh))<|(zP)<|zx6<|zlp (fun mm M w=>∃(f2:Int->Int) (j:Int),mm=((ml k-j).toNat)/\(0<=j)/\(j<=ml k)/\(∀q,0<=q->q<p.m->f2 q=(if q<j then Zr (k+1) mf s.X q else Zr k mf s.X q))/\M= [(2,.pointer (some ⟨g1,0,none⟩)),(5,.pointer (some ⟨g3,0,none⟩)),(8,v1),(9,.int .i64 k),(44,vM),(45,.int .i64 u),(46,.int .i64 k),(66,(mv k)),(67,.int .i64 (ml k)),(68,.int .i64 j)]/\Sat w0 w [.blk g1 [vL,vD,.int .i64 p.stock,.int .i64 p.kerf],.blk g2 [vM,vX,vY,.int .i64 s.val,.int .i64 s.den],.blk g3 [vX,vY,.int .i64 s.val,.int .i64 s.den],.blk g4 [.int .i64 bZ,.int .i64 bX],.own v1 1 3 p.m (ints f2)]) ⟨f,0,rfl,(by omega),(by omega),?_,rfl,hS⟩ ?_
   ·
    intro q q0 q1;rw [if_neg (by omega)];exact hf q q0 q1
   clear hS w
   rintro mm M w ⟨f2,j,rfl,hj0,hj1,hf2,rfl,hS⟩
   refine zsr<|(zP)<|zx7<|Zf ?_ ?_<;>intro hc
   ·
    refine zx3<|(zP)<|(zV (xix (kk:=j) Zb (hM.p k (by omega) (by omega)).slh))<|zlv (xlr (u:= .int .i64 ((mf k) j)) pl_3 ((hM.p k (by omega) (by omega)).below hS.below)) ?_
    have hrj:=hrk.2 j hj0 (by omega)
    have hxj:=X9 hrj.1 hrj.2 hXk.1 hXk.2
    have hmr:=Zdz (m:=p.m) (u:=k) (fun i i0 i1=>⟨(VG (qa i i0 i1).1).2,d5 i i0 (by omega)⟩) hk0 (Int.le_refl _) (j:=j) hj0 (by omega)
    have hfj:=hf2 j hj0 (by omega)
    rw [if_neg (by omega)] at hfj
    refine(zP)<|(zP)<|zlt<|zdst [0,1,2,3,4] [0,1,2,3] 13 mx_ hS ?_;clear hS;intro w hS
    refine(zDw 0 xmv)<|(zDw 1 xmv)<|(zDw 2 (xix (kk:=j) Zb hv1))<|zdl 3 (fun w hS=>(xlr (u:= .int .i64 (f2 j)) pl_3 (hS.rowN 4 rfl))) ?_
    refine(zDw 4 xmv)<|(zDw 5 (xfb 0 fd_139_0))<|(zDl 6 (fun w hS=>(xlb 2 pl_22 hS)))<|(zDw 7 xmv)<|(zDw 8 (xix (kk:=k) Zb hX.slh))<|(zDl 9 (fun w hS=>(xlr (u:= .int .i64 (s.X k)) pl_3 (hX.below hS.below))))<|(zDw 10 (Z6 (r:=(((mf k) j)*(s.X k))) (e:=rfl)))<|(zDw 11 (Zh (r:=f2 j+(((mf k) j)*(s.X k)))))<|(zDw 12 (xix (kk:=j) Zb hv1))<|zde 13 (xso 4 pl_3 hS (Zs _ _ _)) ?_;clear hS;rintro w hS
    refine⟨⟨fun h=>absurd h (by decide),hS.pk [0,1,2,3]⟩,?_⟩
    refine zdd<|zbn<|ztn<|zrg ?_
    refine(zV (Zh (r:=j+1)))<|(zP)<|zln<|zlq ⟨(upd f2 j (f2 j+(((mf k) j)*(s.X k)))),j+1,rfl,(by omega),(by omega),?_,rfl,hS⟩
    ·
     intro q q0 q1;unfold upd;by_cases e:q=j
     · rw [if_pos e,if_pos (by omega),e,Xg hk0];omega
     · rw [if_neg e,hf2 q q0 q1];by_cases e2:q<j
       · rw [if_pos e2,if_pos (by omega)]
       · rw [if_neg e2,if_neg (by omega)]
   refine zx21<|(zV (Zh (r:=k+1)))<|(zP)<|zln<|zlq ⟨f2,k+1,rfl,(by omega),(by omega),?_,?_,rfl,hS⟩
   ·
    intro i i0 i1;rcases Int.lt_or_eq_of_le (show i<=k by omega) with h9|h9
    · exact qa i i0 h9
    · rw [h9];exact⟨hpk,by omega⟩
   ·
    intro q q0 q1;rw [hf2 q q0 q1,if_pos (by omega)]
  refine zx18<|(zP)<|(zV (xln Zb hv1))<|(zP)<|zx6<|zlp (fun mm M w=>∃(i:Int),mm=((p.m-i).toNat)/\(0<=i)/\(i<=p.m)/\(∀j,0<=j->j<i->p.D j*s.den<=f j)/\M= [(2,.pointer (some ⟨g1,0,none⟩)),(5,.pointer (some ⟨g3,0,none⟩)),(88,v1),(89,.int .i64 p.m),(90,.int .i64 i)]/\Sat w0 w [.blk g1 [vL,vD,.int .i64 p.stock,.int .i64 p.kerf],.blk g2 [vM,vX,vY,.int .i64 s.val,.int .i64 s.den],.blk g3 [vX,vY,.int .i64 s.val,.int .i64 s.den],.blk g4 [.int .i64 bZ,.int .i64 bX],.own v1 1 3 p.m (ints f)]) ⟨0,rfl,(by omega),(by omega),?_,rfl,hS⟩ ?_
  ·
   intro j j0 j1;omega
  clear hS w
  rintro mm M w ⟨i,rfl,hi0,hi1,hge,rfl,hS⟩
  refine zsr<|(zP)<|zx7<|Zf ?_ ?_<;>intro hc
  ·
   refine zx3<|(zP)<|(zV (xix (kk:=i) Zb hv1))<|zlv (xlr (u:= .int .i64 (f i)) pl_3 (hS.rowN 4 rfl)) ?_
   have hdd:=TB hok hi0 (by omega:i<p.m)
   have hdm:=X9 hdd.1 hdd.2 (show 0<=s.den by omega) d2
   refine(zP)<|(zP)<|zx7<|zdst [0,1,2,3,4] [0,1,2,3,4] 1000 mx_ hS ?_;clear hS;intro w hS
   refine(zDw 0 xmv)<|(zDw 1 (xfb 1 fd_32_1))<|(zDl 2 (fun w hS=>(xlb 0 pl_22 hS)))<|(zDw 3 xmv)<|(zDw 4 (xix (kk:=i) Zb h.D.slh))<|zdla 5 (fun w hS=>(xlr (u:= .int .i64 (p.D i)) pl_3 (h.D.below hS.below))) ?_
   have hbv:=h.iD i
   refine(zDw 6 (xfb 3 fd_139_3))<|(zDl 7 (fun w hS=>(xlb 2 pl_3 hS)))<|(zDw 8 (Z6 (r:=((p.D i)*s.den)) (e:=rfl)))<|(zDw 9 Z3)<|zdd<|ztn ?_
   refine Zf ?_ ?_<;>intro hc
   ·
    refine zsr<|(zP)<|zx2<|zf1 ⟨_,rfl,?_⟩
    refine⟨Ze ?_,hS.nl⟩
    rintro⟨g1,g2,g3,g4,g5⟩
    first
    |(rcases xU with⟨q1,_⟩|⟨_,_,_,q4⟩;exact absurd g1 q1;omega)
    |omega
    |(have h9:=g4 k hk0 (by omega);first|exact absurd h9.1 ‹_›|(have:=h9.2;omega))
    |(have h9:=g5 i hi0 (by omega);have h8:=hf i hi0 (by omega);rw [show k=u by omega] at h8;omega)
   refine zx4<|(zV (Zh (r:=i+1)))<|(zP)<|zln<|zlq ⟨i+1,rfl,(by omega),(by omega),?_,rfl,hS⟩
   ·
    intro j j0 j1;rcases Int.lt_or_eq_of_le (show j<=i by omega) with h9|h9
    · exact hge j j0 h9
    · rw [h9];omega
  refine zx8<|(zP)<|zx1<|zf1 ⟨_,rfl,?_⟩
  exact⟨ZX ⟨hsd,by omega,by omega,fun k k0 k1=>qa k k0 (by omega),fun j j0 j1=>by have h9:=hge j j0 (by omega);have h8:=hf j j0 j1;rw [show k=u by omega] at h8;omega⟩,hS.nl⟩
  all_goals
   refine zOps ?_
   refine zlt<|zct<|zsr ?_
   refine zOps ?_
   refine zx14<|zf1 ⟨_,rfl,?_⟩
   refine⟨Ze ?_,hS.nl⟩
   rintro⟨g1,g2,g3,g4,g5⟩
   first
   |(rcases xU with⟨q1,_⟩|⟨_,_,_,q4⟩;exact absurd g1 q1;omega)
   |omega
   |(have h9:=g4 k hk0 (by omega);first|exact absurd h9.1 ‹_›|(have:=h9.2;omega))
   |(have h9:=g5 i hi0 (by omega);have h8:=hf i hi0 (by omega);rw [show k=u by omega] at h8;omega)
end Go.Proofs.YtkichmnjjblodaaGreat
namespace Go.Proofs.YtkichmnjjblodaaGreat
open Go Go.RowKit Go.Proofs.Gw
theorem ZkG:Zc Tryz.prog 166=true:=by kernel_rfl
theorem ZkF:Zc Tryz.prog 167=true:=by kernel_rfl
theorem ZeU (s:So) (ml:Int->Int) (mf:Int->Int->Int):∀n:Nat,∀k,0<=k->k<flN s n->∃q:Nat,q<n/\s.den<=s.X q/\flL s ml n k=ml q/\flG s mf n k=mf q/\flC s n k=(s.X q).tdiv s.den
  |0,k,k0,k1=>by simp [flN] at k1;omega
  | n + 1,k,k0,k1=>by
    simp only [flN,flL,flG,flC] at k1⊢
    by_cases h:s.den<=s.X n
    · rw [if_pos h] at k1⊢
      rw [if_pos h,if_pos h]
      by_cases e:k<flN s n
      · obtain⟨q,h1,h2,h3,h4,h5⟩:=ZeU s ml mf n k k0 e
        exact⟨q,by omega,h2,by rw [Zx e];exact h3,by rw [Zx e];exact h4,by rw [ZA e];exact h5⟩
      · exact⟨n,by omega,h,ZL e,ZL e,ZB e⟩
    · rw [if_neg h] at k1⊢
      rw [if_neg h,if_neg h]
      obtain⟨q,h1,h2,h3,h4,h5⟩:=ZeU s ml mf n k k0 k1
      exact⟨q,by omega,h2,h3,h4,h5⟩
def WholeR(p:Prob)(u:Int)(ml:Int->Int)(mf:Int->Int->Int)(s:So)(n:Int)(ln:Int->Int)(pt:Int->Int->Int)(cnt:Int->Int)(e:Int):Prop:=
  (¬(p.Ok/\Zd4 p u ml mf s)/\n=0/\e=1)\/(p.Ok/\Zd4 p u ml mf s/\ZgJ p e/\e≠0/\n=0)\/
  (p.Ok/\Zd4 p u ml mf s/\ZgJ p 0/\e=0/\n=flN s u.toNat/\ln=flL s ml u.toNat/\pt=flG s mf u.toNat/\cnt=flC s u.toNat)
theorem WholeR.ok{p:Prob}{u n:Int}{ml ln cnt:Int->Int}{mf pt:Int->Int->Int}{s:So}{e:Int}(h:WholeR p u ml mf s n ln pt cnt e)(he:e=0)(hu:0<=u):p.Ok/\Zd4 p u ml mf s/\psum (fun _=>1) p.D p.m.toNat<=1000/\n<=60/\PlanOk p n ln pt cnt/\0<=n:=by
  rcases h with⟨_,_,h⟩|⟨_,_,_,h,_⟩|⟨h1,h2,h3,_,h4,h5,h6,h7⟩
  · omega
  · exact absurd he h
  · have hr:=Ks s u.toNat
    have hu6:=h2.2.2.1
    refine⟨h1,h2,?_,by omega,⟨h1,by omega,fun k k0 k1=> ?_⟩,by omega⟩
    · rcases h3 with⟨h,_⟩|⟨_,_,h⟩|⟨_,h,_⟩
      · exact absurd h1 h
      · omega
      · exact h
    · rw [h4] at k1
      obtain⟨q,q1,q2,q3,q4,q5⟩:=ZeU s ml mf u.toNat k k0 k1
      rw [h5,h6,h7,q3,q4,q5]
      obtain⟨g1,g2⟩:=h2.2.2.2.1 q (by omega) (by omega)
      have hd:=h2.1.1
      refine⟨?_,g2,g1.1⟩
      rw [Int.tdiv_eq_ediv_of_nonneg (by omega)]
      exact(Int.le_ediv_iff_mul_le (by omega)).2 (by omega)
theorem ZeF{p:Prob}(hok:p.Ok){f:Int->Int}(hf:∀k,0<=k->k<p.m->0<=f k):(⟨p.m,p.L,p.d,YB p f,p.stock,p.kerf⟩:Prob).Ok:=by
  refine⟨hok.m1,hok.m2,hok.d,hok.s1,hok.s2,hok.k1,hok.k2,fun i i0 i1=> ?_⟩
  have he:=hok.all i i0 i1
  have h1:=TB hok i0 i1
  have h2:=hf i i0 i1
  unfold Prob.each at he⊢
  have e:YB p f i=max 0 (p.D i-f i):=if_pos ⟨i0,i1⟩
  show _/\_
  dsimp only
  rw [e]
  omega
theorem Uk{p:Prob}(hok:p.Ok){f:Int->Int}(hf:∀k,0<=k->k<p.m->0<=f k):∀n:Nat,(n:Int)<=p.m->psum (fun _=>1) (YB p f) n<=psum (fun _=>1) p.D n
  |0,_=>Int.le_refl _
  | n+1,hn=>by
    have h1:=Uk hok hf n (by omega)
    have h2:=hf n (by omega) (by omega)
    have h3:=TB hok (k:=(n:Int)) (by omega) (by omega)
    have e:YB p f n=max 0 (p.D n-f n):=if_pos ⟨by omega,by omega⟩
    simp only [psum,e]
    omega
theorem ZcW{vL vD:Value}{p:Prob}{vM:Value}{u:Int}{mv:Int->Value}{ml:Int->Int}{mf:Int->Int->Int}{vX vY:Value}{s:So}(w0:World)(h:PAt w0 vL vD p)(hM:MAt w0 vM u mv ml mf)(hX:Row w0 vX 1 s.n (ints s.X))(hY:Row w0 vY 1 s.m (ints s.Y))(yd:s.n<=1000):
    Calls Tryz.prog 125 [.agg #[vL,vD,.int .i64 p.stock,.int .i64 p.kerf],.agg #[vM,vX,vY,.int .i64 s.val,.int .i64 s.den]].toArray w0 fun e w=>∃v,e= .returned v/\∃r n pv ln pt cnt e,v= .tuple #[r,.int .i64 e]/\WholeR p u ml mf s n ln pt cnt e/\Slh r n/\Sat w0 w [.own r 2 107 n (Zg pv cnt),.sem (Frame.rows 3 n pv ln pt)]:=by
  have hm:=h.L.slh.n0;have hm1:=h.L.slh.n1;have hd:=h.D.slh.n0;have hd1:=h.D.slh.n1;have hs:=h.is;have hk:=h.ik
  have hu:=hM.row.slh.n0;have hu1:=hM.row.slh.n1;have hn:=hX.slh.n0;have hn1:=hX.slh.n1
  refine zenG Tryz.func125 Tryz.ntmps125 fun w hS=> ?_
  refine zsr<|zla (xbx (cs:= [_,_,_,_]) hS) ?_;rintro _ w ⟨g1,rfl,hS⟩
  refine zla (xbx (cs:= [_,_,_,_,_]) hS) ?_;rintro _ w ⟨g2,rfl,hS⟩
  refine(zP)<|(zP)<|zx5<|(zV (xls 0 st_32 hS))<|zlc (xc0 XK) (Yb (p:=p) w (h.below hS.below)) ?_;rintro _ w ⟨rfl,hS'⟩
  replace hS:=hS.cmp hS';clear hS'
  refine(zP)<|(zP)<|zlb 12 ?_ ?_<;>intro hc
  ·
   iterate 4 refine zlo ?_
   refine(zP)<|zlt<|zct<|zsr ?_
   refine(zP)<|(zP)<|zx14<|zf2 ⟨_,rfl,?_⟩
   exact⟨_,0,fun _=>undef,fun _=>0,fun _ _=>0,fun _=>0,1,rfl,.inl ⟨by first|exact fun hh=>absurd hh.1 ‹¬p.Ok›|exact fun hh=>absurd hh.2 ‹_›,rfl,rfl⟩,slh_nil,((hS.sub (.cons _ (.cons _ .slnil))).addnil 2 107 (Zg (fun _=>undef) (fun _=>0))).addrows 3 (fun _=>undef) (fun _=>0) (fun _ _=>0)⟩
  refine(zV (xls 0 st_32 hS))<|(zV (xls 1 Xe hS))<|zlc (xc0 ZkG) (ZdV (p:=p) (u:=u) (ml:=ml) (mf:=mf) (s:=s) w (h.below hS.below) (by first|assumption|exact Classical.not_not.1 ‹_›) (hM.below hS.below) (hX.below hS.below) (hY.below hS.below) yd) ?_;rintro _ w ⟨rfl,hS'⟩
  replace hS:=hS.cmp hS';clear hS'
  refine(zP)<|(zP)<|zlt<|Zf ?_ ?_<;>intro hc
  ·
   refine zsr<|(zP)<|(zP)<|zx14<|zf2 ⟨_,rfl,?_⟩
   exact⟨_,0,fun _=>undef,fun _=>0,fun _ _=>0,fun _=>0,1,rfl,.inl ⟨by first|exact fun hh=>absurd hh.1 ‹¬p.Ok›|exact fun hh=>absurd hh.2 ‹_›,rfl,rfl⟩,slh_nil,((hS.sub (.cons _ (.cons _ .slnil))).addnil 2 107 (Zg (fun _=>undef) (fun _=>0))).addrows 3 (fun _=>undef) (fun _=>0) (fun _ _=>0)⟩
  refine YK<|(zV (xls 0 st_32 hS))<|zlc (xc0 ZfB) (Zc2 (p:=p) w (h.below hS.below)) ?_;rintro _ w ⟨c5,rfl,ae,hS'⟩
  replace hS:=hS.cmp hS';clear hS'
  have xb:p.Ok:=by first|assumption|exact Classical.not_not.1 ‹_›
  have xk:Zd4 p u ml mf s:=by first|assumption|exact Classical.not_not.1 ‹_›
  have xD:=xb
  refine(zP)<|zlz<|(zP)<|(zP)<|zlt<|Zf ?_ ?_<;>intro hc
  ·
   refine zsr<|(zP)<|(zP)<|(zP)<|zx14<|zf2 ⟨_,rfl,?_⟩
   exact⟨_,0,fun _=>undef,fun _=>0,fun _ _=>0,fun _=>0,_,rfl,.inr (.inl ⟨xb,xk,ae,by omega,rfl⟩),slh_nil,((hS.sub (.cons _ (.cons _ .slnil))).addnil 2 107 (Zg (fun _=>undef) (fun _=>0))).addrows 3 (fun _=>undef) (fun _=>0) (fun _ _=>0)⟩
  refine ZR<|zlv (xfb 0 VT) ?_
  have hml:=fun k k0 k1=>(show ml k<=100000 by have:=(VG (xk.2.2.2.1 k k0 k1).1).1;have:=xb.m2;omega)
  have hun:=xk.2.1
  refine(zV (xlb 1 ZQ hS))<|(zV (xfb 1 fd_141_1))<|(zV (xlp 1 (ds:= [vX,vY,.int .i64 s.val,.int .i64 s.den]) ZM hS))<|zlc (xc0 ZkF) (ZdU (u:=u) (ml:=ml) (mf:=mf) (s:=s) w (hM.below hS.below) (hX.below hS.below) (hY.below hS.below) (by omega) (fun k k0 k1=>by have:=hml k k0 k1;omega)) ?_;rintro _ w ⟨gk,eM,je,jf,jg,ji,jh,rfl,cS,ck,hS'⟩
  replace hS:=(hS.comp hS').n4;clear hS'
  have fC:=fun k (k0:0<=k) (k1:k<eM)=>hS.slhIn 3 rfl k0 k1
  refine zs5 ?_
  refine zlz<|(zP)<|(zP)<|(zP)<|zx1<|zf2 ⟨_,rfl,?_⟩
  have hfl:=cS.resolve_left fun hh=>hh.1 ⟨xk.1,xk.2.1.symm⟩
  exact⟨_,_,_,_,_,_,0,rfl,.inr (.inr ⟨xb,xk,(by rw [show(0:Int)=c5 by omega];exact ae),rfl,hfl.2.2.1,hfl.2.2.2.1,hfl.2.2.2.2.1,hfl.2.2.2.2.2.1⟩),ck,hS.pk [2,3]⟩
end Go.Proofs.YtkichmnjjblodaaGreat
namespace Go.Proofs.YtkichmnjjblodaaGreat
open Go Go.RowKit Go.Proofs.Gw
theorem Zfz:Zc Tryz.prog 125=true:=by kernel_rfl
theorem Zfy:Zc Tryz.prog 126=true:=by kernel_rfl
theorem Zk3:Zc Tryz.prog 127=true:=by kernel_rfl
theorem Zfx:Zc Tryz.prog 128=true:=by kernel_rfl
theorem Zma{w:World}{v a b:Value}(h:Row w v 1 2 (fun k=> [a,b].getD k.toNat undef)):Row w v 1 2 (Z1 a b):=⟨h.1,fun k hk=>by
  have:=h.2 k hk
  rcases k with _|_|k
  · exact this
  · exact this
  · simp at hk;omega⟩
theorem VAt.cat{w:World}{v v1 v2:Value}{n1 n2:Int}{pv1 pv2:Int->Value}{ln1 ln2 c1 c2:Int->Int}{pt1 pt2:Int->Int->Int}(hr:Row w v 2 (n1+n2) (Zg (cat n1 pv1 pv2) (cat n1 c1 c2)))(h1:VAt w v1 n1 pv1 ln1 pt1 c1)(h2:VAt w v2 n2 pv2 ln2 pt2 c2)(n10:0<=n1):VAt w v (n1+n2) (cat n1 pv1 pv2) (cat n1 ln1 ln2) (cat n1 pt1 pt2) (cat n1 c1 c2):=by
  refine⟨hr,fun i i0 i1=> ?_,fun i i0 i1=> ?_⟩
  · unfold Gw.cat
    by_cases h:i<n1
    · rw [if_pos h,if_pos h,if_pos h];exact h1.p i i0 h
    · rw [if_neg h,if_neg h,if_neg h];exact h2.p (i-n1) (by omega) (by omega)
  · unfold Gw.cat
    by_cases h:i<n1
    · rw [if_pos h];exact h1.room i i0 h
    · rw [if_neg h];exact h2.room (i-n1) (by omega) (by omega)
theorem Zm4(n m:Int)(p q:Int->Value){k:Int}(k0:0<=k)(k1:k<n+m):KM (Z1 n m) (Z1 p q) 2 k=cat n p q k:=by
  simp only [KM,tot,Z1,Gw.cat]
  by_cases h:k<n
  · simp [h];omega
  · simp [h]
theorem RF(n m:Int)(p q:Int->Int){k:Int}(k0:0<=k)(k1:k<n+m):Vg (Z1 n m) (Z1 p q) 2 k=cat n p q k:=by
  simp only [Vg,tot,Z1,Gw.cat]
  by_cases h:k<n
  · simp [h];omega
  · simp [h]
def DownR(p:Prob)(u:Int)(ml:Int->Int)(mf:Int->Int->Int)(s:So)(out:Us)(e:Int):Prop:=
  (e≠0/\out= []/\∃n ln pt cnt,WholeR p u ml mf s n ln pt cnt e)\/(∃n1 ln1 pt1 yZ n2 ln2 pt2 qh,WholeR p u ml mf s n1 ln1 pt1 yZ 0/\0<=n1/\0<=n2/\NormR (TR (YV p.m (p.stock+p.kerf) (szP p) (pcsTo (YB p (Zr n1 pt1 yZ)) p.m 0))) (plL n2 ln2 pt2 qh)/\TrimR p (n1+n2) (cat n1 ln1 ln2) (cat n1 pt1 pt2) (cat n1 yZ qh) out e)
theorem ZlJ{vL vD:Value}{p:Prob}{vM:Value}{u:Int}{mv:Int->Value}{ml:Int->Int}{mf:Int->Int->Int}{vX vY:Value}{s:So}(w0:World)(h:PAt w0 vL vD p)(hM:MAt w0 vM u mv ml mf)(hX:Row w0 vX 1 s.n (ints s.X))(hY:Row w0 vY 1 s.m (ints s.Y))(yd:s.n<=1000):
    Calls Tryz.prog 87 [.agg #[vL,vD,.int .i64 p.stock,.int .i64 p.kerf],.agg #[vM,vX,vY,.int .i64 s.val,.int .i64 s.den]].toArray w0 fun e w=>∃v,e= .returned v/\∃r n pv ln pt cnt e,v= .tuple #[r,.int .i64 e]/\DownR p u ml mf s (plL n ln pt cnt) e/\(∀k,0<=k->k<n->1<=cnt k/\cnt k<=1000000000)/\n<=1000000/\Slh r n/\Sat w0 w [.own r 2 107 n (Zg pv cnt),.sem (Frame.rows 3 n pv ln pt)]:=by
  have hm:=h.L.slh.n0;have hm1:=h.L.slh.n1;have hd:=h.D.slh.n0;have hd1:=h.D.slh.n1;have hs:=h.is;have hk:=h.ik
  have hu:=hM.row.slh.n0;have hu1:=hM.row.slh.n1;have hn:=hX.slh.n0;have hn1:=hX.slh.n1
  refine zenG Tryz.func87 Tryz.ntmps87 fun w hS=> ?_
  refine zsr<|zla (xbx (cs:= [_,_,_,_]) hS) ?_;rintro _ w ⟨g1,rfl,hS⟩
  refine zla (xbx (cs:= [_,_,_,_,_]) hS) ?_;rintro _ w ⟨g2,rfl,hS⟩
  refine(zP)<|(zP)<|zlz<|(zV (xls 0 st_32 hS))<|(zV (xls 1 Xe hS))<|zlc (xc0 Zfz) (ZcW (p:=p) (u:=u) (ml:=ml) (mf:=mf) (s:=s) w (h.below hS.below) (hM.below hS.below) (hX.below hS.below) (hY.below hS.below) yd) ?_;rintro _ w ⟨qY,qe,qF,xj,qR,qI,bk,rfl,xz,zf,hS'⟩
  replace hS:=(hS.comp hS').n4;clear hS'
  have aM:=fun k (k0:0<=k) (k1:k<qe)=>hS.slhIn 3 rfl k0 k1
  refine zs5 ?_
  refine zx5<|(zP)<|(zP)<|zlt<|Zf ?_ ?_<;>intro hc
  ·
   refine zsr<|(zP)<|(zP)<|(zP)<|zx14<|zf2 ⟨_,rfl,?_⟩
   exact⟨_,0,fun _=>undef,fun _=>0,fun _ _=>0,fun _=>0,_,rfl,.inl ⟨by omega,rfl,_,_,_,_,xz⟩,fun k k0 k1=>by omega,by omega,slh_nil,((hS.sub (.cons _ (.cons _ (.cons _ (.cons _ .slnil))))).addnil 2 107 (Zg (fun _=>undef) (fun _=>0))).addrows 3 (fun _=>undef) (fun _=>0) (fun _ _=>0)⟩
  refine ZR<|zlv (xls 0 st_32 hS) ?_
  obtain⟨xb,xk,aI,em,aO,aQ⟩:=xz.ok (by omega) hu
  have xD:=xb
  refine(zP)<|zlc (xc0 ZcP) (UV (u:=qe) (pv:=qF) (ln:=xj) (pt:=qR) (cnt:=qI) (p:=p) w (⟨(hS.rowN 2 rfl),fun k k0 k1=>hS.rowIn 3 rfl k0 k1,fun k k0 k1=>hS.roomIn 3 rfl k0 k1⟩:VAt _ qY qe qF xj qR qI) (h.below hS.below)) ?_;rintro _ w ⟨qw,qf,qc,yG,rfl,qA,qo,hS'⟩
  replace hS:=(hS.comp hS').n5;clear hS'
  obtain⟨bv,zx⟩:qf=p.m/\qc=Zr qe qR qI:=by rcases qA with⟨g1,_⟩|⟨_,g2,g3,_⟩;exact absurd aO g1;exact⟨g2,g3⟩
  have aY:∀k,0<=k->k<p.m->0<=qc k/\qc k<=2000000000:=fun k k0 k1=>by rw [zx];have h9:=Xz aO.2.2 aQ (Int.le_refl _) k0 k1;omega
  have ac:=fun k (k0:0<=k) (k1:k<p.m)=>(aY k k0 k1).1
  have htl:=Uk xb ac p.m.toNat (by have:=xb.m1;omega)
  refine zs5 ?_
  refine zx7<|zdst [0,1,2,3,4] [0,1,2,3,4] 1000 mx_ hS ?_;clear hS;intro w hS
  refine(zDl 0 (fun w hS=>(xls 0 st_32 hS)))<|(zDw 1 xmv)<|(zDl 2 (fun w hS=>(xls 0 st_32 hS)))<|(zDw 3 xmv)<|zdc 4 (xc0 Zfx) (Zgd (p:=p) (f:=qc) w (h.below hS.below) xb (bv▸(hS.rowN 4 rfl)) aY) ?_;rintro _ w ⟨xt,xi,rfl,ym,yJ,hS'⟩
  replace hS:=(hS.comp hS').n7;clear hS'
  refine⟨⟨fun _=>hS.pk [0,1,2,3,4],hS.pk [0,1,2,3,4]⟩,?_⟩
  refine zdc 5 (xc0 ZfA) (TJ (p:=(⟨p.m,p.L,p.d,(YB p qc),p.stock,p.kerf⟩:Prob)) w (⟨(hS.rowN 5 rfl),(hS.rowN 6 rfl),h.iL,(ZdB xb ac),(by(try dsimp only);omega),(by(try dsimp only);omega)⟩:PAt _ _ _ (⟨p.m,p.L,p.d,(YB p qc),p.stock,p.kerf⟩:Prob)) (ZeF xb ac) (by show psum (fun _=>1) (YB p _) p.m.toNat<=1000;omega)) ?_;rintro xK w ⟨_,qG,xx,yb,yg,xH,rfl,xq,xu,yF,x7,xP,hS'⟩
  replace hS:=(hS.comp hS').n9;clear hS'
  have yt:=fun k (k0:0<=k) (k1:k<qG)=>hS.slhIn 8 rfl k0 k1
  refine⟨⟨fun _=>hS.pk [0,1,2,3,4],hS.pk [0,1,2,3,4]⟩,?_⟩
  refine zda 6 (xli (n:=2) (len:=2) (pv:= [(0,qY),(1,xK)]) (cs:= [qY,xK]) (c:=fun k=>([(qY:Value),(xK:Value)]).getD k.toNat undef) Tc ZiF hS (hf:=by obtain⟨_,_,_,_,rfl,_⟩:=zf;obtain⟨_,_,_,_,rfl,_⟩:=xP;kernel_rfl)) ?_;rintro v1 w ⟨hS,hv1⟩
  refine⟨⟨fun _=>hS.pk [0,1,2,3,4],hS.pk [0,1,2,3,4]⟩,?_⟩
  have hna:=Zny (w:=w) (n:=qe) (m:=qG) (pa:=qF) (pb:=xx) (ca:=qI) (cb:=xH) (Zma (hS.rowN 9 rfl)) (hS.rowN 2 rfl) (hS.rowN 7 rfl) (fun k k0 k1=>(aM k k0 k1).one) (fun k k0 k1=>(yt k k0 k1).one)
  have htt:∀k:Int,0<=k->k<=2->tot (Z1 qe qG) k.toNat<=10000000:=fun k k0 k1=>by
    have:k=0\/k=1\/k=2:=by omega
    rcases this with rfl|rfl|rfl
    · simp [tot]
    · simp [tot,Z1];omega
    · have e2:=ZgN qe qG;rw [show(2:Int).toNat=2 from rfl,e2];omega
  refine zdc 7 (xc0 Zk3) (ZdY w hna htt) ?_;rintro vq1 w ⟨_,rfl,qb,hS'⟩
  rw [show(2:Int).toNat=2 from rfl,ZgN] at qb hS'
  replace hS':=hS'.recont 0 rfl (d:=Zg (cat qe qF xx) (cat qe qI xH)) (fun k k0 k1=>by unfold Zg;rw [Zm4 _ _ _ _ (by omega) (by omega),RF _ _ _ _ (by omega) (by omega)])
  replace hS:Sat w0 w [.blk g1 [vL,vD,.int .i64 p.stock,.int .i64 p.kerf],.blk g2 [vM,vX,vY,.int .i64 s.val,.int .i64 s.den],.own qY 2 107 qe (Zg qF qI),.sem (Frame.rows 3 qe qF xj qR),.own qw 1 3 qf (ints qc),.own xt 1 3 p.m (ints p.L),.own xi 1 3 p.d (ints (YB p qc)),.own xK 2 107 qG (Zg xx xH),.sem (Frame.rows 3 qG xx yb yg),.own v1 1 60 2 (fun k=>([(qY:Value),(xK:Value)]).getD k.toNat undef),.own vq1 2 107 (qe+qG) (Zg (cat qe qF xx) (cat qe qI xH))]:=hS.comp hS'
  clear hS'
  refine⟨⟨fun _=>hS.pk [0,1,2,3,4],hS.pk [0,1,2,3,4]⟩,?_⟩
  refine zdc 8 (xc0 Zfy) (ZfN (u:=(qe+qG)) (pv:=(cat qe qF xx)) (ln:=(cat qe xj yb)) (pt:=(cat qe qR yg)) (cnt:=(cat qe qI xH)) (p:=p) w (VAt.cat (hS.rowN 10 rfl) (⟨(hS.rowN 2 rfl),fun k k0 k1=>hS.rowIn 3 rfl k0 k1,fun k k0 k1=>hS.roomIn 3 rfl k0 k1⟩:VAt _ qY qe qF xj qR qI) (⟨(hS.rowN 7 rfl),fun k k0 k1=>hS.rowIn 8 rfl k0 k1,fun k k0 k1=>hS.roomIn 8 rfl k0 k1⟩:VAt _ xK qG xx yb yg xH) (by omega)) (h.below hS.below)) ?_;rintro _ w ⟨da,au,dv,dD,eL,eR,eP,rfl,zk,zm,zl,zg,hS'⟩
  replace hS:=(hS.comp hS').n13;clear hS'
  have cA:=fun k (k0:0<=k) (k1:k<au)=>hS.slhIn 12 rfl k0 k1
  refine⟨⟨fun _=>hS.pk [0,1,2,3,4],hS.pk [0,1,2,3,4]⟩,?_⟩
  refine(zDw 9 xex)<|(zDw 10 xex)<|(zDw 11 xas)<|(zDw 12 xas)<|zdd<|ztn<|zrt<|zf2 ⟨_,rfl,?_⟩
  exact⟨_,_,_,_,_,_,_,rfl,.inr ⟨_,_,_,_,_,_,_,_,(by rw [show(0:Int)=bk by omega];exact xz),aQ,xu,(by rw [<-zx];exact xq),zk⟩,zm,zl,zg,hS.pk [11,12]⟩
end Go.Proofs.YtkichmnjjblodaaGreat
namespace Go.Proofs.YtkichmnjjblodaaGreat
open Go Go.RowKit Go.Proofs.Gw
variable {a b nm:Int} {gs:Nat} {vd:Value}
theorem KH:Zc Tryz.prog 130=true:=by kernel_rfl
theorem ZkB:Zc Tryz.prog 171=true:=by kernel_rfl
theorem Zfq:Zc Tryz.prog 197=true:=by kernel_rfl
theorem KF:Zc Tryz.prog 198=true:=by kernel_rfl
theorem Zkc:Zc Tryz.prog 214=true:=by kernel_rfl
theorem ZbR:Zc Tryz.prog 224=true:=by kernel_rfl
theorem Zb3{n:Int}{s:Int->Int}{F:Gw.Frame}{m:Int}(w0 w:World)(hS:Sat w0 w [.own vd 1 3 n (ints s),.sem F])(hsl:Slh vd n)(hn8:n<=100000000)(a0:0<=a)(m0:0<=m)(ab:a+m<=b)(bn:b+m<=n):
    Calls Tryz.prog 224 [vd,.int .i64 a,.int .i64 b,.int .i64 m,.func (.func 130) #[] #[(.pointer (some ⟨gs,0,none⟩))]].toArray w fun e w=>∃v,e= .returned v/\v= .tuple #[]/\Sat w0 w [.own vd 1 3 n (ints (swr s a b m)),.sem F]:=by
  refine zenF Tryz.func224 Tryz.ntmps224 ?_
  refine zsr<|(zP)<|zx6<|zlp (fun mm M w=>∃(t:Int->Int) (i:Int),mm=((m-i).toNat)/\(0<=i)/\(i<=m)/\(t=swr s a b i)/\M= [(0,vd),(1,.int .i64 a),(2,.int .i64 b),(3,.int .i64 m),(10,.int .i64 i)]/\Sat w0 w [.own vd 1 3 n (ints t),.sem F]) ⟨s,0,rfl,(by omega),(by omega),?_,rfl,hS⟩ ?_
  ·
   exact(Zag s a b).symm
  clear hS w
  rintro mm M w ⟨t,i,rfl,i0,i1,ht,rfl,hS⟩
  refine zx11<|(zP)<|(zP)<|(zP)<|zlt<|Zf ?_ ?_<;>intro hc
  ·
   refine zx29<|zdst [0,1] [1] 21 mx_ hS ?_;clear hS;intro w hS
   refine(zDw 0 xmv)<|(zDw 1 xmv)<|(zDw 2 xmv)<|(zDw 3 (Zh (r:=a+i)))<|(zDw 4 xmv)<|(zDw 5 xmv)<|(zDw 6 xmv)<|(zDw 7 (Zh (r:=b+i)))<|(zDw 8 xmv)<|(zDw 9 xmv)<|(zDw 10 xmv)<|(zDw 11 (Zh (r:=b+i)))<|(zDw 12 (xix (kk:=b+i) Zb hsl))<|zdl 13 (fun w hS=>(xlr (u:= .int .i64 (t (b+i))) pl_3 (hS.rowN 0 rfl))) ?_
   refine(zDw 14 xmv)<|(zDw 15 xmv)<|(zDw 16 xmv)<|(zDw 17 (Zh (r:=a+i)))<|(zDw 18 (xix (kk:=a+i) Zb hsl))<|zdl 19 (fun w hS=>(xlr (u:= .int .i64 (t (a+i))) pl_3 (hS.rowN 0 rfl))) ?_
   refine(zDw 20 (xix (kk:=a+i) Zb hsl))<|zde 21 (xso 0 pl_3 hS rfl) ?_;clear hS;rintro w hS
   refine⟨⟨fun h=>absurd h (by decide),hS.pk [1]⟩,?_⟩
   refine(zDw 22 (xix (kk:=b+i) Zb hsl))<|zde 23 (xso 0 pl_3 hS (VS t (a+i) (b+i))) ?_;clear hS;rintro w hS
   refine⟨⟨fun h=>absurd h (by decide),hS.pk [1]⟩,?_⟩
   refine zdd<|zbn<|ztn<|zrg ?_
   refine(zP)<|(zV (Zh (r:=i+1)))<|(zP)<|zln<|zlq ⟨swp t (a+i) (b+i),i+1,rfl,(by omega),(by omega),?_,rfl,hS⟩
   ·
    rw [ht];exact Zah i0 (by omega) (by omega) (by omega)
  refine zxt<|ztx<|ztx<|zbh<|XC ⟨_,rfl,?_⟩
  obtain rfl:i=m:=by omega
  subst ht
  exact⟨rfl,hS⟩
theorem Zlj{n:Int}{s:Int->Int}{F:Gw.Frame}{m:Int}(w0 w:World)(hS:Sat w0 w [.own vd 1 3 n (ints s),.sem F])(hsl:Slh vd n)(hn8:n<=100000000)(a0:0<=a)(am:a<m)(mb:m<b)(bn:b<=n):
    Calls Tryz.prog 214 [vd,.int .i64 a,.int .i64 m,.int .i64 b,.func (.func 130) #[] #[(.pointer (some ⟨gs,0,none⟩))]].toArray w fun e w=>∃v,e= .returned v/\v= .tuple #[]/\Sat w0 w [.own vd 1 3 n (ints (rot s a m b)),.sem F]:=by
  refine zenF Tryz.func214 Tryz.ntmps214 ?_
  refine zsr<|(zP)<|(zP)<|(zV (Zp (r:=m-a)))<|(zP)<|zlz<|(zP)<|(zP)<|(zV (Zp (r:=b-m)))<|(zP)<|zlt<|zsq<|zbk<|zlp (fun mm M w=>∃(t:Int->Int) (i:Int) (j:Int),mm=((i+j).toNat)/\(1<=i)/\(1<=j)/\(a<=m-i)/\(m+j<=b)/\(rot t (m-i) m (m+j)=rot s a m b)/\M= [(0,vd),(2,.int .i64 m),(4,.func (.func 130) #[] #[(.pointer (some ⟨gs,0,none⟩))]),(10,.int .i64 i),(11,.int .i64 j)]/\Sat w0 w [.own vd 1 3 n (ints t),.sem F]) ⟨s,m-a,b-m,rfl,(by omega),(by omega),(by omega),(by omega),?_,rfl,hS⟩ ?_
  ·
   rw [show m-(m-a)=a by omega,show m+(b-m)=b by omega]
  clear hS w
  rintro mm M w ⟨t,i,j,rfl,i0,j0,ia,jb,hr,rfl,hS⟩
  refine zx11<|(zP)<|(zP)<|(zP)<|zlt<|Zf ?_ ?_<;>intro hc
  ·
   refine zsk<|ztn<|zbk<|zsr<|(zP)<|(zP)<|(zP)<|zlt<|Zf ?_ ?_<;>intro hc
   ·
    refine zsr<|(zP)<|(zP)<|(zP)<|(zV (Zp (r:=m-i)))<|(zP)<|(zP)<|(zP)<|zlc (xc0 ZbR) (Zb3 (s:=t) (a:=m-i) (b:=m) (m:=j) w0 w hS hsl hn8 (by omega) (by omega) (by omega) (by omega)) ?_;rintro _ w ⟨rfl,hS⟩
    refine zlt<|zrg<|(zP)<|(zP)<|(zV (Zp (r:=i-j)))<|(zP)<|zln<|zbn<|zlq ⟨(swr t (m-i) m j),i-j,j,rfl,(by omega),(by omega),(by omega),(by omega),?_,rfl,hS⟩
    ·
     first|(rw [<-hr,show m-(i-j)=m-i+j by omega];exact VF (by omega) (by omega))|(rw [<-hr,show m+(j-i)=m+j-i by omega];exact WX (by omega) (by omega))
   refine zsr<|(zP)<|(zP)<|(zP)<|(zV (Zp (r:=m-i)))<|(zP)<|(zP)<|(zV (Zh (r:=m+j)))<|(zP)<|(zV (Zp (r:=m+j-i)))<|(zP)<|(zP)<|zlc (xc0 ZbR) (Zb3 (s:=t) (a:=m-i) (b:=m+j-i) (m:=i) w0 w hS hsl hn8 (by omega) (by omega) (by omega) (by omega)) ?_;rintro _ w ⟨rfl,hS⟩
   refine zlt<|zrg<|(zP)<|(zP)<|(zV (Zp (r:=j-i)))<|(zP)<|zln<|zbn<|zlq ⟨(swr t (m-i) (m+j-i) i),i,j-i,rfl,(by omega),(by omega),(by omega),(by omega),?_,rfl,hS⟩
   ·
    first|(rw [<-hr,show m-(i-j)=m-i+j by omega];exact VF (by omega) (by omega))|(rw [<-hr,show m+(j-i)=m+j-i by omega];exact WX (by omega) (by omega))
  refine zxt<|ztx<|ztx<|zbh<|ztn<|zrg<|(zP)<|(zP)<|(zP)<|(zV (Zp (r:=m-i)))<|(zP)<|(zP)<|(zP)<|zlc (xc0 ZbR) (Zb3 (s:=t) (a:=m-i) (b:=m) (m:=i) w0 w hS hsl hn8 (by omega) (by omega) (by omega) (by omega)) ?_;rintro _ w ⟨rfl,hS⟩
  refine zln<|XC ⟨_,rfl,?_⟩
  have hz:(swr t (m-i) m i)=rot s a m b:=by
    rw [<-hr,show j=i by omega];exact Zat (by omega)
  rw [hz] at hS
  exact⟨rfl,hS⟩
theorem Zgl {n:Int} {s:Int->Int} {lt:Int->Int->Prop} {F:Gw.Frame} (w0 w:World) (hS:Sat w0 w [.own vd 1 3 n (ints s),.sem F]) (hsl:Slh vd n) (hn8:n<=100000000) (qv:∀(w:World) (x y:Int),0<=x->x<nm->0<=y->y<nm->Below w0.heap.size w0 w->F.holds w->Calls Tryz.prog 130 [.int .i64 x,.int .i64 y,(.pointer (some ⟨gs,0,none⟩))].toArray w fun e w'=>∃v,e= .returned v/\∃c:Int,v= .int .i64 c/\(c<0↔lt x y)/\Sat w w' []) (hd:∀k,0<=k->k<n->0<=s k/\s k<nm) (hw:Swo lt) (a0:0<=a) (ab:a<=b) (bn:b<=n) (qQ:UN a b s):
    Calls Tryz.prog 197 [vd,.int .i64 a,.int .i64 b,.func (.func 130) #[] #[(.pointer (some ⟨gs,0,none⟩))]].toArray w fun e w=>∃v,e= .returned v/\v= .tuple #[]/\∃t:Int->Int,PermOn a b s t/\Srt (Tie lt) a b t/\Sat w0 w [.own vd 1 3 n (ints t),.sem F]:=by
  refine zenF Tryz.func197 Tryz.ntmps197 ?_
  refine zsr<|(zP)<|(zV (Zh (r:=a+1)))<|(zP)<|zx6<|zlp (fun mm M w=>∃(t:Int->Int) (i:Int),mm=((b-i).toNat)/\(a+1<=i)/\(i<=b\/i=a+1)/\(PermOn a i s t)/\(Srt (Tie lt) a i t)/\(∀k,0<=k->k<n->0<=t k/\t k<nm)/\M= [(0,vd),(1,.int .i64 a),(2,.int .i64 b),(3,.func (.func 130) #[] #[(.pointer (some ⟨gs,0,none⟩))]),(8,.int .i64 i)]/\Sat w0 w [.own vd 1 3 n (ints t),.sem F]) ⟨s,a+1,rfl,(by omega),(by omega),?_,?_,?_,rfl,hS⟩ ?_
  ·
   exact .refl _ _ _
  ·
   intro p q p0 pq q1;omega
  ·
   exact hd
  clear hS w
  rintro mm M w ⟨t,i,rfl,i0,i1,hp,hs,hd1,rfl,hS⟩
  refine zx11<|(zP)<|(zP)<|(zP)<|zlt<|Zf ?_ ?_<;>intro hc
  ·
   refine zx3<|(zP)<|(zP)<|zx6<|zlp (fun mm M w=>∃(t2:Int->Int) (j:Int),mm=((j-a).toNat)/\(a<=j)/\(j<=i)/\(Ins lt a i j t t2)/\(∀k,0<=k->k<n->0<=t2 k/\t2 k<nm)/\M= [(0,vd),(1,.int .i64 a),(2,.int .i64 b),(3,.func (.func 130) #[] #[(.pointer (some ⟨gs,0,none⟩))]),(8,.int .i64 i),(9,.int .i64 j)]/\Sat w0 w [.own vd 1 3 n (ints t2),.sem F]) ⟨t,i,rfl,(by omega),(by omega),?_,?_,rfl,hS⟩ ?_
   ·
    exact Ins.start (by omega) hs (Zcv hp qQ (by omega))
   ·
    exact hd1
   clear hS w
   rintro mm M w ⟨t2,j,rfl,j0,j1,hI,hd2,rfl,hS⟩
   refine zsq<|zsq<|zdst [0,1] [0,1] 1000 mx_ hS ?_;clear hS;intro w hS
   refine(zDw 0 xmv)<|(zDw 1 xmv)<|(zDw 2 Yq)<|(zDw 3 xmv)<|zdb 21 ?_ ?_<;>intro hc
   ·
    refine(zDw 4 xmv)<|(zDw 5 xmv)<|(zDw 6 xmv)<|(zDw 7 (xix (kk:=j) Zb hsl))<|(zDl 8 (fun w hS=>(xlr (u:= .int .i64 (t2 j)) pl_3 (hS.rowN 0 rfl))))<|(zDw 9 xmv)<|(zDw 10 xmv)<|(zDw 11 (Zp (r:=j-1)))<|(zDw 12 (xix (kk:=j-1) Zb hsl))<|(zDl 13 (fun w hS=>(xlr (u:= .int .i64 (t2 (j-1))) pl_3 (hS.rowN 0 rfl))))<|zdc 14 (xcc (vs:= [_,_]) KH) (qv w (t2 j) (t2 (j-1)) (hd2 j (by omega) (by omega)).1 (hd2 j (by omega) (by omega)).2 (hd2 (j-1) (by omega) (by omega)).1 (hd2 (j-1) (by omega) (by omega)).2 hS.below (hS.holds _ (List.mem_of_getElem? (i:=1) rfl))) ?_;rintro _ w ⟨c1,rfl,hc1,hS'⟩
    replace hS:=hS.cmp hS';clear hS'
    refine⟨⟨fun _=>hS,hS⟩,?_⟩
    refine(zDw 15 Z3)<|(zDw 16 xpt)<|zdd<|ztn ?_
    refine Zf ?_ ?_<;>intro hc
    ·
     refine zx29<|zdst [0,1] [1] 15 mx_ hS ?_;clear hS;intro w hS
     refine(zDw 0 xmv)<|(zDw 1 xmv)<|(zDw 2 xmv)<|(zDw 3 xmv)<|(zDw 4 (Zp (r:=j-1)))<|(zDw 5 xmv)<|(zDw 6 xmv)<|(zDw 7 (Zp (r:=j-1)))<|(zDw 8 (xix (kk:=j-1) Zb hsl))<|zdl 9 (fun w hS=>(xlr (u:= .int .i64 (t2 (j-1))) pl_3 (hS.rowN 0 rfl))) ?_
     refine(zDw 10 xmv)<|(zDw 11 xmv)<|(zDw 12 (xix (kk:=j) Zb hsl))<|zdl 13 (fun w hS=>(xlr (u:= .int .i64 (t2 j)) pl_3 (hS.rowN 0 rfl))) ?_
     refine(zDw 14 (xix (kk:=j) Zb hsl))<|zde 15 (xso 0 pl_3 hS rfl) ?_;clear hS;rintro w hS
     refine⟨⟨fun h=>absurd h (by decide),hS.pk [1]⟩,?_⟩
     refine(zDw 16 (xix (kk:=j-1) Zb hsl))<|zde 17 (xso 0 pl_3 hS (VS t2 j (j-1))) ?_;clear hS;rintro w hS
     refine⟨⟨fun h=>absurd h (by decide),hS.pk [1]⟩,?_⟩
     refine zdd<|zbn<|ztn<|zrg ?_
     refine(zP)<|(zV (Zp (r:=j-1)))<|(zP)<|zln<|zlq ⟨swp t2 j (j-1),j-1,rfl,(by omega),(by omega),?_,?_,rfl,hS⟩
     ·
      exact hI.step (by omega) (by omega) (hc1.1 ‹c1<0›)
     ·
      exact(U7 (lo:=a) (hi:=n) (by omega) (by omega) (by omega) (by omega)).dom a0 (.inl (by omega)) hd2
    refine zx21<|(zP)<|(zV (Zh (r:=i+1)))<|(zP)<|zln<|zlq ⟨t2,i+1,rfl,(by omega),(by omega),?_,?_,?_,rfl,hS⟩
    ·
     exact(hp.mono (by omega) (by omega)).trans hI.perm
    ·
     exact hI.fin hw (by omega) (by omega) (by first|exact .inl (by omega)|exact .inr fun h=>absurd (hc1.2 h) ‹¬c1<0›)
    ·
     exact hd2
   refine(zDo 4)<|(zDo 5)<|(zDo 6)<|(zDo 7)<|(zDo 8)<|(zDo 9)<|(zDo 10)<|(zDo 11)<|(zDo 12)<|(zDo 13)<|(zDo 14)<|(zDo 15)<|(zDw 16 xpf)<|zdd<|ztn<|zcf<|zxt<|ztx<|ztx<|zbh<|zbn<|ztn<|zrg ?_
   refine(zP)<|(zV (Zh (r:=i+1)))<|(zP)<|zln<|zlq ⟨t2,i+1,rfl,(by omega),(by omega),?_,?_,?_,rfl,hS⟩
   ·
    exact(hp.mono (by omega) (by omega)).trans hI.perm
   ·
    exact hI.fin hw (by omega) (by omega) (by first|exact .inl (by omega)|exact .inr fun h=>absurd (hc1.2 h) ‹¬c1<0›)
   ·
    exact hd2
  refine zxt<|ztx<|ztx<|zbh<|XC ⟨_,rfl,?_⟩
  refine⟨rfl,t,?_,?_,hS⟩
  · by_cases hab:i<=b
    · exact hp.mono (by omega) (by omega)
    · obtain⟨p_,q_,e1,e2,e3⟩:=hp
      exact⟨p_,q_,e1,fun k hk=>by
        by_cases hka:k=a
        · subst hka
          apply Classical.byContradiction;intro hne
          have h5:=e2 (p_ k) (by omega)
          have h6:=congrArg q_ h5
          rw [(e1 _).2,(e1 _).2] at h6;exact hne h6
        · exact e2 k (by omega),e3⟩
  · exact hs.mono (by omega) (by omega)
theorem ZfQ {n:Int} {lt:Int->Int->Prop} {F:Gw.Frame} (hsl:Slh vd n) (hn8:n<=100000000) (hw:Swo lt) (N:Nat):∀{s:Int->Int} {a m b:Int} (w0 w:World) (hS:Sat w0 w [.own vd 1 3 n (ints s),.sem F]) (qv:∀(w:World) (x y:Int),0<=x->x<nm->0<=y->y<nm->Below w0.heap.size w0 w->F.holds w->Calls Tryz.prog 130 [.int .i64 x,.int .i64 y,(.pointer (some ⟨gs,0,none⟩))].toArray w fun e w'=>∃v,e= .returned v/\∃c:Int,v= .int .i64 c/\(c<0↔lt x y)/\Sat w w' []) (hd:∀k,0<=k->k<n->0<=s k/\s k<nm) (a0:0<=a) (am:a<m) (mb:m<b) (bn:b<=n) (h1:Srt (Tie lt) a m s) (h2:Srt (Tie lt) m b s) (hp:Parted a m b s) (hN:(b-a).toNat<N),
    Calls Tryz.prog 198 [vd,.int .i64 a,.int .i64 m,.int .i64 b,.func (.func 130) #[] #[(.pointer (some ⟨gs,0,none⟩))]].toArray w fun e w=>∃v,e= .returned v/\v= .tuple #[]/\∃t:Int->Int,PermOn a b s t/\Srt (Tie lt) a b t/\Sat w0 w [.own vd 1 3 n (ints t),.sem F]:=by
  induction N with
  |zero=>intros;omega
  | succ N ih=>
    intro s a m b w0 w hS qv hd a0 am mb bn h1 h2 hp hN
    refine zenF Tryz.func198 Tryz.ntmps198 ?_
    refine zx11<|(zP)<|(zP)<|(zV (Zp (r:=m-a)))<|(zP)<|zlt<|Zf ?_ ?_<;>intro hc
    ·
     refine zsr<|(zP)<|(zP)<|zlz<|(zP)<|(zP)<|zlt<|zsq<|zbk<|zlp (fun mm M w=>∃(i:Int) (j:Int),mm=((j-i).toNat)/\(m<=i)/\(i<=j)/\(j<=b)/\(i=a+1\/lt (s (i-1)) (s a))/\(j=b\/¬lt (s j) (s a))/\M= [(0,vd),(1,.int .i64 a),(2,.int .i64 m),(3,.int .i64 b),(4,.func (.func 130) #[] #[(.pointer (some ⟨gs,0,none⟩))]),(10,.int .i64 i),(11,.int .i64 j)]/\Sat w0 w [.own vd 1 3 n (ints s),.sem F]) ⟨m,b,rfl,(by omega),(by omega),(by omega),?_,?_,rfl,hS⟩ ?_
     ·
      exact .inl (by omega)
     ·
      exact .inl rfl
     clear hS w
     rintro mm M w ⟨i,j,rfl,i0,ij,j1,hi,hj,rfl,hS⟩
     refine zx11<|(zP)<|(zP)<|(zP)<|zlt<|Zf ?_ ?_<;>intro hc
     ·
      refine zsk<|ztn<|zbk<|zsr<|(zP)<|(zP)<|(zV (Zh (r:=i+j)))<|(zV (xcv TO X2))<|(zV (UA (r:=((i+j)/2))))<|(zV (xcv Wk Kq))<|(zP)<|zx7<|zdst [0,1] [0,1] 1000 mx_ hS ?_;clear hS;intro w hS
      refine(zDw 0 xmv)<|(zDw 1 xmv)<|(zDw 2 xmv)<|(zDw 3 (xix (kk:=((i+j)/2)) Zb hsl))<|(zDl 4 (fun w hS=>(xlr (u:= .int .i64 (s ((i+j)/2))) pl_3 (hS.rowN 0 rfl))))<|(zDw 5 xmv)<|(zDw 6 xmv)<|(zDw 7 (xix (kk:=a) Zb hsl))<|(zDl 8 (fun w hS=>(xlr (u:= .int .i64 (s a)) pl_3 (hS.rowN 0 rfl))))<|zdc 9 (xcc (vs:= [_,_]) KH) (qv w (s ((i+j)/2)) (s a) (hd ((i+j)/2) (by omega) (by omega)).1 (hd ((i+j)/2) (by omega) (by omega)).2 (hd a (by omega) (by omega)).1 (hd a (by omega) (by omega)).2 hS.below (hS.holds _ (List.mem_of_getElem? (i:=1) rfl))) ?_;rintro _ w ⟨c1,rfl,hc1,hS'⟩
      replace hS:=hS.cmp hS';clear hS'
      refine⟨⟨fun _=>hS,hS⟩,?_⟩
      refine(zDw 10 Z3)<|zdd<|ztn ?_
      refine Zf ?_ ?_<;>intro hc
      ·
       refine zrg<|(zP)<|(zV (Zh (r:=((i+j)/2)+1)))<|(zP)<|zln<|zbn<|zlq ⟨((i+j)/2)+1,j,rfl,(by omega),(by omega),(by omega),?_,?_,rfl,hS⟩
       ·
        first|exact hi|(right;rw [show(i+j)/2+1-1=(i+j)/2 by omega];exact hc1.1 ‹c1<0›)
       ·
        first|exact hj|exact .inr fun h=>absurd (hc1.2 h) ‹¬c1<0›
      refine zrg<|(zP)<|(zP)<|zln<|zbn<|zlq ⟨i,((i+j)/2),rfl,(by omega),(by omega),(by omega),?_,?_,rfl,hS⟩
      ·
       first|exact hi|(right;rw [show(i+j)/2+1-1=(i+j)/2 by omega];exact hc1.1 ‹c1<0›)
      ·
       first|exact hj|exact .inr fun h=>absurd (hc1.2 h) ‹¬c1<0›
     refine zx18<|(zP)<|(zP)<|zx6<|zlp (fun mm M w=>∃(t:Int->Int) (k:Int),mm=((i-1-k).toNat)/\(a<=k)/\(k<=i-1)/\(t=rot s a (a+1) (k+1))/\M= [(0,vd),(1,.int .i64 a),(2,.int .i64 m),(3,.int .i64 b),(4,.func (.func 130) #[] #[(.pointer (some ⟨gs,0,none⟩))]),(10,.int .i64 i),(13,.int .i64 k)]/\Sat w0 w [.own vd 1 3 n (ints t),.sem F]) ⟨s,a,rfl,(by omega),(by omega),?_,rfl,hS⟩ ?_
     ·
      exact(Zaq s a).symm
     clear hS w
     rintro mm M w ⟨t,k,rfl,k0,k1,ht,rfl,hS⟩
     refine zx11<|(zP)<|(zP)<|(zV (Zp (r:=i-1)))<|(zP)<|zlt<|Zf ?_ ?_<;>intro hc
     ·
      refine zx29<|zdst [0,1] [1] 15 mx_ hS ?_;clear hS;intro w hS
      refine(zDw 0 xmv)<|(zDw 1 xmv)<|(zDw 2 xmv)<|(zDw 3 xmv)<|(zDw 4 (Zh (r:=k+1)))<|(zDw 5 xmv)<|(zDw 6 xmv)<|(zDw 7 (Zh (r:=k+1)))<|(zDw 8 (xix (kk:=k+1) Zb hsl))<|zdl 9 (fun w hS=>(xlr (u:= .int .i64 (t (k+1))) pl_3 (hS.rowN 0 rfl))) ?_
      refine(zDw 10 xmv)<|(zDw 11 xmv)<|(zDw 12 (xix (kk:=k) Zb hsl))<|zdl 13 (fun w hS=>(xlr (u:= .int .i64 (t k)) pl_3 (hS.rowN 0 rfl))) ?_
      refine(zDw 14 (xix (kk:=k) Zb hsl))<|zde 15 (xso 0 pl_3 hS rfl) ?_;clear hS;rintro w hS
      refine⟨⟨fun h=>absurd h (by decide),hS.pk [1]⟩,?_⟩
      refine(zDw 16 (xix (kk:=k+1) Zb hsl))<|zde 17 (xso 0 pl_3 hS (VS t k (k+1))) ?_;clear hS;rintro w hS
      refine⟨⟨fun h=>absurd h (by decide),hS.pk [1]⟩,?_⟩
      refine zdd<|zbn<|ztn<|zrg ?_
      refine(zP)<|(zV (Zh (r:=k+1)))<|(zP)<|zln<|zlq ⟨swp t k (k+1),k+1,rfl,(by omega),(by omega),?_,rfl,hS⟩
      ·
       rw [ht];exact Zar (by omega)
     refine zxt<|ztx<|ztx<|zbh<|ztn<|zrt<|ztr<|zf0 ⟨_,rfl,?_⟩
     have hki:k+1=i:=by omega
     rw [hki] at ht
     refine⟨rfl,t,?_,?_,hS⟩
     · rw [ht];exact(Yr (by omega) (by omega)).mono (by omega) (by omega)
     · rw [ht];obtain rfl:m=a+1:=by omega
       exact Ro hw h2 (fun j j0 j1=>hp a j (by omega) (by omega) j0 j1) (by omega) (by omega) hi (by rw [show i=j by omega];exact hj)
    refine YK<|(zP)<|(zP)<|(zV (Zp (r:=b-m)))<|(zP)<|zlt<|Zf ?_ ?_<;>intro hc
    ·
     refine zsr<|(zP)<|(zP)<|zlz<|(zP)<|(zP)<|zlt<|zsq<|zbk<|zlp (fun mm M w=>∃(i:Int) (j:Int),mm=((j-i).toNat)/\(a<=i)/\(i<=j)/\(j<=m)/\(i=a\/¬lt (s m) (s (i-1)))/\(j=m\/lt (s m) (s j))/\M= [(0,vd),(1,.int .i64 a),(2,.int .i64 m),(3,.int .i64 b),(4,.func (.func 130) #[] #[(.pointer (some ⟨gs,0,none⟩))]),(14,.int .i64 i),(15,.int .i64 j)]/\Sat w0 w [.own vd 1 3 n (ints s),.sem F]) ⟨a,m,rfl,(by omega),(by omega),(by omega),?_,?_,rfl,hS⟩ ?_
     ·
      exact .inl rfl
     ·
      exact .inl rfl
     clear hS w
     rintro mm M w ⟨i,j,rfl,i0,ij,j1,hi,hj,rfl,hS⟩
     refine zx11<|(zP)<|(zP)<|(zP)<|zlt<|Zf ?_ ?_<;>intro hc
     ·
      refine zsk<|ztn<|zbk<|zsr<|(zP)<|(zP)<|(zV (Zh (r:=i+j)))<|(zV (xcv TO X2))<|(zV (UA (r:=((i+j)/2))))<|(zV (xcv Wk Kq))<|(zP)<|zx7<|zdst [0,1] [0,1] 1000 mx_ hS ?_;clear hS;intro w hS
      refine(zDw 0 xmv)<|(zDw 1 xmv)<|(zDw 2 xmv)<|(zDw 3 (xix (kk:=m) Zb hsl))<|(zDl 4 (fun w hS=>(xlr (u:= .int .i64 (s m)) pl_3 (hS.rowN 0 rfl))))<|(zDw 5 xmv)<|(zDw 6 xmv)<|(zDw 7 (xix (kk:=((i+j)/2)) Zb hsl))<|(zDl 8 (fun w hS=>(xlr (u:= .int .i64 (s ((i+j)/2))) pl_3 (hS.rowN 0 rfl))))<|zdc 9 (xcc (vs:= [_,_]) KH) (qv w (s m) (s ((i+j)/2)) (hd m (by omega) (by omega)).1 (hd m (by omega) (by omega)).2 (hd ((i+j)/2) (by omega) (by omega)).1 (hd ((i+j)/2) (by omega) (by omega)).2 hS.below (hS.holds _ (List.mem_of_getElem? (i:=1) rfl))) ?_;rintro _ w ⟨c1,rfl,hc1,hS'⟩
      replace hS:=hS.cmp hS';clear hS'
      refine⟨⟨fun _=>hS,hS⟩,?_⟩
      refine(zDw 10 Z3)<|(zDw 11 Yv)<|zdd<|ztn ?_
      refine Zf ?_ ?_<;>intro hc
      ·
       refine zrg<|(zP)<|(zV (Zh (r:=((i+j)/2)+1)))<|(zP)<|zln<|zbn<|zlq ⟨((i+j)/2)+1,j,rfl,(by omega),(by omega),(by omega),?_,?_,rfl,hS⟩
       ·
        first|exact hi|(right;rw [show(i+j)/2+1-1=(i+j)/2 by omega];exact fun h=>absurd (hc1.2 h) ‹¬c1<0›)
       ·
        first|exact hj|exact .inr (hc1.1 (Classical.not_not.1 ‹_›))
      refine zrg<|(zP)<|(zP)<|zln<|zbn<|zlq ⟨i,((i+j)/2),rfl,(by omega),(by omega),(by omega),?_,?_,rfl,hS⟩
      ·
       first|exact hi|(right;rw [show(i+j)/2+1-1=(i+j)/2 by omega];exact fun h=>absurd (hc1.2 h) ‹¬c1<0›)
      ·
       first|exact hj|exact .inr (hc1.1 (Classical.not_not.1 ‹_›))
     refine zx18<|(zP)<|(zP)<|zx6<|zlp (fun mm M w=>∃(t:Int->Int) (k:Int),mm=((k-i).toNat)/\(i<=k)/\(k<=m)/\(t=rot s k m (m+1))/\M= [(0,vd),(1,.int .i64 a),(2,.int .i64 m),(3,.int .i64 b),(4,.func (.func 130) #[] #[(.pointer (some ⟨gs,0,none⟩))]),(14,.int .i64 i),(17,.int .i64 k)]/\Sat w0 w [.own vd 1 3 n (ints t),.sem F]) ⟨s,m,rfl,(by omega),(by omega),?_,rfl,hS⟩ ?_
     ·
      exact(Zao s m).symm
     clear hS w
     rintro mm M w ⟨t,k,rfl,k0,k1,ht,rfl,hS⟩
     refine zx11<|(zP)<|(zP)<|(zP)<|zlt<|Zf ?_ ?_<;>intro hc
     ·
      refine zx29<|zdst [0,1] [1] 15 mx_ hS ?_;clear hS;intro w hS
      refine(zDw 0 xmv)<|(zDw 1 xmv)<|(zDw 2 xmv)<|(zDw 3 xmv)<|(zDw 4 (Zp (r:=k-1)))<|(zDw 5 xmv)<|(zDw 6 xmv)<|(zDw 7 (Zp (r:=k-1)))<|(zDw 8 (xix (kk:=k-1) Zb hsl))<|zdl 9 (fun w hS=>(xlr (u:= .int .i64 (t (k-1))) pl_3 (hS.rowN 0 rfl))) ?_
      refine(zDw 10 xmv)<|(zDw 11 xmv)<|(zDw 12 (xix (kk:=k) Zb hsl))<|zdl 13 (fun w hS=>(xlr (u:= .int .i64 (t k)) pl_3 (hS.rowN 0 rfl))) ?_
      refine(zDw 14 (xix (kk:=k) Zb hsl))<|zde 15 (xso 0 pl_3 hS rfl) ?_;clear hS;rintro w hS
      refine⟨⟨fun h=>absurd h (by decide),hS.pk [1]⟩,?_⟩
      refine(zDw 16 (xix (kk:=k-1) Zb hsl))<|zde 17 (xso 0 pl_3 hS (VS t k (k-1))) ?_;clear hS;rintro w hS
      refine⟨⟨fun h=>absurd h (by decide),hS.pk [1]⟩,?_⟩
      refine zdd<|zbn<|ztn<|zrg ?_
      refine(zP)<|(zV (Zp (r:=k-1)))<|(zP)<|zln<|zlq ⟨swp t k (k-1),k-1,rfl,(by omega),(by omega),?_,rfl,hS⟩
      ·
       rw [ht];exact Zap (by omega)
     refine zxt<|ztx<|ztx<|zbh<|ztn<|zrt<|ztr<|zf0 ⟨_,rfl,?_⟩
     have hki:k=i:=by omega
     rw [hki] at ht
     refine⟨rfl,t,?_,?_,hS⟩
     · rw [ht];exact(Yr (by omega) (by omega)).mono (by omega) (by omega)
     · rw [ht];obtain rfl:b=m+1:=by omega
       exact Tl hw h1 (fun i i0 i1=>hp i m i0 i1 (by omega) (by omega)) (by omega) (by omega) hi (by rw [show i=j by omega];exact hj)
    refine ZR<|(zP)<|(zP)<|(zV (Zh (r:=a+b)))<|(zV (xcv TO X2))<|(zV (UA (r:=((a+b)/2))))<|(zV (xcv Wk Kq))<|(zP)<|zlz<|(zP)<|(zP)<|(zV (Zh (r:=((a+b)/2)+m)))<|(zP)<|zlz<|(zP)<|(zP)<|zx7 ?_
    refine Vu (fun M w=>∃(mid:Int) (s0:Int) (r0:Int),(mid=((a+b)/2))/\((mid<m/\s0=mid+m-b/\r0=mid)\/(m<=mid/\s0=a/\r0=m))/\M= [(0,vd),(1,.int .i64 a),(2,.int .i64 m),(3,.int .i64 b),(4,.func (.func 130) #[] #[(.pointer (some ⟨gs,0,none⟩))]),(25,.int .i64 m),(26,.int .i64 a),(27,.int .i64 (m-a)),(28,B (m-a=1)),(77,.int .i64 b),(78,.int .i64 m),(79,.int .i64 (b-m)),(80,B (b-m=1)),(129,.int .i64 a),(130,.int .i64 b),(131,.int .i64 (a+b)),(132,.int .u64 (a+b)),(133,.int .u64 ((a+b)/2)),(134,.int .i64 ((a+b)/2)),(18,.int .i64 mid),(135,.int .i64 ((a+b)/2)),(136,.int .i64 m),(137,.int .i64 (((a+b)/2)+m)),(19,.int .i64 (mid+m)),(20,.int .i64 s0),(21,.int .i64 r0)]/\Sat w0 w [.own vd 1 3 n (ints s),.sem F]) ?_ ?_
    ·
     refine zsr<|(zP)<|(zP)<|(zP)<|zlt<|Zf ?_ ?_<;>intro hc
     ·
      refine zsr<|(zP)<|(zP)<|(zV (Zp (r:=((a+b)/2)+m-b)))<|(zP)<|zlt<|zrg<|(zP)<|(zP)<|zln<|zgj ⟨((a+b)/2),(((a+b)/2)+m-b),((a+b)/2),rfl,(by omega),rfl,hS⟩
     refine zsr<|(zP)<|(zP)<|zlt<|zrg<|(zP)<|(zP)<|zln<|zgj ⟨((a+b)/2),a,m,rfl,(by omega),rfl,hS⟩
    clear hS w;rintro M w ⟨mid,s0,r0,fv,hq,rfl,hS⟩
    refine ztn<|zsr<|(zP)<|(zV (Zp (r:=mid+m-1)))<|(zP)<|zlt<|zsq<|zbk<|zlp (fun mm M w=>∃(x:Int) (y:Int),mm=((y-x).toNat)/\(s0<=x)/\(x<=y)/\(y<=r0)/\(x=s0\/¬lt (s (mid+m-x)) (s (x-1)))/\(y=r0\/lt (s (mid+m-y-1)) (s y))/\M= [(0,vd),(1,.int .i64 a),(2,.int .i64 m),(3,.int .i64 b),(4,.func (.func 130) #[] #[(.pointer (some ⟨gs,0,none⟩))]),(18,.int .i64 mid),(19,.int .i64 (mid+m)),(20,.int .i64 x),(21,.int .i64 y),(22,.int .i64 (mid+m-1))]/\Sat w0 w [.own vd 1 3 n (ints s),.sem F]) ⟨s0,r0,rfl,(by omega),(by omega),(by omega),?_,?_,rfl,hS⟩ ?_
    ·
     exact .inl rfl
    ·
     exact .inl rfl
    clear hS w
    rintro mm M w ⟨x,y,rfl,x0,xy,y1,hx,hy,rfl,hS⟩
    refine zx11<|(zP)<|(zP)<|(zP)<|zlt<|Zf ?_ ?_<;>intro hc
    ·
     refine zsk<|ztn<|zbk<|zsr<|(zP)<|(zP)<|(zV (Zh (r:=x+y)))<|(zV (xcv TO X2))<|(zV (UA (r:=((x+y)/2))))<|(zV (xcv Wk Kq))<|(zP)<|zx7<|zdst [0,1] [0,1] 1000 mx_ hS ?_;clear hS;intro w hS
     refine(zDw 0 xmv)<|(zDw 1 xmv)<|(zDw 2 xmv)<|(zDw 3 xmv)<|(zDw 4 (Zp (r:=mid+m-((x+y)/2)-1)))<|(zDw 5 (xix (kk:=mid+m-((x+y)/2)-1) Zb hsl))<|(zDl 6 (fun w hS=>(xlr (u:= .int .i64 (s (mid+m-((x+y)/2)-1))) pl_3 (hS.rowN 0 rfl))))<|(zDw 7 xmv)<|(zDw 8 xmv)<|(zDw 9 (xix (kk:=((x+y)/2)) Zb hsl))<|(zDl 10 (fun w hS=>(xlr (u:= .int .i64 (s ((x+y)/2))) pl_3 (hS.rowN 0 rfl))))<|zdc 11 (xcc (vs:= [_,_]) KH) (qv w (s (mid+m-((x+y)/2)-1)) (s ((x+y)/2)) (hd (mid+m-((x+y)/2)-1) (by omega) (by omega)).1 (hd (mid+m-((x+y)/2)-1) (by omega) (by omega)).2 (hd ((x+y)/2) (by omega) (by omega)).1 (hd ((x+y)/2) (by omega) (by omega)).2 hS.below (hS.holds _ (List.mem_of_getElem? (i:=1) rfl))) ?_;rintro _ w ⟨c1,rfl,hc1,hS'⟩
     replace hS:=hS.cmp hS';clear hS'
     refine⟨⟨fun _=>hS,hS⟩,?_⟩
     refine(zDw 12 Z3)<|(zDw 13 Yv)<|zdd<|ztn ?_
     refine Zf ?_ ?_<;>intro hc
     ·
      refine zrg<|(zP)<|(zV (Zh (r:=((x+y)/2)+1)))<|(zP)<|zln<|zbn<|zlq ⟨((x+y)/2)+1,y,rfl,(by omega),(by omega),(by omega),?_,?_,rfl,hS⟩
      ·
       first|exact hx|(right;rw [show mid+m-((x+y)/2+1)=mid+m-(x+y)/2-1 by omega,show(x+y)/2+1-1=(x+y)/2 by omega];exact fun h=>absurd (hc1.2 h) ‹¬c1<0›)
      ·
       first|exact hy|exact .inr (hc1.1 (Classical.not_not.1 ‹_›))
     refine zrg<|(zP)<|(zP)<|zln<|zbn<|zlq ⟨x,((x+y)/2),rfl,(by omega),(by omega),(by omega),?_,?_,rfl,hS⟩
     ·
      first|exact hx|(right;rw [show mid+m-((x+y)/2+1)=mid+m-(x+y)/2-1 by omega,show(x+y)/2+1-1=(x+y)/2 by omega];exact fun h=>absurd (hc1.2 h) ‹¬c1<0›)
     ·
      first|exact hy|exact .inr (hc1.1 (Classical.not_not.1 ‹_›))
    refine zx8<|(zP)<|(zP)<|(zV (Zp (r:=mid+m-x)))<|(zP)<|zx7 ?_
    refine Vu (fun M w=>∃(t:Int->Int),(t=rot s x m (mid+m-x))/\M= [(0,vd),(1,.int .i64 a),(2,.int .i64 m),(3,.int .i64 b),(4,.func (.func 130) #[] #[(.pointer (some ⟨gs,0,none⟩))]),(18,.int .i64 mid),(19,.int .i64 (mid+m)),(20,.int .i64 x),(21,.int .i64 y),(22,.int .i64 (mid+m-1)),(149,.int .i64 x),(150,.int .i64 y),(151,B (x<y)),(175,.int .i64 (mid+m)),(176,.int .i64 x),(177,.int .i64 (mid+m-x)),(24,.int .i64 (mid+m-x))]/\Sat w0 w [.own vd 1 3 n (ints t),.sem F]) ?_ ?_
    ·
     refine zsr<|zs4 ?_
     refine zlb 181 ?_ ?_<;>intro hc
     ·
      refine zs4 ?_
      refine zlt<|Zf ?_ ?_<;>intro hc
      ·
       refine zrg<|zs5 ?_
       refine zlc (xc0 Zkc) (Zlj (s:=s) (a:=x) (m:=m) (b:=mid+m-x) w0 w hS hsl hn8 (by omega) (by omega) (by omega) (by omega)) ?_;rintro _ w ⟨rfl,hS⟩
       refine zln<|zgj ⟨(rot s x m (mid+m-x)),rfl,rfl,hS⟩
      refine zsk<|zgj ⟨s,(VE (by omega) (by omega) (by omega)).symm,rfl,hS⟩
     iterate 3 refine zlo ?_
     refine(zP)<|zlt<|zcf<|zsk<|zgj ⟨s,(VE (by omega) (by omega) (by omega)).symm,rfl,hS⟩
    clear hS w;rintro M w ⟨t,ht,rfl,hS⟩
    have hdt:=(Yr (a:=s) (lo:=x) (c:=m) (hi:=mid+m-x) (by omega) (by omega)).dom (n:=n) (N:=nm) (by omega) (.inl (by omega)) hd
    rw [<-ht] at hdt
    have hH:=VM hw h1 h2 hp (s:=x) (mid:=mid) (e:=mid+m-x) (by omega) (by omega) (by omega) (by omega) (by omega) (by rcases hq with hq|hq<;>rcases hx with hx|hx<;>first|exact .inl (by omega)|exact .inr (.inl (by omega))|exact .inr (.inr hx)) (by rcases hq with hq|hq<;>rcases hy with hy|hy<;>first|exact .inl (by omega)|exact .inr (.inl (by omega))|(refine .inr (.inr ?_);rw [show x=y by omega];exact hy))
    rw [<-ht] at hH
    refine ztn<|zsq<| ?_
    refine Vu (fun M w=>∃(t1:Int->Int),(PermOn a mid t t1)/\(Srt (Tie lt) a mid t1)/\(∀k,0<=k->k<n->0<=t1 k/\t1 k<nm)/\M= [(0,vd),(1,.int .i64 a),(2,.int .i64 m),(3,.int .i64 b),(4,.func (.func 130) #[] #[(.pointer (some ⟨gs,0,none⟩))]),(18,.int .i64 mid),(19,.int .i64 (mid+m)),(20,.int .i64 x),(21,.int .i64 y),(22,.int .i64 (mid+m-1)),(149,.int .i64 x),(150,.int .i64 y),(151,B (x<y)),(175,.int .i64 (mid+m)),(176,.int .i64 x),(177,.int .i64 (mid+m-x)),(24,.int .i64 (mid+m-x))]/\Sat w0 w [.own vd 1 3 n (ints t1),.sem F]) ?_ ?_
    ·
     refine zsr<|zs4 ?_
     refine zlb 195 ?_ ?_<;>intro hc
     ·
      refine zs4 ?_
      refine zlt<|Zf ?_ ?_<;>intro hc
      ·
       refine zrg<|zs5 ?_
       refine zlc (xc0 KF) (ih (s:=t) (a:=a) (m:=x) (b:=mid) w0 w hS qv hdt (by omega) (by omega) (by omega) (by omega) (hH.l1) (hH.l2) (hH.pl) (by omega)) ?_;rintro _ w ⟨rfl,u1,qq,xc,hS⟩
       have xZ:=qq.dom (by omega) (.inl (by omega)) hdt
       refine zln<|zgj ⟨u1,qq,xc,xZ,rfl,hS⟩
      refine zsk<|zgj ⟨t,(.refl _ _ _),(hH.left (by first|omega|(rintro⟨h3,h4⟩;omega)) (by omega) (by omega)),hdt,rfl,hS⟩
     iterate 3 refine zlo ?_
     refine(zP)<|zlt<|zcf<|zsk<|zgj ⟨t,(.refl _ _ _),(hH.left (by first|omega|(rintro⟨h3,h4⟩;omega)) (by omega) (by omega)),hdt,rfl,hS⟩
    clear hS w;rintro M w ⟨t1,hq1,hq2,aZ,rfl,hS⟩
    have hH2:Halves lt a a mid (mid+m-x) b t1:=Halves.after hH hq1 hq2 (by omega) (by omega)
    refine ztn<|zsr<|zs4 ?_
    refine zlb 209 ?_ ?_<;>intro hc
    ·
     refine zs4 ?_
     refine zlt<|Zf ?_ ?_<;>intro hc
     ·
      refine zrg<|zs5 ?_
      refine zlc (xc0 KF) (ih (s:=t1) (a:=mid) (m:=mid+m-x) (b:=b) w0 w hS qv aZ (by omega) (by omega) (by omega) (by omega) (hH2.r1) (hH2.r2) (hH2.pr) (by omega)) ?_;rintro _ w ⟨rfl,u1,qq,xc,hS⟩
      have xZ:=qq.dom (by omega) (.inl (by omega)) aZ
      refine zln<|XC ⟨_,rfl,?_⟩
      refine⟨rfl,u1,((((Yr (a:=s) (lo:=x) (c:=m) (hi:=mid+m-x) (by omega) (by omega)).mono (by omega) (by omega):PermOn a b s _)).trans (ht▸hq1.mono (by omega) (by omega))).trans (qq.mono (by omega) (by omega)),?_,hS⟩
      exact hH.join hw (by omega) (by omega) hq1 hq2 qq xc
     refine zsk<|XC ⟨_,rfl,?_⟩
     refine⟨rfl,t1,(((Yr (a:=s) (lo:=x) (c:=m) (hi:=mid+m-x) (by omega) (by omega)).mono (by omega) (by omega):PermOn a b s _)).trans (ht▸hq1.mono (by omega) (by omega)),?_,hS⟩
     exact hH.join hw (by omega) (by omega) hq1 hq2 (.refl _ _ _) (hH2.right (by first|omega|(rintro⟨h3,h4⟩;omega)) (by omega) (by omega))
    iterate 3 refine zlo ?_
    refine(zP)<|zlt<|zcf<|zsk<|XC ⟨_,rfl,?_⟩
    refine⟨rfl,t1,(((Yr (a:=s) (lo:=x) (c:=m) (hi:=mid+m-x) (by omega) (by omega)).mono (by omega) (by omega):PermOn a b s _)).trans (ht▸hq1.mono (by omega) (by omega)),?_,hS⟩
    exact hH.join hw (by omega) (by omega) hq1 hq2 (.refl _ _ _) (hH2.right (by first|omega|(rintro⟨h3,h4⟩;omega)) (by omega) (by omega))
theorem ZdN{n:Int}{s:Int->Int}{lt:Int->Int->Prop}{F:Gw.Frame}(w0 w:World)(hS:Sat w0 w [.own vd 1 3 n (ints s),.sem F])(hsl:Slh vd n)(hn8:n<=100000000)(qv:∀(w:World) (x y:Int),0<=x->x<nm->0<=y->y<nm->Below w0.heap.size w0 w->F.holds w->Calls Tryz.prog 130 [.int .i64 x,.int .i64 y,(.pointer (some ⟨gs,0,none⟩))].toArray w fun e w'=>∃v,e= .returned v/\∃c:Int,v= .int .i64 c/\(c<0↔lt x y)/\Sat w w' [])(hd:∀k,0<=k->k<n->0<=s k/\s k<nm)(hw:Swo lt)(qQ:UN 0 n s):
    Calls Tryz.prog 171 [vd,.int .i64 n,.func (.func 130) #[] #[(.pointer (some ⟨gs,0,none⟩))]].toArray w fun e w=>∃v,e= .returned v/\v= .tuple #[]/\∃t:Int->Int,PermOn 0 n s t/\Srt (Tie lt) 0 n t/\Sat w0 w [.own vd 1 3 n (ints t),.sem F]:=by
  have hn0:=hsl.n0
  refine zenF Tryz.func171 Tryz.ntmps171 ?_
  refine zsr<|(zP)<|zlz<|(zP)<|(zP)<|(zP)<|zlt<|zsq<|zbk<|zlp (fun mm M w=>∃(t:Int->Int) (a:Int) (b:Int),mm=((n-a).toNat)/\(0<=a)/\(a<=n)/\(b=a+20)/\((20:Int)∣a)/\(PermOn 0 a s t)/\(Runs_ lt 20 n 0 a t)/\(∀k,0<=k->k<n->0<=t k/\t k<nm)/\M= [(0,vd),(1,.int .i64 n),(2,.func (.func 130) #[] #[(.pointer (some ⟨gs,0,none⟩))]),(6,.int .i64 20),(7,.int .i64 a),(8,.int .i64 b)]/\Sat w0 w [.own vd 1 3 n (ints t),.sem F]) ⟨s,0,20,rfl,(by omega),(by omega),(by omega),?_,?_,?_,?_,rfl,hS⟩ ?_
  ·
   exact Int.dvd_zero 20
  ·
   exact .refl _ _ _
  ·
   intro c c0 c1;omega
  ·
   exact hd
  clear hS w
  rintro mm M w ⟨t,a,b,rfl,a0,a1,hb,hda,hp,hr,hd1,rfl,hS⟩
  refine zx11<|(zP)<|(zP)<|(zP)<|zlt<|Zf ?_ ?_<;>intro hc
  ·
   refine zsk<|ztn<|zbk<|zsr<|zs4 ?_
   refine zlc (xc0 Zfq) (Zgl (s:=t) (a:=a) (b:=b) w0 w hS hsl hn8 qv hd1 hw (by omega) (by omega) (by omega) (W6 hp qQ (by omega) (by omega) (by omega))) ?_;rintro _ w ⟨rfl,u1,qq,xc,hS⟩
   have xZ:=qq.dom (by omega) (.inl (by omega)) hd1
   refine zlz<|(zP)<|(zP)<|zlt<|zrg<|(zP)<|(zP)<|(zV (Zh (r:=b+20)))<|(zP)<|zln<|zbn<|zlq ⟨u1,b,b+20,rfl,(by omega),(by omega),(by omega),?_,?_,?_,?_,rfl,hS⟩
   ·
    rw [hb];exact Int.dvd_add hda (Int.dvd_refl 20)
   ·
    exact(hp.mono (by omega) (by omega)).trans (qq.mono (by omega) (by omega))
   ·
    exact Wl (by omega) qQ hr a0 hda hp qq xc (.inl ⟨hb,by omega⟩) (by omega)
   ·
    exact xZ
  refine zx8<|zs4 ?_
  refine zlc (xc0 Zfq) (Zgl (s:=t) (a:=a) (b:=n) w0 w hS hsl hn8 qv hd1 hw (by omega) (by omega) (by omega) (W6 hp qQ (by omega) (by omega) (by omega))) ?_;rintro _ w ⟨rfl,u1,qq,xc,hS⟩
  have xZ:=qq.dom (by omega) (.inl (by omega)) hd1
  refine zx6<|zlp (fun mm M w=>∃(t2:Int->Int) (z:Int),mm=((n-z).toNat)/\(20<=z)/\(z<=2*n+20)/\(PermOn 0 n s t2)/\(Runs_ lt z n 0 n t2)/\(∀k,0<=k->k<n->0<=t2 k/\t2 k<nm)/\M= [(0,vd),(1,.int .i64 n),(2,.func (.func 130) #[] #[(.pointer (some ⟨gs,0,none⟩))]),(6,.int .i64 z)]/\Sat w0 w [.own vd 1 3 n (ints t2),.sem F]) ⟨u1,20,rfl,(by omega),(by omega),?_,?_,?_,rfl,hS⟩ ?_
  ·
   exact(hp.mono (by omega) (by omega)).trans (qq.mono (by omega) (by omega))
  ·
   exact Wl (by omega) qQ hr a0 hda hp qq xc (.inr ⟨rfl,by omega⟩) (by omega)
  ·
   exact xZ
  clear hS w
  rintro mm M w ⟨t2,z,rfl,z0,z1,hp2,hr2,hd2,rfl,hS⟩
  refine zx11<|(zP)<|(zP)<|(zP)<|zlt<|Zf ?_ ?_<;>intro hc
  ·
   refine zsk<|ztn<|zbk<|zsr<|(zP)<|(zV (Z6 (r:=2*z)))<|(zP)<|(zP)<|zlt<|zsq<|zbk<|zlp (fun mm M w=>∃(t3:Int->Int) (a3:Int) (b3:Int),mm=((n-a3).toNat)/\(0<=a3)/\(a3<=n)/\(b3=a3+2*z)/\(2*z∣a3)/\(PermOn 0 n s t3)/\(Runs_ lt (2*z) n 0 a3 t3)/\(Runs_ lt z n a3 n t3)/\(∀k,0<=k->k<n->0<=t3 k/\t3 k<nm)/\M= [(0,vd),(1,.int .i64 n),(2,.func (.func 130) #[] #[(.pointer (some ⟨gs,0,none⟩))]),(6,.int .i64 z),(7,.int .i64 a3),(8,.int .i64 b3)]/\Sat w0 w [.own vd 1 3 n (ints t3),.sem F]) ⟨t2,0,2*z,rfl,(by omega),(by omega),(by omega),?_,?_,?_,?_,?_,rfl,hS⟩ ?_
   ·
    exact Int.dvd_zero _
   ·
    exact hp2
   ·
    intro c c0 c1;omega
   ·
    exact hr2
   ·
    exact hd2
   clear hS w
   rintro mm M w ⟨t3,a3,b3,rfl,a30,a31,hb3,xg,hp3,hA,hB,hd3,rfl,hS⟩
   refine zx11<|(zP)<|(zP)<|(zP)<|zlt<|Zf ?_ ?_<;>intro hc
   ·
    refine zsk<|ztn<|zbk<|zsr<|zs4 ?_
    refine(zV (Zh (r:=a3+z)))<|zs2 ?_
    have hk:=VC (lt:=lt) (z:=z) (n:=n) (a:=a3) (b:=b3) (t:=t3) (by omega) a30 (Int.dvd_trans (Int.dvd_mul_left 2 z) xg) hB (by omega) (by omega) (by omega)
    refine zlc (xc0 KF) (ZfQ (nm:=nm) (lt:=lt) hsl hn8 hw _ (s:=t3) (a:=a3) (m:=a3+z) (b:=b3) w0 w hS qv hd3 (by omega) (by omega) (by omega) (by omega) hk.1 hk.2.1 hk.2.2 (Nat.lt_succ_self _)) ?_;rintro _ w ⟨rfl,u2,qW,yo,hS⟩
    have yX:=qW.dom (by omega) (.inl (by omega)) hd3
    refine zlz<|(zP)<|(zP)<|zlt<|zrg<|(zP)<|(zP)<|(zV (Z6 (r:=2*z)))<|(zV (Zh (r:=b3+2*z)))<|(zP)<|zln<|zbn<|zlq ⟨u2,b3,b3+2*z,rfl,(by omega),(by omega),(by omega),?_,?_,?_,?_,?_,rfl,hS⟩
    ·
     rw [hb3];exact Int.dvd_add xg (Int.dvd_refl _)
    ·
     exact hp3.trans (qW.mono (by omega) (by omega))
    ·
     exact(Yp (by omega) a30 xg hA hB qW yo (.inl ⟨hb3,by omega⟩) (by omega)).1
    ·
     exact(Yp (by omega) a30 xg hA hB qW yo (.inl ⟨hb3,by omega⟩) (by omega)).2
    ·
     exact yX
   refine zx18<|(zP)<|(zP)<|(zV (Zh (r:=a3+z)))<|(zP)<|zlz<|(zP)<|(zP)<|(zP)<|zlt<|Zf ?_ ?_<;>intro hc
   ·
    refine zrg<|zs5 ?_
    have hk:=VC (lt:=lt) (z:=z) (n:=n) (a:=a3) (b:=n) (t:=t3) (by omega) a30 (Int.dvd_trans (Int.dvd_mul_left 2 z) xg) hB (by omega) (by omega) (by omega)
    refine zlc (xc0 KF) (ZfQ (nm:=nm) (lt:=lt) hsl hn8 hw _ (s:=t3) (a:=a3) (m:=a3+z) (b:=n) w0 w hS qv hd3 (by omega) (by omega) (by omega) (by omega) hk.1 hk.2.1 hk.2.2 (Nat.lt_succ_self _)) ?_;rintro _ w ⟨rfl,u2,qW,yo,hS⟩
    have yX:=qW.dom (by omega) (.inl (by omega)) hd3
    refine zlt<|zrg<|(zP)<|(zV (Z6 (r:=2*z)))<|(zP)<|zln<|zbn<|zlq ⟨u2,2*z,rfl,(by omega),(by omega),?_,?_,?_,rfl,hS⟩
    ·
     first|exact hp3.trans (qW.mono (by omega) (by omega))|exact hp3
    ·
     first|exact(Yp (by omega) a30 xg hA hB qW yo (.inr ⟨rfl,by omega⟩) (by omega)).1|exact VD (by omega) a30 xg hA hB (by omega) (by omega)
    ·
     first|exact yX|exact hd3
   refine zsk<|ztn<|zrg<|(zP)<|(zV (Z6 (r:=2*z)))<|(zP)<|zln<|zbn<|zlq ⟨t3,2*z,rfl,(by omega),(by omega),?_,?_,?_,rfl,hS⟩
   ·
    first|exact hp3.trans (qW.mono (by omega) (by omega))|exact hp3
   ·
    first|exact(Yp (by omega) a30 xg hA hB qW yo (.inr ⟨rfl,by omega⟩) (by omega)).1|exact VD (by omega) a30 xg hA hB (by omega) (by omega)
   ·
    first|exact yX|exact hd3
  refine zxt<|ztx<|ztx<|zbh<|XC ⟨_,rfl,?_⟩
  exact⟨rfl,t2,hp2,Zas hr2 (by omega),hS⟩
theorem ZfS{n:Int}{s:Int->Int}{lt:Int->Int->Prop}{F:Gw.Frame}(w0 w:World)(hS:Sat w0 w [.own vd 1 3 n (ints s),.sem F])(hsl:Slh vd n)(hn8:n<=100000000)(qv:∀(w:World) (x y:Int),0<=x->x<nm->0<=y->y<nm->Below w0.heap.size w0 w->F.holds w->Calls Tryz.prog 130 [.int .i64 x,.int .i64 y,(.pointer (some ⟨gs,0,none⟩))].toArray w fun e w'=>∃v,e= .returned v/\∃c:Int,v= .int .i64 c/\(c<0↔lt x y)/\Sat w w' [])(hd:∀k,0<=k->k<n->0<=s k/\s k<nm)(hw:Swo lt)(qQ:UN 0 n s):
    Calls Tryz.prog 129 [vd,.func (.func 130) #[] #[(.pointer (some ⟨gs,0,none⟩))]].toArray w fun e w=>∃v,e= .returned v/\v= .tuple #[]/\∃t:Int->Int,PermOn 0 n s t/\Srt (Tie lt) 0 n t/\Sat w0 w [.own vd 1 3 n (ints t),.sem F]:=by
  refine zenF Tryz.func129 Tryz.ntmps129 ?_
  refine zrg<|(zP)<|(zP)<|(zV (xln Zb hsl))<|(zP)<|zlc (xc0 ZkB) (ZdN (s:=s) w0 w hS hsl hn8 qv hd hw qQ) ?_;rintro _ w ⟨rfl,u1,qq,xc,hS⟩
  refine zln<|XC ⟨_,rfl,?_⟩
  exact⟨rfl,u1,qq,xc,hS⟩
end Go.Proofs.YtkichmnjjblodaaGreat
namespace Go.Proofs.YtkichmnjjblodaaGreat
open Go Go.RowKit Go.Proofs.Gw
theorem ZhQ{x y:Int}{vX vY:Value}{s:So}{gs:Nat}(w0:World)(hG:(Ent.blk gs [vX,vY,.int .i64 s.val,.int .i64 s.den]).holds w0)(hX:Row w0 vX 1 s.n (ints s.X))(hY:Row w0 vY 1 s.m (ints s.Y))(hsd:Y9 s)(x0:0<=x)(x1:x<s.n)(y0:0<=y)(y1:y<s.n):
    Calls Tryz.prog 130 [.int .i64 x,.int .i64 y,.pointer (some ⟨gs,0,none⟩)].toArray w0 fun e w=>∃v,e= .returned v/\∃c:Int,v= .int .i64 c/\(c<0↔(s.X y).tmod s.den<(s.X x).tmod s.den)/\Sat w0 w []:=by
  obtain⟨⟨d1,d2⟩,⟨d3,d4⟩,d5⟩:=id hsd
  have hxx:=d5 x x0 x1;have hxy:=d5 y y0 y1
  have hq1:=U4 (a:=s.X x) (d:=s.den) hxx.1 (by omega);have hq2:=U4 (a:=s.X y) (d:=s.den) hxy.1 (by omega)
  refine zenG Tryz.func130 Tryz.ntmps130 fun w hS=> ?_
  refine zsr<|(zP)<|zx7<|zdst [] [] 1000 mx_ hS ?_;clear hS;intro w hS
  refine(zDw 0 (xfb 0 fd_139_0))<|(zDl 1 (fun w hS=>(xlf pl_22 (Ent.holds.cell hG (o:=0) rfl) hS)))<|(zDw 2 xmv)<|(zDw 3 (xix (kk:=y) Zb hX.slh))<|(zDl 4 (fun w hS=>(xlr (u:= .int .i64 (s.X y)) pl_3 (hX.below hS.below))))<|(zDw 5 (xfb 3 fd_139_3))<|(zDl 6 (fun w hS=>(xlf pl_3 (Ent.holds.cell hG (o:=3) rfl) hS)))<|(zDw 7 (Zd6 (r:=(Int.tmod (s.X y) s.den))))<|(zDw 8 (xfb 0 fd_139_0))<|(zDl 9 (fun w hS=>(xlf pl_22 (Ent.holds.cell hG (o:=0) rfl) hS)))<|(zDw 10 xmv)<|(zDw 11 (xix (kk:=x) Zb hX.slh))<|(zDl 12 (fun w hS=>(xlr (u:= .int .i64 (s.X x)) pl_3 (hX.below hS.below))))<|(zDw 13 (xfb 3 fd_139_3))<|zdla 14 (fun w hS=>(xlf pl_3 (Ent.holds.cell hG (o:=3) rfl) hS)) ?_
  refine(zDw 15 (Zd6 (r:=(Int.tmod (s.X x) s.den))))<|(zDw 16 (Zp (r:=(Int.tmod (s.X y) s.den)-(Int.tmod (s.X x) s.den))))<|(zDw 17 xas)<|zdd<|ztn<|zrt<|zf1 ⟨_,rfl,?_⟩
  exact⟨_,rfl,by omega,hS⟩
end Go.Proofs.YtkichmnjjblodaaGreat
namespace Go.Proofs.YtkichmnjjblodaaGreat
open Go Go.RowKit Go.Proofs.Gw
variable {i j m:Int} {g t:Int->Int}
def frN(s:So):Nat->Int
  |0=>0
  |k+1=>if(s.X k).tmod s.den=0 then frN s k else frN s k+1
def frF(s:So):Nat->Int->Int
  |0=>fun _=>0
  |k+1=>if(s.X k).tmod s.den=0 then frF s k else snoc (frF s k) (frN s k) k
theorem ZaQ(s:So)(h:0<=i):frN s (i+1).toNat=if(s.X i).tmod s.den=0 then frN s i.toNat else frN s i.toNat+1:=by
  obtain⟨k,rfl⟩:=Int.eq_ofNat_of_zero_le h;rw [show((k:Int)+1).toNat=k+1 by omega,Int.toNat_natCast];rfl
theorem ZaR(s:So)(h:0<=i):frF s (i+1).toNat=if(s.X i).tmod s.den=0 then frF s i.toNat else snoc (frF s i.toNat) (frN s i.toNat) i:=by
  obtain⟨k,rfl⟩:=Int.eq_ofNat_of_zero_le h;rw [show((k:Int)+1).toNat=k+1 by omega,Int.toNat_natCast];rfl
theorem ZeT (s:So):∀n:Nat,0<=frN s n/\frN s n<=n/\(∀k,0<=k->k<frN s n->0<=frF s n k/\frF s n k<n/\(s.X (frF s n k)).tmod s.den≠0)/\UN 0 (frN s n) (frF s n)/\∀q,0<=q->q<(n:Int)->(s.X q).tmod s.den≠0->∃k,0<=k/\k<frN s n/\frF s n k=q
  |0=>⟨by simp [frN],by simp [frN],fun k k0 k1=>by simp [frN] at k1;omega,fun i j i0 ij j1=>by simp [frN] at j1;omega,fun q q0 q1=>by omega⟩
  | n + 1 =>by
    obtain⟨h1,h2,h3,h4,h5⟩:=ZeT s n
    simp only [frN,frF]
    by_cases h:(s.X n).tmod s.den=0
    · rw [if_pos h,if_pos h]
      refine⟨h1,by omega,fun k k0 k1=> ?_,h4,fun q q0 q1 hq=> ?_⟩
      · have:=h3 k k0 k1;exact⟨this.1,by omega,this.2.2⟩
      · by_cases e:q=n
        · rw [e] at hq;exact absurd h hq
        · exact h5 q q0 (by omega) hq
    · rw [if_neg h,if_neg h]
      refine⟨by omega,by omega,fun k k0 k1=> ?_,fun i j i0 ij j1=> ?_,fun q q0 q1 hq=> ?_⟩
      · by_cases e:k<frN s n
        · rw [ZA e];have:=h3 k k0 e;exact⟨this.1,by omega,this.2.2⟩
        · rw [ZB e];exact⟨by omega,by omega,h⟩
      · by_cases e:j<frN s n
        · rw [ZA e,ZA (show i<frN s n by omega)];exact h4 i j i0 ij e
        · rw [ZB e,ZA (show i<frN s n by omega)];have:=h3 i i0 (by omega);omega
      · by_cases e:q=n
        · exact⟨frN s n,h1,by omega,by rw [ZB (by omega),e]⟩
        · obtain⟨k,k0,k1,hk⟩:=h5 q q0 (by omega) hq
          exact⟨k,k0,by omega,by rw [ZA k1];exact hk⟩
def Zeb(a r:List Int):Bool:=(List.zipWith (fun x y=>if 0<x/\0<y then(1:Int) else 0) a r).any fun x=>decide (0<x)
def Zcg(m:Int)(mf:Int->Int->Int)(st:List Int×Us)(k:Int):List Int×Us:=
  if Zeb (lst m (mf k)) st.1 then(List.zipWith (fun x y=>max 0 (y-x)) (lst m (mf k)) st.1,st.2++ [(lst m (mf k),1)]) else st
def R6(m:Int)(mf:Int->Int->Int)(r0:List Int)(L0:Us)(h:List Int):List Int×Us:=h.foldl (Zcg m mf) (r0,L0)
theorem ZeD{n:Int}{f:Int->Int}(n0:0<=n):lst (n+1) f=lst n f++ [f n]:=by
  unfold lst
  rw [show(n+1).toNat=n.toNat+1 by omega,List.range_succ,List.map_append,List.map_singleton,Int.toNat_of_nonneg n0]
theorem T0(m:Int)(mf:Int->Int->Int)(r0:List Int)(L0:Us)(j0:0<=j):R6 m mf r0 L0 (lst (j+1) t)=Zcg m mf (R6 m mf r0 L0 (lst j t)) (t j):=by
  rw [ZeD j0];simp [R6]
theorem T3{f:Int->Int}:Zeb (lst m f) (lst m g)=true↔∃i,0<=i/\i<m/\0<f i/\0<g i:=by
  unfold Zeb
  rw [XO,V3]
  constructor
  · rintro⟨k,k0,k1,h⟩
    refine⟨k,k0,k1,?_⟩
    by_cases hh:0<f k/\0<g k
    · exact hh
    · rw [if_neg hh] at h;omega
  · rintro⟨k,k0,k1,h⟩
    exact⟨k,k0,k1,by rw [if_pos h];omega⟩
theorem uNo{n:Int}{mf:Int->Int->Int}{r0:List Int}{L0:Us}{ln cnt:Int->Int}{pt:Int->Int->Int}(j0:0<=j)(h:(lst m g,plL n ln pt cnt)=R6 m mf r0 L0 (lst j t))(hn:¬∃i,0<=i/\i<m/\0<mf (t j) i/\0<g i):(lst m g,plL n ln pt cnt)=R6 m mf r0 L0 (lst (j+1) t):=by
  rw [T0 _ _ _ _ j0,<-h]
  unfold Zcg
  rw [if_neg fun hh=>hn (T3.1 hh)]
theorem Zl9{n:Int}{mf:Int->Int->Int}{r0:List Int}{L0:Us}{g2 ln cnt ln2 qh:Int->Int}{pt pt2:Int->Int->Int}(j0:0<=j)(n0:0<=n)(h:(lst m g,plL n ln pt cnt)=R6 m mf r0 L0 (lst j t))(hn:∃i,0<=i/\i<m/\0<mf (t j) i/\0<g i)(hg:∀k,0<=k->k<m->g2 k=max 0 (g k-mf (t j) k))
    (h1:∀k,0<=k->k<n->ln2 k=ln k/\qh k=cnt k/\pt2 k=pt k) (h2:ln2 n=m) (h3:qh n=1) (h4:pt2 n=mf (t j)):(lst m g2,plL (n+1) ln2 pt2 qh)=R6 m mf r0 L0 (lst (j+1) t):=by
  rw [T0 _ _ _ _ j0,<-h]
  unfold Zcg
  dsimp only
  rw [if_pos (T3.2 hn),XO,Th n0 h1 h2 h3 h4,Yi (f:=g2) (g:=fun k=>max 0 (g k-mf (t j) k)) hg]
def UpR (p:Prob) (u:Int) (ml:Int->Int) (mf:Int->Int->Int) (s:So) (out:Us) (e:Int):Prop:=
  (e≠0/\out= []/\∃n ln pt cnt,WholeR p u ml mf s n ln pt cnt e)\/(∃n1 ln1 pt1 yZ t n ln pt cnt,WholeR p u ml mf s n1 ln1 pt1 yZ 0/\0<=n1/\0<=n/\PermOn 0 (frN s u.toNat) (frF s u.toNat) t/\Srt (Tie fun x y=>(s.X y).tmod s.den<(s.X x).tmod s.den) 0 (frN s u.toNat) t/\
    plL n ln pt cnt=(R6 p.m mf (lst p.m (YB p (Zr n1 pt1 yZ))) (plL n1 ln1 pt1 yZ) (lst (frN s u.toNat) t)).2/\TrimR p n ln pt cnt out e)
theorem R4{mf:Int->Int}{us us2:Prop}(i0:0<=i)(h:us↔∃q,0<=q/\q<i/\0<mf q/\0<g q)(h2:us2↔(us\/(0<mf i/\0<g i))):us2↔∃q,0<=q/\q<i+1/\0<mf q/\0<g q:=by
  rw [h2,h]
  constructor
  · rintro(⟨q,q0,q1,q2⟩|hh)
    · exact⟨q,q0,by omega,q2⟩
    · exact⟨i,i0,by omega,hh⟩
  · rintro⟨q,q0,q1,q2⟩
    by_cases e:q=i
    · subst e;exact .inr q2
    · exact .inl ⟨q,q0,by omega,q2⟩
theorem Zec(s:So):Swo (fun x y=>(s.X y).tmod s.den<(s.X x).tmod s.den):=
  ⟨fun x y h=>by omega,fun x y z h k=>by omega,fun x y z h k=>by omega⟩
end Go.Proofs.YtkichmnjjblodaaGreat
namespace Go.Proofs.YtkichmnjjblodaaGreat
open Go Go.RowKit Go.Proofs.Gw
theorem Zk2:Zc Tryz.prog 129=true:=by kernel_rfl
theorem ZnH{vL vD:Value}{p:Prob}{vM:Value}{u:Int}{mv:Int->Value}{ml:Int->Int}{mf:Int->Int->Int}{vX vY:Value}{s:So}(w0:World)(h:PAt w0 vL vD p)(hM:MAt w0 vM u mv ml mf)(hX:Row w0 vX 1 s.n (ints s.X))(hY:Row w0 vY 1 s.m (ints s.Y))(yd:s.n<=1000):
    Calls Tryz.prog 88 [.agg #[vL,vD,.int .i64 p.stock,.int .i64 p.kerf],.agg #[vM,vX,vY,.int .i64 s.val,.int .i64 s.den]].toArray w0 fun e w=>∃v,e= .returned v/\∃r n pv ln pt cnt e,v= .tuple #[r,.int .i64 e]/\UpR p u ml mf s (plL n ln pt cnt) e/\(∀k,0<=k->k<n->1<=cnt k/\cnt k<=1000000000)/\n<=1000000/\Slh r n/\Sat w0 w [.own r 2 107 n (Zg pv cnt),.sem (Frame.rows 3 n pv ln pt)]:=by
  have hm:=h.L.slh.n0;have hm1:=h.L.slh.n1;have hd:=h.D.slh.n0;have hd1:=h.D.slh.n1;have hs:=h.is;have hk:=h.ik
  have hu:=hM.row.slh.n0;have hu1:=hM.row.slh.n1;have hn:=hX.slh.n0;have hn1:=hX.slh.n1
  refine zenG Tryz.func88 Tryz.ntmps88 fun w hS=> ?_
  refine zsr<|zla (xbx (cs:= [_,_,_,_]) hS) ?_;rintro _ w ⟨g1,rfl,hS⟩
  refine zla (xbx (cs:= [_,_,_,_,_]) hS) ?_;rintro _ w ⟨g2,rfl,hS⟩
  refine(zP)<|(zP)<|zlz<|(zV (xls 0 st_32 hS))<|(zV (xls 1 Xe hS))<|zlc (xc0 Zfz) (ZcW (p:=p) (u:=u) (ml:=ml) (mf:=mf) (s:=s) w (h.below hS.below) (hM.below hS.below) (hX.below hS.below) (hY.below hS.below) yd) ?_;rintro _ w ⟨qY,qe,qF,xj,qR,qI,bk,rfl,xz,zf,hS'⟩
  replace hS:=(hS.comp hS').n4;clear hS'
  have aM:=fun k (k0:0<=k) (k1:k<qe)=>hS.slhIn 3 rfl k0 k1
  refine zs5 ?_
  refine zx5<|(zP)<|(zP)<|zlt<|Zf ?_ ?_<;>intro hc
  ·
   refine zsr<|(zP)<|(zP)<|(zP)<|zx14<|zf2 ⟨_,rfl,?_⟩
   exact⟨_,0,fun _=>undef,fun _=>0,fun _ _=>0,fun _=>0,_,rfl,.inl ⟨by omega,rfl,_,_,_,_,xz⟩,fun k k0 k1=>by omega,by omega,slh_nil,((hS.sub (.cons _ (.cons _ (.cons _ (.cons _ .slnil))))).addnil 2 107 (Zg (fun _=>undef) (fun _=>0))).addrows 3 (fun _=>undef) (fun _=>0) (fun _ _=>0)⟩
  refine ZR<|zlv (xls 0 st_32 hS) ?_
  obtain⟨xb,xk,aI,em,aO,aQ⟩:=xz.ok (by omega) hu
  have xD:=xb
  have hsd:=xk.1
  obtain⟨⟨d1,d2⟩,⟨d3,d4⟩,d5⟩:=id hsd
  have hun:=xk.2.1
  have hu6:=xk.2.2.1
  have zY:=xb.m1;have qx:=xb.m2;have hpd:=xb.d
  refine(zP)<|zlc (xc0 ZcP) (UV (u:=qe) (pv:=qF) (ln:=xj) (pt:=qR) (cnt:=qI) (p:=p) w (⟨(hS.rowN 2 rfl),fun k k0 k1=>hS.rowIn 3 rfl k0 k1,fun k k0 k1=>hS.roomIn 3 rfl k0 k1⟩:VAt _ qY qe qF xj qR qI) (h.below hS.below)) ?_;rintro _ w ⟨qw,qf,qc,yG,rfl,qA,qo,hS'⟩
  replace hS:=(hS.comp hS').n5;clear hS'
  obtain⟨bv,zx⟩:qf=p.m/\qc=Zr qe qR qI:=by rcases qA with⟨g1,_⟩|⟨_,g2,g3,_⟩;exact absurd aO g1;exact⟨g2,g3⟩
  have aY:∀k,0<=k->k<p.m->0<=qc k/\qc k<=2000000000:=fun k k0 k1=>by rw [zx];have h9:=Xz aO.2.2 aQ (Int.le_refl _) k0 k1;omega
  have ac:=fun k (k0:0<=k) (k1:k<p.m)=>(aY k k0 k1).1
  have htl:=Uk xb ac p.m.toNat (by have:=xb.m1;omega)
  refine zs5 ?_
  refine zlz<|(zV (xls 0 st_32 hS))<|(zP)<|zlc (xc0 Zfx) (Zgd (p:=p) (f:=qc) w (h.below hS.below) xb (bv▸(hS.rowN 4 rfl)) aY) ?_;rintro _ w ⟨xt,xi,rfl,ym,yJ,hS'⟩
  replace hS:=(hS.comp hS').n7;clear hS'
  refine(zV (xany (v:=xi)))<|(zP)<|zlz<|(zV (xfb 1 fd_141_1))<|(zV (xlp 1 (ds:= [vX,vY,.int .i64 s.val,.int .i64 s.den]) ZM hS))<|zla (xal (cs:= [_,_,_,_]) Wt hS) ?_;rintro _ w ⟨g3,rfl,hS⟩
  refine zle (xsw 7 ZM hS (hd:=(Za hX.slh.one (Za hY.slh.one (Za rfl (Za rfl Zi)))))) ?_;clear hS;rintro w hS
  refine zlz<|(zP)<|zx5<|(zV (xfb 0 fd_139_0))<|(zV (xlb 7 pl_22 hS))<|(zV (xln Zb hX.slh))<|(zP)<|zx6 ?_
  replace hS:=hS.addnil 1 3 (ints (fun _=>0))
  refine zlp (fun mm M w=>∃(nO:Int) (fO:Int->Int) (i:Int) (vO:Value),mm=((s.n-i).toNat)/\(0<=i)/\(i<=s.n)/\(nO=frN s i.toNat)/\(fO=frF s i.toNat)/\(0<=nO/\nO<=i)/\(Slh vO nO)/\M= [(2,.pointer (some ⟨g1,0,none⟩)),(3,.pointer (some ⟨g2,0,none⟩)),(4,.slice none 0 0),(5,.int .i64 0),(6,qY),(10,xi),(11,.pointer (some ⟨g3,0,none⟩)),(12,vO),(45,vX),(46,.int .i64 s.n),(47,.int .i64 i)]/\Sat w0 w [.blk g1 [vL,vD,.int .i64 p.stock,.int .i64 p.kerf],.blk g2 [vM,vX,vY,.int .i64 s.val,.int .i64 s.den],.own qY 2 107 qe (Zg qF qI),.sem (Frame.rows 3 qe qF xj qR),.own qw 1 3 qf (ints qc),.own xt 1 3 p.m (ints p.L),.own xi 1 3 p.d (ints (YB p qc)),.blk g3 [vX,vY,.int .i64 s.val,.int .i64 s.den],.own vO 1 3 nO (ints fO)]) ⟨0,(fun _=>0),0,(.slice none 0 0),rfl,(by omega),(by omega),?_,?_,(by omega),?_,rfl,hS⟩ ?_
  ·
   rfl
  ·
   rfl
  ·
   exact slh_nil
  clear hS w
  rintro mm M w ⟨nO,fO,i,vO,rfl,h0,h1,hfN,hfF,hnO,hvO,rfl,hS⟩
  refine zsr<|(zP)<|zx7<|Zf ?_ ?_<;>intro hc
  ·
   refine zx3<|(zP)<|(zV (xix (kk:=i) Zb hX.slh))<|zlv (xlr (u:= .int .i64 (s.X i)) pl_3 (hX.below hS.below)) ?_
   have hXi:=d5 i h0 (by omega)
   have hti:=U4 hXi.1 d1
   refine(zP)<|(zP)<|zlz<|(zP)<|(zV (xfb 3 fd_139_3))<|(zV (xlb 7 pl_3 hS))<|(zV (Zd6 (r:=(Int.tmod (s.X i) s.den))))<|(zP)<|zlt<|Zf ?_ ?_<;>intro hc
   ·
    refine zrg<|(zP)<|(zP)<|zla (xli (n:=1) (len:=1) (pv:= [(0,.int .i64 i)]) (cs:= [.int .i64 i]) (c:=ints (fun _=>i)) Zb Zu hS) ?_;rintro v1 w ⟨hS,hv1⟩
    refine zla (xap 8 (r:=nO+1) Zb Zu hS (hS.rowN 9 rfl) (Yt _ _ _)) ?_;rintro v2 w ⟨hS,hv2⟩
    refine(zP)<|zx10<|(zV (Zh (r:=i+1)))<|(zP)<|zln<|zlq ⟨nO+1,(snoc fO nO i),i+1,v2,rfl,(by omega),(by omega),?_,?_,(by omega),?_,rfl,hS.pk [0,1,2,3,4,5,6,7,8]⟩
    ·
     rw [ZaQ s h0,<-hfN];first|rw [if_pos (by omega)]|rw [if_neg (by omega)]
    ·
     rw [ZaR s h0,<-hfN,<-hfF];first|rw [if_pos (by omega)]|rw [if_neg (by omega)]
    ·
     exact hv2
   refine zx4<|(zV (Zh (r:=i+1)))<|(zP)<|zln<|zlq ⟨nO,fO,i+1,vO,rfl,(by omega),(by omega),?_,?_,(by omega),?_,rfl,hS⟩
   ·
    rw [ZaQ s h0,<-hfN];first|rw [if_pos (by omega)]|rw [if_neg (by omega)]
   ·
    rw [ZaR s h0,<-hfN,<-hfF];first|rw [if_pos (by omega)]|rw [if_neg (by omega)]
   ·
    exact hvO
  refine zx8<|zlv xmv ?_
  have hiN:i=u:=by omega
  rw [hiN] at hfN hfF
  obtain⟨hr1,hr2,hr3,hr4,hr5⟩:=ZeT s u.toNat
  have hdO:∀k,0<=k->k<nO->0<=fO k/\fO k<s.n:=fun k k0 k1=>by rw [hfF];have:=hr3 k k0 (by omega);omega
  have hIO:UN 0 nO fO:=by rw [hfN,hfF];exact hr4
  refine(zV xmf)<|zlc (xc0 Zk2) (ZfS (gs:=g3) (vd:=vO) (n:=nO) (nm:=s.n) (s:=fO) (lt:=fun x y=>(s.X y).tmod s.den<(s.X x).tmod s.den) (F:=Frame.bun [.blk g1 [vL,vD,.int .i64 p.stock,.int .i64 p.kerf],.blk g2 [vM,vX,vY,.int .i64 s.val,.int .i64 s.den],.own qY 2 107 qe (Zg qF qI),.sem (Frame.rows 3 qe qF xj qR),.own qw 1 3 qf (ints qc),.own xt 1 3 p.m (ints p.L),.own xi 1 3 p.d (ints (YB p qc)),.blk g3 [vX,vY,.int .i64 s.val,.int .i64 s.den]]) w0 w (Sat.bundle (l1:= [_]) (hS.pk [8,0,1,2,3,4,5,6,7])) hvO (by omega) (fun w x y x0 x1 y0 y1 hb hF=>ZhQ w (hF.1 _ (List.mem_of_getElem? (i:=7) rfl)) (hX.below hb) (hY.below hb) hsd x0 x1 y0 y1) hdO (Zec s) hIO) ?_;rintro _ w ⟨rfl,t1,zW,cw,hS⟩
  replace hS:=Sat.unbundle (l1:= [_]) (l3:= []) hS
  refine zx5<|zlv xmv ?_
  have htd:∀k,0<=k->k<nO->0<=t1 k/\t1 k<s.n:=fun k k0 k1=>by obtain⟨q,q0,q1,q2⟩:=zW.fr k0 k1;rw [show t1 k=fO q from q2];exact hdO q q0 q1
  have hlf:∀k,0<=k->k<p.m->0<=YB p qc k/\YB p qc k<=1000:=fun k k0 k1=>by have h9:=TB xb k0 k1;have h8:=ac k k0 k1;unfold YB;rw [if_pos ⟨k0,k1⟩];omega
  refine(zV (xln Zb hvO))<|(zP)<|zx6<|zlp (fun mm M w=>∃(nC:Int) (wv:Int->Value) (lC:Int->Int) (gC:Int->Int->Int) (cC:Int->Int) (gR:Int->Int) (j:Int) (wC:Value),mm=((nO-j).toNat)/\(0<=j)/\(j<=nO)/\(0<=nC)/\(nC<=60+j)/\((lst p.m gR,plL nC lC gC cC)=R6 p.m mf (lst p.m (YB p qc)) (plL qe xj qR qI) (lst j t1))/\(∀k,0<=k->k<p.m->0<=gR k/\gR k<=1000)/\(Slh wC nC)/\M= [(2,.pointer (some ⟨g1,0,none⟩)),(3,.pointer (some ⟨g2,0,none⟩)),(4,.slice none 0 0),(5,.int .i64 0),(6,wC),(10,xi),(65,vO),(66,.int .i64 nO),(67,.int .i64 j)]/\Sat w0 w [.own vO 1 3 nO (ints t1),.blk g1 [vL,vD,.int .i64 p.stock,.int .i64 p.kerf],.blk g2 [vM,vX,vY,.int .i64 s.val,.int .i64 s.den],.own wC 2 107 nC (Zg wv cC),.sem (Frame.rows 3 nC wv lC gC),.own qw 1 3 qf (ints qc),.own xt 1 3 p.m (ints p.L),.own xi 1 3 p.d (ints gR),.blk g3 [vX,vY,.int .i64 s.val,.int .i64 s.den]]) ⟨qe,qF,xj,qR,qI,(YB p qc),0,qY,rfl,(by omega),(by omega),(by omega),(by omega),?_,?_,?_,rfl,hS⟩ ?_
  ·
   rfl
  ·
   exact hlf
  ·
   exact zf
  clear hS w
  rintro mm M w ⟨nC,wv,lC,gC,cC,gR,j,wC,rfl,j0,j1,cG,jN,hUr,hGR,hwC,rfl,hS⟩
  have qV:=fun k (k0:0<=k) (k1:k<nC)=>hS.slhIn 4 rfl k0 k1
  refine zsr<|(zP)<|zx7<|Zf ?_ ?_<;>intro hc
  ·
   refine zx3<|(zV (xix (kk:=j) Zb hvO))<|zlv (xlr (u:= .int .i64 (t1 j)) pl_3 (hS.rowN 0 rfl)) ?_
   have htj:=htd j j0 (by omega)
   obtain⟨hmk,hak⟩:=VG (xk.2.2.2.1 (t1 j) htj.1 (by omega)).1
   refine(zP)<|zlz<|(zV (xfb 0 VT))<|(zV (xlb 2 ZQ hS))<|(zP)<|(zV (xix (kk:=(t1 j)) Zl hM.row.slh))<|(zV (xlr (u:=(mv (t1 j))) pl_22 (hM.row.below hS.below)))<|(zP)<|zlz<|(zP)<|zx5<|(zP)<|(zV (xln Zb (hM.p (t1 j) (by omega) (by omega)).slh))<|(zP)<|zx6<|zlp (fun mm M w=>∃(useful:Prop) (i2:Int),mm=((ml (t1 j)-i2).toNat)/\(0<=i2)/\(i2<=ml (t1 j))/\(useful↔∃q,0<=q/\q<i2/\0<mf (t1 j) q/\0<gR q)/\M= [(2,.pointer (some ⟨g1,0,none⟩)),(3,.pointer (some ⟨g2,0,none⟩)),(4,.slice none 0 0),(5,.int .i64 0),(6,wC),(10,xi),(17,(mv (t1 j))),(18,B (useful)),(65,vO),(66,.int .i64 nO),(67,.int .i64 j),(76,(mv (t1 j))),(77,.int .i64 (ml (t1 j))),(78,.int .i64 i2)]/\Sat w0 w [.own vO 1 3 nO (ints t1),.blk g1 [vL,vD,.int .i64 p.stock,.int .i64 p.kerf],.blk g2 [vM,vX,vY,.int .i64 s.val,.int .i64 s.den],.own wC 2 107 nC (Zg wv cC),.sem (Frame.rows 3 nC wv lC gC),.own qw 1 3 qf (ints qc),.own xt 1 3 p.m (ints p.L),.own xi 1 3 p.d (ints gR),.blk g3 [vX,vY,.int .i64 s.val,.int .i64 s.den]]) ⟨False,0,rfl,(by omega),(by omega),?_,rfl,hS⟩ ?_ (hM:=by repeat' first|exact RW|refine zpk rfl ?_|refine zpk (congrArg some (ZC not_false).symm) ?_|refine zpk (congrArg some (ZG trivial).symm) ?_)
   ·
    exact⟨fun h=>h.elim,fun⟨q,q0,q1,_⟩=>by omega⟩
   clear hS w
   rintro mm M w ⟨useful,i2,rfl,i20,i21,hus,rfl,hS⟩
   refine zsr<|(zP)<|zx7<|Zf ?_ ?_<;>intro hc
   ·
    refine zx3<|(zP)<|(zV (xix (kk:=i2) Zb (hM.p (t1 j) (by omega) (by omega)).slh))<|zlv (xlr (u:= .int .i64 ((mf (t1 j)) i2)) pl_3 ((hM.p (t1 j) (by omega) (by omega)).below hS.below)) ?_
    have haq:=hak i2 i20 (by omega)
    refine(zP)<|(zP)<|zlt<|zrg<|(zP)<|(zP)<|zlb 84 ?_ ?_<;>intro hc
    ·
     iterate 9 refine zlo ?_
     refine(zP)<|(zP)<|zx10<|(zV (Zh (r:=i2+1)))<|(zP)<|zln<|zlq ⟨True,i2+1,rfl,(by omega),(by omega),?_,rfl,hS⟩ (hM:=by repeat' first|exact RW|refine zpk rfl ?_|refine zpk (congrArg some (ZC not_false).symm) ?_|refine zpk (congrArg some (ZG trivial).symm) ?_)
     ·
      refine R4 i20 hus ?_
      first
      |exact⟨fun _=> .inl ‹useful›,fun _=>trivial⟩
      |exact⟨fun h9=> .inr ⟨‹0<mf (t1 j) i2›,h9⟩,fun h9=>h9.elim (fun h8=>absurd h8 ‹¬useful›) (·.2)⟩
      |exact⟨fun h9=>h9.elim,fun h9=>h9.elim (fun h8=>absurd h8 ‹¬useful›) (fun h8=>absurd h8.1 ‹¬0<mf (t1 j) i2›)⟩
    refine(zP)<|(zP)<|(zP)<|zlb 87 ?_ ?_<;>intro hc
    ·
     refine(zP)<|(zP)<|(zV (xix (kk:=i2) Zb yJ))<|(zV (xlr (u:= .int .i64 (gR i2)) pl_3 (hS.rowN 7 rfl)))<|zs4 ?_
     refine zx10<|(zV (Zh (r:=i2+1)))<|(zP)<|zln<|zlq ⟨0<gR i2,i2+1,rfl,(by omega),(by omega),?_,rfl,hS⟩
     ·
      refine R4 i20 hus ?_
      first
      |exact⟨fun _=> .inl ‹useful›,fun _=>trivial⟩
      |exact⟨fun h9=> .inr ⟨‹0<mf (t1 j) i2›,h9⟩,fun h9=>h9.elim (fun h8=>absurd h8 ‹¬useful›) (·.2)⟩
      |exact⟨fun h9=>h9.elim,fun h9=>h9.elim (fun h8=>absurd h8 ‹¬useful›) (fun h8=>absurd h8.1 ‹¬0<mf (t1 j) i2›)⟩
    iterate 5 refine zlo ?_
    refine(zP)<|(zP)<|(zP)<|zx10<|(zV (Zh (r:=i2+1)))<|(zP)<|zln<|zlq ⟨False,i2+1,rfl,(by omega),(by omega),?_,rfl,hS⟩ (hM:=by repeat' first|exact RW|refine zpk rfl ?_|refine zpk (congrArg some (ZC not_false).symm) ?_|refine zpk (congrArg some (ZG trivial).symm) ?_)
    ·
     refine R4 i20 hus ?_
     first
     |exact⟨fun _=> .inl ‹useful›,fun _=>trivial⟩
     |exact⟨fun h9=> .inr ⟨‹0<mf (t1 j) i2›,h9⟩,fun h9=>h9.elim (fun h8=>absurd h8 ‹¬useful›) (·.2)⟩
     |exact⟨fun h9=>h9.elim,fun h9=>h9.elim (fun h8=>absurd h8 ‹¬useful›) (fun h8=>absurd h8.1 ‹¬0<mf (t1 j) i2›)⟩
   refine zx18<|(zP)<|(zP)<|zlt<|Zf ?_ ?_<;>intro hc
   ·
    refine zxt<|ztx<|zbh<|ztn<|zrg<|(zV (Zh (r:=j+1)))<|(zP)<|zln<|zlq ⟨nC,wv,lC,gC,cC,gR,j+1,wC,rfl,(by omega),(by omega),(by omega),(by omega),?_,?_,?_,rfl,hS⟩
    ·
     first|exact uNo j0 hUr (fun⟨q,q0,q1,q2⟩=>absurd (hus.2 ⟨q,q0,by omega,q2⟩) ‹_›)|exact Zl9 j0 cG hUr (by obtain⟨q,q0,q1,q2⟩:=hus.1 (by first|assumption|exact Classical.not_not.1 ‹_›);exact⟨q,q0,by omega,q2⟩) (fun k k0 k1=>(hg4 k k0 k1).trans (if_pos (by omega))) (fun k k0 k1=>⟨Zx k1,ZA k1,Zx k1⟩) ((ZL (by omega)).trans hmk) (ZB (by omega)) (ZL (by omega))
    ·
     first|exact hGR|(intro k k0 k1;have h9:=hg4 k k0 k1;rw [if_pos (by omega)] at h9;have h8:=hGR k k0 k1;have h7:=hak k k0 k1;omega)
    ·
     exact hwC
   refine ZR<|(zP)<|(zP)<|zlc (xc0 cl_65) (c_clone (n:=(ml (t1 j))) (f:=(mf (t1 j))) w ((hM.p (t1 j) (by omega) (by omega)).below hS.below) (by omega)) ?_;rintro vq1 w ⟨_,rfl,qb,hS'⟩
   replace hS:=(hS.comp hS').n10;clear hS'
   refine zlv (xany (v:= .agg #[vq1,.int .i64 1]) (hr:=by obtain⟨_,_,_,_,rfl,_⟩:=qb;kernel_rfl)) ?_
   refine zla (xli (n:=1) (len:=1) (pv:= [(0,.agg #[vq1,.int .i64 1])]) (cs:= [vq1,.int .i64 1]) (c:=Zg (fun _=>vq1) (fun _=>1)) ZS Yn hS (hf:=by obtain⟨_,_,_,_,rfl,_⟩:=qb;kernel_rfl)) ?_;rintro v3 w ⟨hS,hv3⟩
   refine zla (xap 3 (r:=nC+1) ZS Yn hS (hS.rowN 10 rfl) (YQ _ _ _ _ _) (h1:=fun k _ _=>YP (fun _=>qb.one) k)) ?_;rintro v4 w ⟨hS,hv4⟩
   replace hS:=Sat.merge (l1:= [_,_,_,_]) (l2:= [_,_,_,_]) (l3:= [_]) hS (by omega)
   have yA:=fun k (k0:0<=k) (k1:k<nC+1)=>hS.slhIn 4 rfl k0 k1
   refine(zP)<|zlz<|(zP)<|(zV (xln Zb (hM.p (t1 j) (by omega) (by omega)).slh))<|(zP)<|zx6<|zlp (fun mm M w=>∃(g4:Int->Int) (i4:Int),mm=((ml (t1 j)-i4).toNat)/\(0<=i4)/\(i4<=ml (t1 j))/\(∀k,0<=k->k<p.m->g4 k=if k<i4 then max 0 (gR k-mf (t1 j) k) else gR k)/\M= [(2,.pointer (some ⟨g1,0,none⟩)),(3,.pointer (some ⟨g2,0,none⟩)),(4,.slice none 0 0),(5,.int .i64 0),(6,v4),(10,xi),(65,vO),(66,.int .i64 nO),(67,.int .i64 j),(104,(mv (t1 j))),(105,.int .i64 (ml (t1 j))),(106,.int .i64 i4)]/\Sat w0 w [.own vO 1 3 nO (ints t1),.blk g1 [vL,vD,.int .i64 p.stock,.int .i64 p.kerf],.blk g2 [vM,vX,vY,.int .i64 s.val,.int .i64 s.den],.own v4 2 107 (nC+1) (Zg (gsn wv nC vq1) (snoc cC nC 1)),.sem (Frame.rows 3 (nC+1) (gsn wv nC vq1) (gsn lC nC (ml (t1 j))) (gsn gC nC (mf (t1 j)))),.own qw 1 3 qf (ints qc),.own xt 1 3 p.m (ints p.L),.own xi 1 3 p.d (ints g4),.blk g3 [vX,vY,.int .i64 s.val,.int .i64 s.den],.own v3 2 107 1 (Zg (fun _=>vq1) (fun _=>1))]) ⟨gR,0,rfl,(by omega),(by omega),?_,rfl,hS⟩ ?_
   ·
    intro k k0 k1;rw [if_neg (by omega)]
   clear hS w
   rintro mm M w ⟨g4,i4,rfl,i40,i41,hg4,rfl,hS⟩
   refine zsr<|(zP)<|zx7<|Zf ?_ ?_<;>intro hc
   ·
    refine zx3<|(zP)<|(zV (xix (kk:=i4) Zb (hM.p (t1 j) (by omega) (by omega)).slh))<|zlv (xlr (u:= .int .i64 ((mf (t1 j)) i4)) pl_3 ((hM.p (t1 j) (by omega) (by omega)).below hS.below)) ?_
    have haq:=hak i4 i40 (by omega)
    have hgq:=hGR i4 i40 (by omega)
    have hgi:=hg4 i4 i40 (by omega)
    rw [if_neg (by omega)] at hgi
    refine(zP)<|(zP)<|zlt<|zrg<|zs4 ?_
    refine(zV (xix (kk:=i4) Zb yJ))<|(zV (xlr (u:= .int .i64 (g4 i4)) pl_3 (hS.rowN 7 rfl)))<|(zP)<|(zV (Zp (r:=g4 i4-((mf (t1 j)) i4))))<|(zV (Zbr (r:=(max 0 (g4 i4-((mf (t1 j)) i4))))))<|(zV (xix (kk:=i4) Zb yJ))<|zle (xso 7 pl_3 hS (Zs _ _ _)) ?_;clear hS;rintro w hS
    refine zx10<|(zV (Zh (r:=i4+1)))<|(zP)<|zln<|zlq ⟨(upd g4 i4 (max 0 (g4 i4-((mf (t1 j)) i4)))),i4+1,rfl,(by omega),(by omega),?_,rfl,hS⟩
    ·
     intro k k0 k1;unfold upd;by_cases e:k=i4
     · rw [if_pos e,if_pos (by omega),e];omega
     · rw [if_neg e,hg4 k k0 k1];by_cases e2:k<i4
       · rw [if_pos e2,if_pos (by omega)]
       · rw [if_neg e2,if_neg (by omega)]
   refine zx21<|(zV (Zh (r:=j+1)))<|(zP)<|zln<|zlq ⟨nC+1,gsn wv nC vq1,gsn lC nC (ml (t1 j)),gsn gC nC (mf (t1 j)),(snoc cC nC 1),g4,j+1,v4,rfl,(by omega),(by omega),(by omega),(by omega),?_,?_,?_,rfl,hS.pk [0,1,2,3,4,5,6,7,8]⟩
   ·
    first|exact uNo j0 hUr (fun⟨q,q0,q1,q2⟩=>absurd (hus.2 ⟨q,q0,by omega,q2⟩) ‹_›)|exact Zl9 j0 cG hUr (by obtain⟨q,q0,q1,q2⟩:=hus.1 (by first|assumption|exact Classical.not_not.1 ‹_›);exact⟨q,q0,by omega,q2⟩) (fun k k0 k1=>(hg4 k k0 k1).trans (if_pos (by omega))) (fun k k0 k1=>⟨Zx k1,ZA k1,Zx k1⟩) ((ZL (by omega)).trans hmk) (ZB (by omega)) (ZL (by omega))
   ·
    first|exact hGR|(intro k k0 k1;have h9:=hg4 k k0 k1;rw [if_pos (by omega)] at h9;have h8:=hGR k k0 k1;have h7:=hak k k0 k1;omega)
   ·
    exact hv4
  refine zx8<|(zV (xls 1 st_32 hS))<|(zP)<|zlc (xc0 Zfy) (ZfN (u:=nC) (pv:=wv) (ln:=lC) (pt:=gC) (cnt:=cC) (p:=p) w (⟨(hS.rowN 3 rfl),fun k k0 k1=>hS.rowIn 4 rfl k0 k1,fun k k0 k1=>hS.roomIn 4 rfl k0 k1⟩:VAt _ wC nC wv lC gC cC) (h.below hS.below)) ?_;rintro _ w ⟨da,au,dv,dD,eL,eR,eP,rfl,zk,zm,zl,zg,hS'⟩
  replace hS:=(hS.comp hS').n11;clear hS'
  have cA:=fun k (k0:0<=k) (k1:k<au)=>hS.slhIn 10 rfl k0 k1
  refine zs4 ?_
  refine zx1<|zf2 ⟨_,rfl,?_⟩
  have hjN:j=frN s u.toNat:=by omega
  rw [hjN] at hUr
  exact⟨_,_,_,_,_,_,_,rfl,.inr ⟨_,_,_,_,_,_,_,_,_,(by rw [show(0:Int)=bk by omega];exact xz),aQ,cG,(by rw [<-hfN,<-hfF];exact zW),(by rw [<-hfN];exact cw),(by rw [<-zx,<-hUr]),zk⟩,zm,zl,zg,hS.pk [9,10]⟩
end Go.Proofs.YtkichmnjjblodaaGreat
namespace Go.Proofs.YtkichmnjjblodaaGreat
open Go Go.RowKit Go.Proofs.Gw
variable {cnt ln:Int->Int} {pt:Int->Int->Int}
theorem Vm{F G c d:Int->Int}:∀{m:Nat},(∀k:Nat,k<m->F k=G k/\c k=d k)->psum F c m=psum G d m
  |0,_=>rfl
  |m+1,h=>by simp only [psum];rw [Vm fun k hk=>h k (by omega),(h m (by omega)).1,(h m (by omega)).2]
theorem XI{n:Int}{f:Int->Int}{j:Int}(j0:0<=j)(j1:j<n):(lst n f).getD j.toNat 0=f j:=by
  rw [List.getD_eq_getElem?_getD,lst_get,Int.toNat_of_nonneg j0,if_pos j1];rfl
theorem ZaK{m:Int}{l:List Int}(h:l.length=m.toNat):l=lst m fun k=>l.getD k.toNat 0:=by
  apply List.ext_getElem?
  intro k
  rw [lst_get]
  by_cases hk:(k:Int)<m
  · rw [if_pos hk,List.getD_eq_getElem?_getD,Int.toNat_natCast,List.getElem?_eq_getElem (by omega)];rfl
  · rw [if_neg hk];simp;omega
def mkU(j:Int)(L:Us):Int:=wsum (fun l=>l.getD j.toNat 0) L
theorem Zha{n:Int}(n0:0<=n){j:Int}(j0:0<=j)(hl:∀k,0<=k->k<n->j<ln k):Zr n pt cnt j=mkU j (plL n ln pt cnt):=by
  unfold mkU Zr
  rw [Z9 _ n0]
  exact Vm fun k hk=>⟨(XI j0 (hl k (by omega) (by omega))).symm,rfl⟩
theorem Zes{p:Prob}{u:Int}(h:PlanOk p u ln pt cnt):∀x∈plL u ln pt cnt,1<=x.2:=fun x hx=>by
  obtain⟨j,hj⟩:=List.mem_iff_getElem?.1 hx
  rw [plL_get] at hj
  split at hj
  · injection hj with hj;rw [<-hj];exact(h.2.2 j (by omega) (by assumption)).1
  · cases hj
def Zaa(p:Prob)(l:List Int):Prop:=∃f,FitsP p p.m f/\l=lst p.m f
theorem UG{p:Prob}{n m:Int}{f g:Int->Int}(h:FitsP p n f)(hn:n=m)(he:∀k,0<=k->k<p.m->g k=f k):FitsP p m g:=by
  subst hn
  refine⟨h.ok,h.eq,fun i i0 i1=>by rw [he i i0 i1];exact h.all i i0 i1,?_⟩
  have hm:=h.ok.m1
  have e:Zy p g p.m.toNat=Zy p f p.m.toNat:=Zj fun i i0 i1=>by rw [he i i0 (by omega)]
  rw [e];exact h.used
theorem Zaw{p:Prob}{n:Int}(hok:p.Ok)(hn:n<=1000)(hl:∀k,0<=k->k<n->0<=ln k)(hL:∀x∈plL n ln pt cnt,(1<=x.2/\x.2<=1000)/\Zaa p x.1):PlanOk p n ln pt cnt:=by
  refine⟨hok,hn,fun k k0 k1=> ?_⟩
  have hm:(lst (ln k) (pt k),cnt k)∈plL n ln pt cnt:=List.mem_iff_getElem?.2 ⟨k.toNat,by rw [plL_get,Int.toNat_of_nonneg k0,if_pos k1]⟩
  obtain⟨⟨h1,h2⟩,f,h3,h4⟩:=hL _ hm
  have hm1:=hok.m1
  obtain⟨q1,q2⟩:=(Uj (hl k k0 k1) (by omega)).1 h4
  exact⟨h1,h2,UG h3 q1.symm fun i i0 i1=>q2 i i0 (by omega)⟩
theorem Vn{p:Prob}{n:Int}(h:PlanOk p n ln pt cnt):∀x∈plL n ln pt cnt,(1<=x.2/\x.2<=1000)/\Zaa p x.1:=fun x hx=>by
  obtain⟨j,hj⟩:=List.mem_iff_getElem?.1 hx
  rw [plL_get] at hj
  split at hj
  · injection hj with hj
    obtain⟨h1,h2,h3⟩:=h.2.2 j (by omega) (by assumption)
    rw [<-hj]
    exact⟨⟨h1,h2⟩,pt j,UG h3 h3.eq fun _ _ _=>rfl,by have:=h3.eq;dsimp only;rw [this]⟩
  · cases hj
end Go.Proofs.YtkichmnjjblodaaGreat
namespace Go.Proofs.YtkichmnjjblodaaGreat
open Go Go.RowKit Go.Proofs.Gw
variable {j:Int}
theorem RU{p:Prob}{qd:List Int}{s:Us}(hok:p.Ok)(h:FFOk p.m (p.stock+p.kerf) (szP p) qd s){b:List Int×Int}(hb:b∈s)(j0:0<=j)(j1:j<p.m):0<=b.1.getD j.toNat 0/\b.1.getD j.toNat 0<=p.stock+p.kerf:=by
  obtain⟨h2,h3,h4⟩:=h.ok _ hb
  have h5:=h.nn _ hb
  have h6:=Ki h5 (sz:=szP p) (fun k hk=>(Zbw hok (by omega) (by omega)).1) (j:=j.toNat) (by omega)
  refine⟨?_,by omega⟩
  rw [List.getD_eq_getElem?_getD,List.getElem?_eq_getElem (by omega)]
  exact h5 _ (List.getElem_mem _)
theorem Re(p:Prob)(d:Int->Int):∀n:Nat,psum (szP p) d n=Zy p d n
  |0=>rfl
  | n +1=>by
    have h1:Zy p d (n+1)=Zy p d n+d n*(p.L n+p.kerf):=by
      have:=ZJ (fun i=>d i*(p.L i+p.kerf)) (i:=(n:Int)) (by omega)
      rw [show((n:Int)+1).toNat=n+1 by omega,Int.toNat_natCast] at this
      exact this
    rw [h1,psum,Re p d n,Int.mul_comm]
theorem Km{a b A B:Int}(a0:0<=a)(a1:a<=A)(b0:0<=b)(b1:b<=B):0<=a*b/\a*b<=A*B:=
  ⟨Int.mul_nonneg a0 b0,Int.mul_le_mul a1 b1 b0 (by omega)⟩
theorem VH{p:Prob}{n:Int}{ln cnt:Int->Int}{pt:Int->Int->Int}(hok:p.Ok)(hn:n<=1000)(hL:∀x∈plL n ln pt cnt,(1<=x.2/\x.2<=1000)/\Zaa p x.1):PlanOk p n ln pt cnt:=by
  refine Zaw hok hn (fun k k0 k1=> ?_) hL
  obtain⟨_,f,h3,h4⟩:=hL (lst (ln k) (pt k),cnt k) (List.mem_iff_getElem?.2 ⟨k.toNat,by rw [plL_get,Int.toNat_of_nonneg k0,if_pos k1]⟩)
  have h5:=congrArg List.length h4
  dsimp only at h5
  rw [YY,YY] at h5
  have:=hok.m1
  omega
theorem PlanOk.mk{p:Prob}{n:Int}{ln cnt:Int->Int}{pt:Int->Int->Int}(h:PlanOk p n ln pt cnt)(n0:0<=n)(j0:0<=j)(j1:j<p.m):Zr n pt cnt j=mkU j (plL n ln pt cnt):=
  Zha n0 j0 fun k k0 k1=>by have:=(h.2.2 k k0 k1).2.2.eq;omega
theorem Zce{f g:List Int->Int}:∀{L:Us},(∀x∈L,0<=x.2)->(∀x∈L,f x.1<=g x.1)->wsum f L<=wsum g L
  | [],_,_=>Int.le_refl _
  | x::L,h,k=>by
    have h1:=Zce (f:=f) (g:=g) (L:=L) (fun y hy=>h y (by simp [hy])) fun y hy=>k y (by simp [hy])
    have h2:=Int.mul_le_mul_of_nonneg_right (k x (by simp)) (h x (by simp))
    simp only [wsum];omega
theorem ZbQ:∀{L:Us},(∀x∈L,1<=x.2)->(L.length:Int)<=wsum (fun _=>1) L/\∀x∈L,x.2<=wsum (fun _=>1) L
  | [],_=>⟨by simp [wsum],by simp⟩
  | y ::L,h=>by
    obtain⟨h1,h2⟩:=ZbQ (L:=L) fun x hx=>h x (by simp [hx])
    have h3:=h y (by simp)
    simp only [wsum]
    refine⟨by rw [List.length_cons];push_cast;omega,fun x hx=> ?_⟩
    rcases List.mem_cons.1 hx with e|e
    · rw [e];have:(0:Int)<=L.length:=by omega
      omega
    · have:=h2 x e;omega
theorem Zjp{p:Prob}{qd:List Int}{s:Us}(hok:p.Ok)(h:FFOk p.m (p.stock+p.kerf) (szP p) qd s){b:List Int×Int}(hb:b∈s):Zaa p b.1:=by
  obtain⟨h2,h3,h4⟩:=h.ok _ hb
  have h5:=h.nn _ hb
  have hm:=hok.m1
  have hl:=ZaK (m:=p.m) h2
  have e:Wm (szP p) b.1=Zy p (fun k=>b.1.getD k.toNat 0) p.m.toNat:=by
    rw [hl,Rc _ _ (by omega),Re]
    refine Zj fun i i0 i1=> ?_
    dsimp only
    rw [<-hl]
  refine⟨fun k=>b.1.getD k.toNat 0,⟨hok,rfl,fun i i0 i1=> ?_,by omega⟩,hl⟩
  obtain⟨g1,g2⟩:=RU hok h hb i0 i1
  refine⟨g1,?_⟩
  have h6:(b.1.getD i.toNat 0)*(1+p.kerf)<=p.stock+p.kerf:=by
    have hs:=hok.all i i0 i1
    unfold Prob.each at hs
    have h7:(b.1.getD i.toNat 0)*(p.L i+p.kerf)<=Zy p (fun k=>b.1.getD k.toNat 0) p.m.toNat:=Xb (f:=fun i=>b.1.getD i.toNat 0*(p.L i+p.kerf)) i0 (by omega) fun k k0 k1=>by
      have hk:=hok.all k k0 (by omega)
      unfold Prob.each at hk
      exact Int.mul_nonneg (RU hok h hb k0 (by omega)).1 (by have:=hok.k1;omega)
    have h8:=Int.mul_le_mul_of_nonneg_left (show 1+p.kerf<=p.L i+p.kerf by omega) g1
    omega
  have hk1:=hok.k1
  have hs2:=hok.s2
  refine Classical.byContradiction fun hc=> ?_
  have h9:=Int.mul_le_mul_of_nonneg_right (show(2001:Int)<=b.1.getD i.toNat 0 by omega) (show 0<=1+p.kerf by omega)
  omega
def ZbH(j:Int):Int->Int:=fun k=>if k=j then 1 else 0
theorem Tg{d:Int->Int}{j:Int}(j0:0<=j):∀n:Nat,psum (ZbH j) d n=if j<(n:Int) then d j else 0
  |0=>by rw [if_neg (by omega)];rfl
  | n +1=>by
    simp only [psum]
    rw [Tg j0 n]
    unfold ZbH
    by_cases h:(n:Int)=j
    · rw [if_neg (by omega),if_pos h,if_pos (by omega),h];omega
    · rw [if_neg h]
      by_cases h2:j<(n:Int)
      · rw [if_pos h2,if_pos (by omega)];omega
      · rw [if_neg h2,if_neg (by omega)];omega
theorem Zer{m:Int}{l:List Int}(hl:l.length=m.toNat)(j0:0<=j)(j1:j<m):Wm (ZbH j) l=l.getD j.toNat 0:=by
  have h:=ZaK (m:=m) hl
  have h1:Wm (ZbH j) l=Wm (ZbH j) (lst m fun k=>l.getD k.toNat 0):=by rw [<-h]
  rw [h1,Rc _ _ (by omega),Tg j0,if_pos (by omega)]
theorem ZeV{p:Prob}{d:Int->Int}(hok:p.Ok)(hd:∀k,0<=k->k<p.m->0<=d k){N:Us}(hN:NormR (TR (YV p.m (p.stock+p.kerf) (szP p) (pcsTo d p.m 0))) N):
    (∀x∈N,1<=x.2/\Zaa p x.1)/\wsum (fun _=>1) N<=psum (fun _=>1) d p.m.toNat/\∀j,0<=j->j<p.m->mkU j N=d j:=by
  have hm:=hok.m1
  obtain⟨hp1,hp2⟩:=Ti (d:=d) (m:=p.m) (i:=p.m) (c:=0) hd (by omega) (by omega) (by omega) (fun h=>by omega) fun _=>rfl
  have hF:=ZcE hok hp1
  have qs:∀x∈TR (YV p.m (p.stock+p.kerf) (szP p) (pcsTo d p.m 0)),∃b∈YV p.m (p.stock+p.kerf) (szP p) (pcsTo d p.m 0),x=(b.1,1):=fun x hx=>by
    unfold TR at hx
    obtain⟨b,hb,rfl⟩:=List.mem_map.1 hx
    exact⟨b,hb,rfl⟩
  refine⟨fun x hx=>⟨hN.pos (fun y hy=>by obtain⟨b,_,rfl⟩:=qs y hy;exact Int.le_refl _) x hx,?_⟩,?_,fun j j0 j1=> ?_⟩
  · obtain⟨y,hy,e⟩:=hN.keys x hx
    obtain⟨b,hb,rfl⟩:=qs y hy
    rw [<-e];exact Zjp (b:=b) hok hF hb
  · rw [hN.wsum,V7]
    have h1:=hF.ln
    have h2:((YV p.m (p.stock+p.kerf) (szP p) (pcsTo d p.m 0)).map fun _=>(1:Int)).sum=(YV p.m (p.stock+p.kerf) (szP p) (pcsTo d p.m 0)).length:=by
      generalize YV p.m (p.stock+p.kerf) (szP p) (pcsTo d p.m 0)=l
      induction l with
      |nil=>rfl
      |cons a l ih=>rw [List.map_cons,List.sum_cons,ih,List.length_cons];push_cast;omega
    omega
  · unfold mkU
    rw [hN.wsum,V7]
    have h1:=hF.ct (ZbH j)
    rw [Rj _ _ (by omega) (by omega) hd,Tg j0,if_pos (by omega)] at h1
    have h2:((YV p.m (p.stock+p.kerf) (szP p) (pcsTo d p.m 0)).map fun b=>b.1.getD j.toNat 0)=(YV p.m (p.stock+p.kerf) (szP p) (pcsTo d p.m 0)).map fun b=>Wm (ZbH j) b.1:=
      List.map_congr_left fun b hb=>(Zer (hF.ok b hb).1 j0 j1).symm
    rw [h2,h1];omega
end Go.Proofs.YtkichmnjjblodaaGreat
namespace Go.Proofs.YtkichmnjjblodaaGreat
open Go Go.RowKit Go.Proofs.Gw
variable {e:Int}
structure ExU (p:Prob) (N:Us):Prop where
  pat:∀x∈N,1<=x.2/\Zaa p x.1
  few:wsum (fun _=>1) N<=psum (fun _=>1) p.D p.m.toNat
  mks:∀j,0<=j->j<p.m->mkU j N=p.D j
theorem FFitR.ex{p:Prob}{N:Us}(hok:p.Ok)(h:FFitR p N e)(he:e=0):ExU p N:=by
  obtain⟨h1,h2,h3⟩:=ZeV hok (fun k k0 k1=>(TB hok k0 k1).1) (h.2.1 he)
  exact⟨h1,h2,h3⟩
theorem Zbc(f:List Int->Int):∀{N:Us},(∀x∈N,0<=x.2)->((Uu N).map f).sum=wsum f N
  | [],_=>rfl
  | u ::N,h=>by
    have h1:=Zbc f (N:=N) fun x hx=>h x (by simp [hx])
    have h2:=h u (by simp)
    unfold Uu at h1⊢
    rw [List.reverse_cons,List.flatMap_append,List.map_append,List.sum_append,h1]
    simp only [List.flatMap_cons,List.flatMap_nil,List.append_nil,List.map_replicate,wsum]
    have h3:∀n:Nat,(List.replicate n (f u.1)).sum=f u.1*n:=fun n=>by
      induction n with
      |zero=>simp
      |succ n ih=>rw [List.replicate_succ,List.sum_cons,ih];push_cast;rw [Int.mul_add];omega
    rw [h3,Int.toNat_of_nonneg h2];omega
theorem Zgu{N:Us}:∀a∈Uu N,∃x∈N,a=x.1:=fun a ha=>by
  unfold Uu at ha
  obtain⟨x,hx,h⟩:=List.mem_flatMap.1 ha
  exact⟨x,List.mem_reverse.1 hx,(List.mem_replicate.1 h).2⟩
theorem ZbP{m:Int}{j:Int}(j0:0<=j)(j1:j<m):∀(h:List (List Int)),(∀a∈h,∃f:Int->Int,(∀k,0<=k->k<m->0<=f k)/\a=lst m f)->0<=(h.map fun a=>a.getD j.toNat 0).sum
  | [],_=>by simp
  | a::h,ha=>by
    have h1:=ZbP j0 j1 h fun b hb=>ha b (by simp [hb])
    obtain⟨f,hf,rfl⟩:=ha a (by simp)
    have:=hf j j0 j1
    rw [List.map_cons,List.sum_cons,XI j0 j1];omega
theorem U6 {m:Int}:∀(h:List (List Int)) (M:Int->Int) (L:Us),(∀a∈h,∃f:Int->Int,(∀k,0<=k->k<m->0<=f k)/\a=lst m f)->(∀k,0<=k->k<m->0<=M k)->
    (∃M':Int->Int,(h.foldl WI (lst m M,L)).1=lst m M'/\∀j,0<=j->j<m->M' j=max 0 (M j-(h.map fun a=>a.getD j.toNat 0).sum)/\mkU j (h.foldl WI (lst m M,L)).2=mkU j L+(h.map fun a=>a.getD j.toNat 0).sum-(M j-M' j))/\
    ∀x∈(h.foldl WI (lst m M,L)).2,x∈L\/∃(f g:Int->Int),lst m f∈h/\x=(lst m g,1)/\(∀k,0<=k->k<m->0<=g k/\g k<=f k)/\∃k,0<=k/\k<m/\0<g k
  | [],M,L,_,hM=>⟨⟨M,rfl,fun j j0 j1=>by have:=hM j j0 j1;simp only [List.foldl_nil,List.map_nil,List.sum_nil];omega⟩,fun x hx=> .inl hx⟩
  | a :: h, M,L,ha,hM=>by
    obtain⟨f,hf,rfl⟩:=ha a (by simp)
    have e1:tM (lst m f) (lst m M)=lst m fun k=>M k-min (f k) (M k):=XO _ _ _ _
    have e2:tA (lst m f) (lst m M)=lst m fun k=>f k-min (f k) (M k):=XO _ _ _ _
    have hM1:∀k,0<=k->k<m->0<=M k-min (f k) (M k):=fun k k0 k1=>by omega
    have ha1:∀a∈h,∃f:Int->Int,(∀k,0<=k->k<m->0<=f k)/\a=lst m f:=fun b hb=>ha b (by simp [hb])
    rw [List.foldl_cons]
    by_cases hn:(lst m fun k=>f k-min (f k) (M k)).any (fun x=>decide (0<x))=true
    · have e:WI (lst m M,L) (lst m f)=(lst m fun k=>M k-min (f k) (M k),L++ [(lst m fun k=>f k-min (f k) (M k),1)]):=by
        unfold WI;dsimp only;rw [e1,e2,if_pos hn]
      rw [e]
      obtain⟨⟨M',h1,h2⟩,h3⟩:=U6 h (fun k=>M k-min (f k) (M k)) (L++ [(lst m fun k=>f k-min (f k) (M k),1)]) ha1 hM1
      refine⟨⟨M',h1,fun j j0 j1=> ?_⟩,fun x hx=> ?_⟩
      · obtain⟨g1,g2⟩:=h2 j j0 j1
        rw [List.map_cons,List.sum_cons,XI j0 j1]
        have g3:mkU j (L++ [(lst m fun k=>f k-min (f k) (M k),1)])=mkU j L+(f j-min (f j) (M j)):=by
          unfold mkU;rw [WF];simp only [wsum];rw [XI j0 j1];omega
        rw [g3] at g2
        have:=hf j j0 j1;have:=hM j j0 j1;have:=ZbP j0 j1 h ha1
        omega
      · rcases h3 x hx with h4|⟨f',g,h4,h5⟩
        · rcases List.mem_append.1 h4 with h4|h4
          · exact .inl h4
          · obtain⟨k,k0,k1,hk⟩:=V3.1 hn
            exact .inr ⟨f,_,by simp,by simpa using h4,fun k k0 k1=>by have:=hf k k0 k1;have:=hM k k0 k1;omega,k,k0,k1,hk⟩
        · exact .inr ⟨f',g,by simp [h4],h5⟩
    · have e:WI (lst m M,L) (lst m f)=(lst m fun k=>M k-min (f k) (M k),L):=by
        unfold WI;dsimp only;rw [e1,e2,if_neg hn]
      rw [e]
      obtain⟨⟨M',h1,h2⟩,h3⟩:=U6 h (fun k=>M k-min (f k) (M k)) L ha1 hM1
      refine⟨⟨M',h1,fun j j0 j1=> ?_⟩,fun x hx=> ?_⟩
      · obtain⟨g1,g2⟩:=h2 j j0 j1
        rw [List.map_cons,List.sum_cons,XI j0 j1]
        have hz:¬0<f j-min (f j) (M j):=fun hh=>hn (V3.2 ⟨j,j0,j1,hh⟩)
        have:=hf j j0 j1;have:=hM j j0 j1;have:=ZbP j0 j1 h ha1
        omega
      · rcases h3 x hx with h4|⟨f',g,h4,h5⟩
        · exact .inl h4
        · exact .inr ⟨f',g,by simp [h4],h5⟩
theorem Rf(d:Int->Int):∀n:Nat,psum (fun k=>d k) (fun _=>1) n=psum (fun _=>1) d n
  |0=>rfl
  |n+1=>by simp only [psum];rw [Rf d n];omega
theorem Zab(f g:List Int->Int):∀L:Us,wsum (fun l=>f l+g l) L=wsum f L+wsum g L
  | []=>rfl
  |x::L=>by simp only [wsum];rw [Zab f g L,Int.add_mul];omega
theorem TU:∀L:Us,wsum (fun _=>0) L=0
  | []=>rfl
  |x::L=>by simp only [wsum];rw [TU L];omega
theorem Zcd(L:Us):∀n:Nat,wsum (fun l=>psum (fun k=>l.getD k.toNat 0) (fun _=>1) n) L=psum (fun k=>mkU k L) (fun _=>1) n
  |0=>TU L
  | n +1=>by
    have h:=Zab (fun l=>psum (fun k=>l.getD k.toNat 0) (fun _=>1) n) (fun l=>l.getD n 0) L
    simp only [psum]
    rw [Zcd L n] at h
    have e:(fun l:List Int=>psum (fun k=>l.getD k.toNat 0) (fun _=>1) n+l.getD (n:Int).toNat 0*1)=fun l=>psum (fun k=>l.getD k.toNat 0) (fun _=>1) n+l.getD n 0:=by
      funext l;rw [Int.toNat_natCast];omega
    rw [e,h]
    unfold mkU
    rw [Int.toNat_natCast];omega
theorem ZeW{p:Prob}{n:Int}{f g:Int->Int}(h:FitsP p n f)(hn:n=p.m)(hg:∀k,0<=k->k<p.m->0<=g k/\g k<=f k):FitsP p p.m g:=by
  refine⟨h.ok,rfl,fun i i0 i1=>by have:=h.all i i0 i1;have:=hg i i0 i1;omega,Int.le_trans (Z4 fun i i0 i1=> ?_) h.used⟩
  have hm:=h.ok.m1
  have h1:=hg i i0 (by omega)
  have h2:=h.ok.all i i0 (by omega)
  unfold Prob.each at h2
  exact Int.mul_le_mul_of_nonneg_right h1.2 (by have:=h.ok.k1;omega)
theorem TrimR.ex {p:Prob} {u:Int} {ln cnt:Int->Int} {pt:Int->Int->Int} {out:Us} (h:TrimR p u ln pt cnt out e) (he:e=0) (u0:0<=u):ExU p out:=by
  rcases h with⟨_,_,h⟩|⟨_,_,_,h⟩|⟨h1,h2,_,N,hN,hO⟩
  · omega
  · omega
  · have hok:=h1.1
    have hm:=hok.m1
    have zX:=fun x hx=>hN.pos (Zes h1) x hx
    have eF:∀x∈N,Zaa p x.1:=fun x hx=>by
      obtain⟨y,hy,ey⟩:=hN.keys x hx
      rw [<-ey];exact(Vn h1 y hy).2
    have eJ:∀a∈Uu N,Zaa p a:=fun a ha=>by
      obtain⟨x,hx,rfl⟩:=Zgu a ha
      exact eF x hx
    have eo:∀j,0<=j->j<p.m->Zr u pt cnt j=((Uu N).map fun a=>a.getD j.toNat 0).sum:=fun j j0 j1=>by
      rw [Zbc _ fun x hx=>by have:=zX x hx;omega,h1.mk u0 j0 j1]
      exact(hN.wsum _).symm
    obtain⟨⟨M',_,hc⟩,zt⟩:=U6 (m:=p.m) (Uu N) (fun j=>Zr u pt cnt j-p.D j) [] (fun a ha=>by
      obtain⟨f,hf,rfl⟩:=eJ a ha
      exact⟨f,fun k k0 k1=>(hf.all k k0 k1).1,rfl⟩) fun k k0 k1=>by have:=h2 k k0 k1;omega
    have hT:∀x∈(V8 (lst p.m fun j=>Zr u pt cnt j-p.D j) (Uu N)).2,1<=x.2/\Zaa p x.1/\(∀k,0<=k->k<p.m->0<=x.1.getD k.toNat 0)/\∃k,0<=k/\k<p.m/\0<x.1.getD k.toNat 0:=fun x hx=>by
      rcases zt x hx with h|⟨f,g,hf,rfl,hg,k,k0,k1,hk⟩
      · cases h
      · obtain⟨f',hf',ef⟩:=eJ _ hf
        have e1:=((Uj (by omega) (by omega)).1 ef).2
        refine⟨Int.le_refl _,⟨g,ZeW hf' rfl fun k k0 k1=>by have:=hg k k0 k1;rw [<-e1 k k0 k1];exact this,rfl⟩,fun k k0 k1=> ?_,k,k0,k1,?_⟩
        · dsimp only;rw [XI k0 k1];exact(hg k k0 k1).1
        · dsimp only;rw [XI k0 k1];exact hk
    have hmk:∀j,0<=j->j<p.m->mkU j (V8 (lst p.m fun j=>Zr u pt cnt j-p.D j) (Uu N)).2=p.D j:=fun j j0 j1=>by
      obtain⟨g1,g2⟩:=hc j j0 j1
      rw [<-eo j j0 j1] at g1 g2
      have g3:mkU j ([]:Us)=0:=rfl
      have hd:=(TB hok j0 j1).1
      unfold V8
      have:=h2 j j0 j1
      omega
    refine⟨fun x hx=>⟨hO.pos (fun y hy=>(hT y hy).1) x hx,?_⟩,?_,fun j j0 j1=> ?_⟩
    · obtain⟨y,hy,ey⟩:=hO.keys x hx
      rw [<-ey];exact(hT y hy).2.1
    · rw [hO.wsum]
      refine Int.le_trans (Zce (g:=fun l=>psum (fun k=>l.getD k.toNat 0) (fun _=>1) p.m.toNat) (fun x hx=>by have:=(hT x hx).1;omega) fun x hx=> ?_) ?_
      · obtain⟨_,_,h3,k,k0,k1,hk⟩:=hT x hx
        have h4:=W0 (d:=fun _=>1) (f:=fun k=>x.1.getD k.toNat 0) (i:=(k+1).toNat) (n:=p.m.toNat) (by omega) fun q hq=>by have:=h3 q (by omega) (by omega);omega
        rw [YG _ _ k0] at h4
        have h5:=W0 (d:=fun _=>1) (f:=fun k=>x.1.getD k.toNat 0) (i:=0) (n:=k.toNat) (by omega) fun q hq=>by have:=h3 q (by omega) (by omega);omega
        have h6:psum (fun k=>x.1.getD k.toNat 0) (fun _=>1) 0=0:=rfl
        omega
      · rw [Zcd,<-Rf]
        refine Int.le_of_eq (Vm fun k hk=>⟨hmk k (by omega) (by omega),rfl⟩)
    · unfold mkU;rw [hO.wsum];exact hmk j j0 j1
theorem Kn(pt:Int->Int->Int)(cnt:Int->Int)(j:Int):∀n:Nat,Xr pt cnt n j=psum (fun k=>pt k j) cnt n
  |0=>rfl
  | n+1=>by
    have:=ZJ (fun i=>pt i j*cnt i) (i:=(n:Int)) (by omega)
    rw [show((n:Int)+1).toNat=n+1 by omega,Int.toNat_natCast] at this
    unfold Xr
    rw [this]
    have h:=Kn pt cnt j n
    unfold Xr at h
    rw [h];rfl
theorem ExU.sound{p:Prob}{n:Int}{ln cnt:Int->Int}{pt:Int->Int->Int}(h:ExU p (plL n ln pt cnt))(hok:p.Ok)(ht:psum (fun _=>1) p.D p.m.toNat<=1000)(n0:0<=n):SoundP p n ln pt cnt/\∀j,0<=j->j<p.m->Xr pt cnt n.toNat j=p.D j:=by
  obtain⟨h1,h2⟩:=ZbQ (L:=plL n ln pt cnt) fun x hx=>(h.pat x hx).1
  have h3:=h.few
  rw [plL_len] at h1
  have hP:PlanOk p n ln pt cnt:=VH hok (by omega) fun x hx=>⟨⟨(h.pat x hx).1,by have:=h2 x hx;omega⟩,(h.pat x hx).2⟩
  refine⟨⟨hok,by omega,fun i i0 i1=> ?_⟩,fun j j0 j1=> ?_⟩
  · obtain⟨g1,g2,g3⟩:=hP.2.2 i i0 i1
    exact⟨g3,g1,g2⟩
  · rw [Kn]
    have:=hP.mk n0 j0 j1
    unfold Zr at this
    rw [this];exact h.mks j j0 j1
theorem DownR.ex{p:Prob}{u:Int}{ml:Int->Int}{mf:Int->Int->Int}{s:So}{out:Us}{e:Int}(h:DownR p u ml mf s out e)(he:e=0):ExU p out:=by
  rcases h with⟨h,_⟩|⟨n1,ln1,pt1,yZ,n2,ln2,pt2,qh,hw,n10,n20,hN,hT⟩
  · exact absurd he h
  · exact hT.ex he (by omega)
theorem UpR.ex{p:Prob}{u:Int}{ml:Int->Int}{mf:Int->Int->Int}{s:So}{out:Us}{e:Int}(h:UpR p u ml mf s out e)(he:e=0):ExU p out:=by
  rcases h with⟨h,_⟩|⟨n1,ln1,pt1,yZ,t,n,ln,pt,cnt,hw,n10,n0,hp,_,hU,hT⟩
  · exact absurd he h
  · exact hT.ex he n0
end Go.Proofs.YtkichmnjjblodaaGreat
namespace Go.Proofs.YtkichmnjjblodaaGreat
open Go Go.RowKit Go.Proofs.Gw
variable {ml:Int->Int} {mf:Int->Int->Int}
theorem Za6:Zc Tryz.prog 54=true:=by kernel_rfl
theorem Zmz:Zc Tryz.prog 85=true:=by kernel_rfl
theorem ZiI:Zc Tryz.prog 86=true:=by kernel_rfl
theorem ZjL:ZW Tryz.prog 144=some (.nilFunc,1,8):=by kernel_rfl
theorem Zjb:ZN Tryz.prog 144=true:=by kernel_rfl
theorem Zbx:ZK Tryz.prog 145=some (144,1):=by kernel_rfl
def VI(b x:Us)(e:Int):Us:=if e=0/\wsum (fun _=>1) x<wsum (fun _=>1) b then x else b
def ZgB(i:Int)(p:Prob)(u:Int)(ml:Int->Int)(mf:Int->Int->Int)(s:So)(out:Us)(e:Int):Prop:=if i=0 then DownR p u ml mf s out e else UpR p u ml mf s out e
def BRun(p:Prob)(u:Int)(ml:Int->Int)(mf:Int->Int->Int)(s:So)(l:Us)(i:Int)(cur:Us):Prop:=
  (i=0/\cur=l)\/(i=1/\∃x e,DownR p u ml mf s x e/\cur=VI l x e)\/(i=2/\∃x e y f,DownR p u ml mf s x e/\UpR p u ml mf s y f/\cur=VI (VI l x e) y f)
theorem BRun.next{p:Prob}{u:Int}{s:So}{l cur x:Us}{i e:Int}(h:BRun p u ml mf s l i cur)(i2:i<2)(hx:ZgB i p u ml mf s x e):BRun p u ml mf s l (i+1) (VI cur x e):=by
  unfold ZgB at hx
  rcases h with⟨rfl,rfl⟩|⟨rfl,y,f,h1,rfl⟩|⟨h,_⟩
  · exact .inr (.inl ⟨rfl,x,e,by simpa using hx,rfl⟩)
  · exact .inr (.inr ⟨rfl,y,f,x,e,h1,by simpa using hx,rfl⟩)
  · omega
def BestR(p:Prob)(out:Us)(e:Int):Prop:=
  (e≠0/\FFitR p [] e/\out= [])\/(e=0/\∃l,FFitR p l 0/\∃u ml mf s ec,0<=u/\ColR p u ml mf s ec/\((ec≠0/\out=l)\/(ec=0/\BRun p u ml mf s l 2 out)))
theorem ColR.n60{p:Prob}{u:Int}{s:So}{e:Int}(h:ColR p u ml mf s e)(he:e=0)(u0:0<=u):u<=60/\s.n<=60:=by
  have hk:=(h.okS u0 he).1.n
  rcases h with⟨_,_,_,h⟩|⟨_,h,_⟩|⟨_,_,_,h1,_⟩
  · omega
  · exact absurd he h
  · have:=h1.few.2.1;omega
theorem ZjU(i:Int):Zc Tryz.prog (if i=0 then 87 else 88)=true:=by split<;>kernel_rfl
theorem Zm5(i:Int){vL vD:Value}{p:Prob}{vM:Value}{u:Int}{mv:Int->Value}{vX vY:Value}{s:So}(w0:World)(h:PAt w0 vL vD p)(hM:MAt w0 vM u mv ml mf)(hX:Row w0 vX 1 s.n (ints s.X))(hY:Row w0 vY 1 s.m (ints s.Y))(yd:s.n<=1000):
    Calls Tryz.prog (if i=0 then 87 else 88) [.agg #[vL,vD,.int .i64 p.stock,.int .i64 p.kerf],.agg #[vM,vX,vY,.int .i64 s.val,.int .i64 s.den]].toArray w0 fun e w=>∃v,e= .returned v/\∃r n pv ln pt cnt e,v= .tuple #[r,.int .i64 e]/\ZgB i p u ml mf s (plL n ln pt cnt) e/\(∀k,0<=k->k<n->1<=cnt k/\cnt k<=1000000000)/\n<=1000000/\Slh r n/\Sat w0 w [.own r 2 107 n (Zg pv cnt),.sem (Frame.rows 3 n pv ln pt)]:=by
  by_cases hi:i=0
  · rw [if_pos hi]
    refine(ZlJ w0 h hM hX hY yd).mono fun e w he=> ?_
    unfold ZgB;simp only [if_pos hi];exact he
  · rw [if_neg hi]
    refine(ZnH w0 h hM hX hY yd).mono fun e w he=> ?_
    unfold ZgB;simp only [if_neg hi];exact he
theorem Zgs{vL vD:Value}{p:Prob}(w0:World)(h:PAt w0 vL vD p):
    Calls Tryz.prog 57 [.agg #[vL,vD,.int .i64 p.stock,.int .i64 p.kerf]].toArray w0 fun e w=>∃v,e= .returned v/\∃r n pv ln pt cnt e,v= .tuple #[r,.int .i64 e]/\BestR p (plL n ln pt cnt) e/\(∀k,0<=k->k<n->1<=cnt k/\cnt k<=1000000000)/\n<=1000000/\Slh r n/\Sat w0 w [.own r 2 107 n (Zg pv cnt),.sem (Frame.rows 3 n pv ln pt)]:=by
  have hm:=h.L.slh.n0;have hm1:=h.L.slh.n1;have hd:=h.D.slh.n0;have hd1:=h.D.slh.n1;have hs:=h.is;have hk:=h.ik
  refine zenG Tryz.func57 Tryz.ntmps57 fun w hS=> ?_
  refine zsr<|zla (xbx (cs:= [_,_,_,_]) hS) ?_;rintro _ w ⟨g1,rfl,hS⟩
  refine(zP)<|(zP)<|zlz<|(zV (xls 0 st_32 hS))<|zlc (xc0 Zmz) (ZlH (p:=p) w (h.below hS.below)) ?_;rintro _ w ⟨dc,av,dw,bF,bU,bW,bV,rfl,yW,aX,fD,aE,hS'⟩
  replace hS:=(hS.comp hS').n3;clear hS'
  have fk:=fun k (k0:0<=k) (k1:k<av)=>hS.slhIn 2 rfl k0 k1
  refine zs5 ?_
  refine zx5<|(zP)<|(zP)<|zlt<|Zf ?_ ?_<;>intro hc
  ·
   refine zsr<|(zP)<|(zP)<|(zP)<|zx14<|zf2 ⟨_,rfl,?_⟩
   exact⟨_,0,fun _=>undef,fun _=>0,fun _ _=>0,fun _=>0,_,rfl,.inl ⟨by omega,(by rw [<-yW.2.2 (by omega)];exact yW),rfl⟩,fun k k0 k1=>by omega,by omega,slh_nil,((hS.sub (.cons _ (.cons _ (.cons _ .slnil)))).addnil 2 107 (Zg (fun _=>undef) (fun _=>0))).addrows 3 (fun _=>undef) (fun _=>0) (fun _ _=>0)⟩
  refine ZR<|(zV (xls 0 st_32 hS))<|zlc (xc0 ZiI) (Zbb (p:=p) w (h.below hS.below)) ?_;rintro _ w ⟨zE,zA,al,zC,y3,y4,y5,xS,c4,rfl,x3,xm,zj,xV,hS'⟩
  replace hS:=(hS.comp hS').n7;clear hS'
  have cz:=fun k (k0:0<=k) (k1:k<y3)=>hS.slhIn 4 rfl k0 k1
  refine(zP)<|(zP)<|(zP)<|zla (xal (cs:= [_,_,_,_,_]) ZbN hS) ?_;rintro _ w ⟨g2,rfl,hS⟩
  refine zle (xsw 7 Xe hS (hd:=(Za xm.one (Za zj.one (Za xV.one (Za rfl (Za rfl Zi))))))) ?_;clear hS;rintro w hS
  refine(zP)<|zx5<|(zP)<|(zP)<|zlt<|Zf ?_ ?_<;>intro hc
  ·
   refine zsr<|(zP)<|(zP)<|(zP)<|zx14<|zf2 ⟨_,rfl,?_⟩
   exact⟨_,_,_,_,_,_,0,rfl,.inr ⟨rfl,_,(by rw [show(0:Int)=bV by omega];exact yW),_,_,_,_,_,xm.n0,x3,.inl ⟨by omega,rfl⟩⟩,fun k k0 k1=>by have:=aX k k0 k1;omega,by omega,aE,hS.pk [1,2]⟩
  refine YK<|zla (xli (n:=2) (len:=2) (pv:= [(0,.func (.func 87) #[] #[]),(1,.func (.func 88) #[] #[])]) (cs:= [.func (.func 87) #[] #[],.func (.func 88) #[] #[]]) (c:=(fun k=>Value.func (.func (if k=0 then 87 else 88)) #[] #[])) Zbx ZjL hS) ?_;rintro v1 w ⟨hS,hv1⟩
  refine(zV (xln Zbx hv1))<|(zP)<|zx6<|zlp (fun mm M w=>∃(nC:Int) (wv:Int->Value) (lC:Int->Int) (gC:Int->Int->Int) (cC:Int->Int) (i:Int) (wC:Value),mm=((2-i).toNat)/\(0<=i)/\(i<=2)/\(∀k,0<=k->k<nC->1<=cC k/\cC k<=1000000000)/\(nC<=1000000)/\(BRun p y3 y4 y5 xS (plL av bF bU bW) i (plL nC lC gC cC))/\(Slh wC nC)/\M= [(1,.pointer (some ⟨g1,0,none⟩)),(2,.slice none 0 0),(3,.int .i64 0),(4,wC),(6,.pointer (some ⟨g2,0,none⟩)),(27,v1),(28,.int .i64 2),(29,.int .i64 i)]/\Sat w0 w [.blk g1 [vL,vD,.int .i64 p.stock,.int .i64 p.kerf],.own wC 2 107 nC (Zg wv cC),.sem (Frame.rows 3 nC wv lC gC),.own zE 1 22 y3 zA,.sem (Frame.rows 3 y3 zA y4 y5),.own al 1 3 xS.n (ints xS.X),.own zC 1 3 xS.m (ints xS.Y),.blk g2 [zE,al,zC,.int .i64 xS.val,.int .i64 xS.den],.own v1 1 144 2 (fun k=>Value.func (.func (if k=0 then 87 else 88)) #[] #[])]) ⟨av,dw,bF,bU,bW,0,dc,rfl,(by omega),(by omega),?_,(by omega),?_,?_,rfl,hS⟩ ?_
  ·
   intro k k0 k1;have:=aX k k0 k1;omega
  ·
   exact .inl ⟨rfl,rfl⟩
  ·
   exact aE
  clear hS w
  rintro mm M w ⟨nC,wv,lC,gC,cC,i,wC,rfl,i0,i1,hcB,hnB,hBR,hwC,rfl,hS⟩
  have qV:=fun k (k0:0<=k) (k1:k<nC)=>hS.slhIn 2 rfl k0 k1
  obtain⟨fc,gH⟩:=x3.n60 (by omega) xm.n0
  refine zsr<|(zP)<|zx7<|Zf ?_ ?_<;>intro hc
  ·
   refine zx3<|(zV (xix (kk:=i) Zbx hv1))<|(zV (xlr (u:= .func (.func (if i=0 then 87 else 88)) #[] #[]) Zjb (hS.rowN 8 rfl)))<|(zP)<|zlz<|(zP)<|(zV (xls 0 st_32 hS))<|(zV (xls 7 Xe hS))<|zlc (xc0 (ZjU i)) (Zm5 i (p:=p) (u:=y3) (ml:=y4) (mf:=y5) (s:=xS) w (h.below hS.below) (⟨(hS.rowN 3 rfl),fun k k0 k1=>hS.rowIn 4 rfl k0 k1,fun k k0 k1=>hS.roomIn 4 rfl k0 k1⟩:MAt _ zE y3 zA y4 y5) (hS.rowN 5 rfl) (hS.rowN 6 rfl) (by omega)) ?_;rintro _ w ⟨bz,zH,ar,ax,bj,bl,jj,rfl,zq,zb,gS,yK,hS'⟩
   replace hS:=(hS.comp hS').n11;clear hS'
   have fi:=fun k (k0:0<=k) (k1:k<zH)=>hS.slhIn 10 rfl k0 k1
   refine zs5 ?_
   refine zlz<|(zP)<|(zP)<|(zP)<|zlb 42 ?_ ?_<;>intro hc
   ·
    refine(zP)<|zlc (xc0 Za6) (V0 (u:=zH) (pv:=ar) (ln:=ax) (pt:=bj) (cnt:=bl) w (⟨(hS.rowN 9 rfl),fun k k0 k1=>hS.rowIn 10 rfl k0 k1,fun k k0 k1=>hS.roomIn 10 rfl k0 k1⟩:VAt _ bz zH ar ax bj bl) (by omega) (fun k k0 k1=>by first|(have h8:=hcB k k0 k1;omega)|(have h8:=zb k k0 k1;omega))) ?_;rintro _ w ⟨rfl,hS'⟩
    replace hS:=hS.cmp hS';clear hS'
    refine(zP)<|zlc (xc0 Za6) (V0 (u:=nC) (pv:=wv) (ln:=lC) (pt:=gC) (cnt:=cC) w (⟨(hS.rowN 1 rfl),fun k k0 k1=>hS.rowIn 2 rfl k0 k1,fun k k0 k1=>hS.roomIn 2 rfl k0 k1⟩:VAt _ wC nC wv lC gC cC) (by omega) (fun k k0 k1=>by first|(have h8:=hcB k k0 k1;omega)|(have h8:=zb k k0 k1;omega))) ?_;rintro _ w ⟨rfl,hS'⟩
    replace hS:=hS.cmp hS';clear hS'
    refine(zP)<|(zP)<|zlt<|Zf ?_ ?_<;>intro hc
    ·
     refine zrg<|(zP)<|(zP)<|zx10<|(zV (Zh (r:=i+1)))<|(zP)<|zln<|zlq ⟨zH,ar,ax,bj,bl,i+1,bz,rfl,(by omega),(by omega),?_,(by omega),?_,?_,rfl,hS.pk [0,9,10,3,4,5,6,7,8]⟩
     ·
      first|exact hcB|exact zb
     ·
      have hnx:=hBR.next (by omega) zq
      unfold VI at hnx
      rw [Z9 _ yK.n0,Z9 _ hwC.n0] at hnx
      first|(rw [if_pos ⟨by omega,by assumption⟩] at hnx;exact hnx)|(rw [if_neg (by first|(intro hh;exact absurd hh.1 (by omega))|(intro hh;exact absurd hh.2 (by assumption))|(rintro⟨q1,q2⟩;omega))] at hnx;exact hnx)
     ·
      exact yK
    refine zx4<|(zV (Zh (r:=i+1)))<|(zP)<|zln<|zlq ⟨nC,wv,lC,gC,cC,i+1,wC,rfl,(by omega),(by omega),?_,(by omega),?_,?_,rfl,hS.pk [0,1,2,3,4,5,6,7,8]⟩
    ·
     first|exact hcB|exact zb
    ·
     have hnx:=hBR.next (by omega) zq
     unfold VI at hnx
     rw [Z9 _ yK.n0,Z9 _ hwC.n0] at hnx
     first|(rw [if_pos ⟨by omega,by assumption⟩] at hnx;exact hnx)|(rw [if_neg (by first|(intro hh;exact absurd hh.1 (by omega))|(intro hh;exact absurd hh.2 (by assumption))|(rintro⟨q1,q2⟩;omega))] at hnx;exact hnx)
    ·
     exact hwC
   iterate 5 refine zlo ?_
   refine(zP)<|zlt<|zcf<|zsk<|zbn<|ztn<|zrg ?_
   refine(zV (Zh (r:=i+1)))<|(zP)<|zln<|zlq ⟨nC,wv,lC,gC,cC,i+1,wC,rfl,(by omega),(by omega),?_,(by omega),?_,?_,rfl,hS.pk [0,1,2,3,4,5,6,7,8]⟩
   ·
    first|exact hcB|exact zb
   ·
    have hnx:=hBR.next (by omega) zq
    unfold VI at hnx
    rw [Z9 _ yK.n0,Z9 _ hwC.n0] at hnx
    first|(rw [if_pos ⟨by omega,by assumption⟩] at hnx;exact hnx)|(rw [if_neg (by first|(intro hh;exact absurd hh.1 (by omega))|(intro hh;exact absurd hh.2 (by assumption))|(rintro⟨q1,q2⟩;omega))] at hnx;exact hnx)
   ·
    exact hwC
  refine zx8<|(zP)<|(zP)<|(zP)<|zx1<|zf2 ⟨_,rfl,?_⟩
  exact⟨_,_,_,_,_,_,0,rfl,.inr ⟨rfl,_,(by rw [show(0:Int)=bV by omega];exact yW),_,_,_,_,_,xm.n0,x3,.inr ⟨by omega,by rw [show(2:Int)=i by omega];exact hBR⟩⟩,hcB,by omega,hwC,hS.pk [1,2]⟩
end Go.Proofs.YtkichmnjjblodaaGreat
namespace Go.Proofs.YtkichmnjjblodaaGreat
open Go Go.RowKit Go.Proofs.Gw
theorem Zax{p:Prob}{b x:Us}{e:Int}(hb:ExU p b)(hx:e=0->ExU p x):ExU p (VI b x e):=by
  unfold VI
  by_cases h:e=0/\wsum (fun _=>1) x<wsum (fun _=>1) b
  · rw [if_pos h];exact hx h.1
  · rw [if_neg h];exact hb
end Go.Proofs.YtkichmnjjblodaaGreat
namespace Go.Proofs.YtkichmnjjblodaaGreat
open Go Go.RowKit Go.Proofs.Gw
variable {y:Int->Int} {vD vy:Value}
theorem Zk9:Zc Tryz.prog 116=true:=by kernel_rfl
theorem Zk8:Zc Tryz.prog 117=true:=by kernel_rfl
theorem Zk7:Zc Tryz.prog 118=true:=by kernel_rfl
theorem Zk6:Zc Tryz.prog 119=true:=by kernel_rfl
theorem ZkQ:Zc Tryz.prog 153=true:=by kernel_rfl
theorem ZmB:Zc Tryz.prog 79=true:=by kernel_rfl
theorem ZmA:Zc Tryz.prog 80=true:=by kernel_rfl
theorem fd_100_0:Zq Tryz.prog 100 0=some 0:=by kernel_rfl
theorem fd_100_1:Zq Tryz.prog 100 1=some 1:=by kernel_rfl
theorem fd_98_0:Zq Tryz.prog 98 0=some 0:=by kernel_rfl
theorem fd_98_1:Zq Tryz.prog 98 1=some 1:=by kernel_rfl
theorem st_100:Zz Tryz.prog 100=some 2:=by kernel_rfl
theorem st_98:Zz Tryz.prog 98=some 2:=by kernel_rfl
def out(n:Int):Prop:=n<0\/1073741824<n
theorem Znd(n:Int)(w0:World):
    Calls Tryz.prog 153 [.int .i64 n].toArray w0 fun e w=>∃v,e= .returned v/\v=B (out n)/\Sat w0 w []:=by
  refine zenG Tryz.func153 Tryz.ntmps153 fun w hS=> ?_
  refine zsr<|(zP)<|zlz<|(zP)<|(zP)<|(zP)<|zlb 5 ?_ ?_<;>intro hc
  ·
   refine(zO)<|(zO)<|(zP)<|(zP)<|zx1<|zf1 ⟨_,rfl,?_⟩
   exact⟨ZX (by unfold out;omega),hS⟩
  refine zs4 ?_
  refine zx1<|zf1 ⟨_,rfl,?_⟩
  exact⟨Zm (by unfold out;omega),hS⟩
theorem Zh9{s:Value}{n:Int}{f:Int->Int}(w0:World)(h:Row w0 s 1 n (ints f)):
    Calls Tryz.prog 159 [s,.func (.func 153) #[] #[]].toArray w0 fun e w=>∃v,e= .returned v/\∃r:Int,v= .int .i64 r/\((r= -1/\∀k,0<=k->k<n->¬out (f k))\/(0<=r/\r<n/\out (f r)))/\Sat w0 w []:=by
  have hn:=h.slh.n0;have hn1:=h.slh.n1
  refine zenG Tryz.func159 Tryz.ntmps159 fun w hS=> ?_
  refine zsr<|(zP)<|zx5<|(zP)<|(zV (xln Zb h.slh))<|(zP)<|zx6<|zlp (fun mm M w=>∃(i:Int),mm=((n-i).toNat)/\(0<=i)/\(i<=n)/\(∀k,0<=k->k<i->¬out (f k))/\M= [(0,s),(1,.func (.func 153) #[] #[]),(7,.int .i64 n),(8,.int .i64 i)]/\Sat w0 w []) ⟨0,rfl,(by omega),(by omega),?_,rfl,hS⟩ ?_
  ·
   intro k h0 h1;omega
  clear hS w
  rintro mm M w ⟨i,rfl,h0,h1,qa,rfl,hS⟩
  refine zsr<|(zP)<|zx7<|Zf ?_ ?_<;>intro hc
  ·
   refine zx3<|(zP)<|(zP)<|zlz<|(zP)<|(zP)<|(zP)<|(zV (xix (kk:=i) Zb h.slh))<|(zV (xlr (u:= .int .i64 (f i)) pl_3 (h.below hS.below)))<|zlc (xc0 ZkQ) (Znd (f i) w) ?_;rintro _ w ⟨rfl,hS'⟩
   replace hS:=hS.cmp hS';clear hS'
   refine zlt<|Zf ?_ ?_<;>intro hc
   ·
    refine zsr<|(zP)<|(zP)<|zx2<|zf1 ⟨_,rfl,?_⟩
    exact⟨i,rfl,.inr ⟨by omega,by omega,‹out _›⟩,hS⟩
   refine zx4<|(zV (Zh (r:=i+1)))<|(zP)<|zln<|zlq ⟨i+1,rfl,(by omega),(by omega),?_,rfl,hS⟩
   ·
    intro k h0' h1';rcases Int.lt_or_eq_of_le (show k<=i by omega) with hk|hk;exact qa k h0' hk;rw [hk];assumption
  refine zx8<|(zP)<|zx1<|zf1 ⟨_,rfl,?_⟩
  exact⟨-1,rfl,.inl ⟨rfl,fun k h0 h1=>qa k h0 (by omega)⟩,hS⟩
theorem Zih{s:Value}{n:Int}{f:Int->Int}(w0:World)(h:Row w0 s 1 n (ints f)):
    Calls Tryz.prog 151 [s,.func (.func 153) #[] #[]].toArray w0 fun e w=>∃v,e= .returned v/\v=B (∃k,0<=k/\k<n/\out (f k))/\Sat w0 w []:=by
  refine zenG Tryz.func151 Tryz.ntmps151 fun w hS=> ?_
  refine zsr<|(zP)<|zlz<|(zP)<|(zP)<|zlc (xc0 WO) (Zh9 w (h.below hS.below)) ?_;rintro _ w ⟨r1,rfl,hr1,hS'⟩
  replace hS:=hS.cmp hS';clear hS'
  refine(zP)<|(zP)<|zx1<|zf1 ⟨_,rfl,?_⟩
  exact⟨Zm (by
   rcases hr1 with⟨h1,h2⟩|⟨h1,h2,h3⟩
   · exact⟨fun h=>by omega,fun⟨k,h4,h5,h6⟩=>absurd h6 (h2 k h4 h5)⟩
   · exact⟨fun _=>⟨_,h1,h2,h3⟩,fun _=>h1⟩),hS⟩
theorem Zgm{n q:Int}(w0:World)(h:Row w0 vy 1 n (ints y))(hq: -9223372036854775808<=q/\q<=9223372036854775807):
    Calls Tryz.prog 116 [.agg #[vy,.int .i64 q]].toArray w0 fun e w=>∃v,e= .returned v/\v=B (Formed n y q)/\Sat w0 w []:=by
  refine zenG Tryz.func116 Tryz.ntmps116 fun w hS=> ?_
  refine zsr<|zla (xbx (cs:= [_,_]) hS) ?_;rintro _ w ⟨g1,rfl,hS⟩
  refine(zP)<|zlz<|(zV (xfb 1 fd_98_1))<|(zV (xlb 0 pl_3 hS))<|(zP)<|(zP)<|zlb 6 ?_ ?_<;>intro hc
  ·
   refine(zV (xfb 1 fd_98_1))<|(zV (xlb 0 pl_3 hS))<|(zP)<|(zP)<|(zP)<|zlb 11 ?_ ?_<;>intro hc
   ·
    refine(zV (xfb 0 fd_98_0))<|(zV (xlb 0 pl_22 hS))<|zlc (xc0 WP) (Zih w (h.below hS.below)) ?_;rintro _ w ⟨rfl,hS'⟩
    replace hS:=hS.cmp hS';clear hS'
    refine(zP)<|(zP)<|(zP)<|zx1<|zf1 ⟨_,rfl,?_⟩
    exact⟨Zm (by constructor;intro h4;exact⟨by omega,by omega,fun k h1 h2=>by have:¬out (y k):=fun h5=>h4 ⟨k,h1,h2,h5⟩;unfold out at this;omega⟩;rintro⟨h1,h2,h3⟩ ⟨k,h4,h5,h6⟩;have:=h3 k h4 h5;unfold out at h6;omega),hS.nl⟩
   iterate 4 refine zlo ?_
   refine(zP)<|(zP)<|zx1<|zf1 ⟨_,rfl,?_⟩
   exact⟨Ze (by intro h;obtain⟨h1,h2,h3⟩:=h;omega),hS.nl⟩
  iterate 3 refine zlo ?_
  refine zs2 ?_
  iterate 4 refine zlo ?_
  refine(zP)<|(zP)<|zx1<|zf1 ⟨_,rfl,?_⟩
  exact⟨Ze (by intro h;obtain⟨h1,h2,h3⟩:=h;omega),hS.nl⟩
theorem ZdP{n q:Int}(w0:World)(h:Row w0 vy 1 n (ints y))(hq: -9223372036854775808<=q/\q<=9223372036854775807):
    Calls Tryz.prog 118 [.agg #[vy,.int .i64 q]].toArray w0 fun e w=>∃v,e= .returned v/\v=B (Formed n y q)/\Sat w0 w []:=by
  have hn:=h.slh.n0;have hn1:=h.slh.n1
  refine zenG Tryz.func118 Tryz.ntmps118 fun w hS=> ?_
  refine zsr<|zla (xbx (cs:= [_,_]) hS) ?_;rintro _ w ⟨g1,rfl,hS⟩
  refine(zP)<|zx5<|(zP)<|zx6<|zlp (fun mm M w=>∃(i:Int),mm=((n-i).toNat)/\(0<=i)/\(i<=n)/\(∀k,0<=k->k<i->0<=y k/\y k<=1073741824)/\M= [(1,.pointer (some ⟨g1,0,none⟩)),(3,.int .i64 i)]/\Sat w0 w [.blk g1 [vy,.int .i64 q]]) ⟨0,rfl,(by omega),(by omega),?_,rfl,hS⟩ ?_
  ·
   intro k h0 h1;omega
  clear hS w
  rintro mm M w ⟨i,rfl,h0,h1,qa,rfl,hS⟩
  refine zx11<|(zP)<|(zV (xfb 0 fd_100_0))<|(zV (xlb 0 pl_22 hS))<|(zV (xln Zb h.slh))<|(zP)<|zlt<|Zf ?_ ?_<;>intro hc
  ·
   refine zx3<|(zV (xfb 0 fd_100_0))<|(zV (xlb 0 pl_22 hS))<|(zP)<|(zV (xix (kk:=i) Zb h.slh))<|(zV (xlr (u:= .int .i64 (y i)) pl_3 (h.below hS.below)))<|(zP)<|(zP)<|zlb 17 ?_ ?_<;>intro hc
   ·
    iterate 6 refine zlo ?_
    refine(zP)<|zlt<|zct<|zsr ?_
    refine(zP)<|zx2<|zf1 ⟨_,rfl,?_⟩
    exact⟨Ze (by rintro⟨h1,h2,h3⟩;first|omega|(have h4:=h3 i (by omega) (by omega);omega)),hS.nl⟩
   refine(zV (xfb 0 fd_100_0))<|(zV (xlb 0 pl_22 hS))<|(zP)<|(zV (xix (kk:=i) Zb h.slh))<|(zV (xlr (u:= .int .i64 (y i)) pl_3 (h.below hS.below)))<|(zP)<|(zP)<|zlt<|Zf ?_ ?_<;>intro hc
   ·
    refine zsr<|(zP)<|zx2<|zf1 ⟨_,rfl,?_⟩
    exact⟨Ze (by rintro⟨h1,h2,h3⟩;first|omega|(have h4:=h3 i (by omega) (by omega);omega)),hS.nl⟩
   refine zx4<|(zP)<|(zV (Zh (r:=i+1)))<|(zP)<|zln<|zlq ⟨i+1,rfl,(by omega),(by omega),?_,rfl,hS⟩
   ·
    intro k h0' h1';rcases Int.lt_or_eq_of_le (show k<=i by omega) with hk|hk;exact qa k h0' hk;rw [hk];omega
  refine zx8<|(zV (xfb 1 fd_100_1))<|(zV (xlb 0 pl_3 hS))<|(zP)<|(zP)<|zlb 28 ?_ ?_<;>intro hc
  ·
   refine(zV (xfb 1 fd_100_1))<|(zV (xlb 0 pl_3 hS))<|(zP)<|(zP)<|(zP)<|zx1<|zf1 ⟨_,rfl,?_⟩
   exact⟨Zm (by constructor;exact fun h4=>⟨by omega,by omega,fun k h5 h6=>qa k h5 (by omega)⟩;rintro⟨h4,h5,h6⟩;omega),hS.nl⟩
  iterate 3 refine zlo ?_
  refine(zP)<|(zP)<|zx1<|zf1 ⟨_,rfl,?_⟩
  exact⟨Ze (by rintro⟨h1,h2,h3⟩;first|omega|(have h4:=h3 i (by omega) (by omega);omega)),hS.nl⟩
theorem ZdW{vL:Value}{p:Prob}{n:Int}(w0:World)(h:PAt w0 vL vD p)(hp:p.Ok)(hY:Row w0 vy 1 n (ints y))(hn:n=p.m)(hy:Ww p y):
    Calls Tryz.prog 117 [.agg #[vL,vD,.int .i64 p.stock,.int .i64 p.kerf],vy].toArray w0 fun e w=>∃v,e= .returned v/\v= .int .i64 (WR p y)/\Sat w0 w []:=by
  subst hn;have hm:=hp.m1;have hm2:=hp.m2;have hd:=hp.d;have hs1:=hp.s1;have hs2:=hp.s2;have hk1:=hp.k1;have hk2:=hp.k2
  refine zenG Tryz.func117 Tryz.ntmps117 fun w hS=> ?_
  refine zsr<|zla (xbx (cs:= [_,_,_,_]) hS) ?_;rintro _ w ⟨g1,rfl,hS⟩
  refine(zP)<|zlz<|(zV (xfb 2 fd_32_2))<|(zV (xlb 0 pl_3 hS))<|(zV (xfb 3 fd_32_3))<|(zV (xlb 0 pl_3 hS))<|(zV (Zh (r:=p.stock+p.kerf)))<|(zV (Zh (r:=p.stock+p.kerf+1)))<|zla (xmk Zb Zu hS) ?_;rintro v1 w ⟨hS,hv1⟩
  refine(zP)<|zx5<|(zV (xfb 0 fd_32_0))<|(zV (xlb 0 pl_22 hS))<|(zV (xln Zb h.L.slh))<|(zP)<|zx6<|zlp (fun mm M w=>∃(i:Int) (f:Int->Int),mm=((p.m-i).toNat)/\(0<=i)/\(i<=p.m)/\(∀j,0<=j->j<=p.stock+p.kerf->f j=Tab p y i.toNat j)/\M= [(1,vy),(2,.pointer (some ⟨g1,0,none⟩)),(4,.int .i64 0),(5,v1),(18,vL),(19,.int .i64 p.m),(20,.int .i64 i)]/\Sat w0 w [.blk g1 [vL,vD,.int .i64 p.stock,.int .i64 p.kerf],.own v1 1 3 (p.stock+p.kerf+1) (ints f)]) ⟨0,(fun _=>0),rfl,(by omega),(by omega),?_,rfl,hS⟩ ?_
  ·
   intro j _ _;rfl
  clear hS w
  rintro mm M w ⟨i,f,rfl,h0,h1,hf,rfl,hS⟩
  refine zsr<|(zP)<|zx7<|Zf ?_ ?_<;>intro hc
  ·
   refine zx3<|zlv xmv ?_
   have he:=hp.all i (by omega) (by omega);unfold Prob.each at he;have hyi:=hy i (by omega) (by omega)
   refine(zV (xix (kk:=i) Zb h.L.slh))<|zlv (xlr (u:= .int .i64 (p.L i)) pl_3 (h.L.below hS.below)) ?_
   have hbv:=h.iL i
   refine(zP)<|(zP)<|zlz<|(zP)<|(zV (xfb 3 fd_32_3))<|(zV (xlb 0 pl_3 hS))<|(zV (Zh (r:=p.L i+p.kerf)))<|(zP)<|zx7<|zdst [0,1] [0,1] 1000 mx_ hS ?_;clear hS;intro w hS
   refine(zDw 0 (xfb 1 fd_32_1))<|(zDl 1 (fun w hS=>(xlb 0 pl_22 hS)))<|(zDw 2 xmv)<|(zDw 3 (xix (kk:=i) Zb h.D.slh))<|zdla 4 (fun w hS=>(xlr (u:= .int .i64 (p.D i)) pl_3 (h.D.below hS.below))) ?_
   have hbv:=h.iD i
   refine(zDw 5 xmv)<|(zDw 6 (xln Zb hv1))<|(zDw 7 (Zp (r:=p.stock+p.kerf)))<|(zDw 8 xmv)<|zDrv 9 (Vv (r:=(Int.tdiv (p.stock+p.kerf) (p.L i+p.kerf))) (hn:=(by omega)) (hr:=(by have hq:=Yu (a:=p.stock+p.kerf) (b:=p.L i+p.kerf) (by omega) (by omega);unfold I64;omega))) ?_
   have hq:=Yu (a:=p.stock+p.kerf) (b:=p.L i+p.kerf) (by omega) (by omega)
   refine(zDw 10 (UK (r:=(min (p.D i) (Int.tdiv (p.stock+p.kerf) (p.L i+p.kerf))))))<|(zDw 11 xmv)<|zdd<|ztn<|zbk<|zlp (fun mm M w=>∃(k:Int) (f2:Int->Int),mm=((min (p.D i) (Int.tdiv (p.stock+p.kerf) (p.L i+p.kerf))-k).toNat)/\(0<=k)/\(k<=min (p.D i) (Int.tdiv (p.stock+p.kerf) (p.L i+p.kerf)))/\(∀j,0<=j->j<=p.stock+p.kerf->f2 j=R (Tab p y i.toNat) (p.L i+p.kerf) (y i) k.toNat j)/\M= [(1,vy),(2,.pointer (some ⟨g1,0,none⟩)),(4,.int .i64 0),(5,v1),(6,.int .i64 i),(8,.int .i64 (p.L i+p.kerf)),(18,vL),(19,.int .i64 p.m),(20,.int .i64 i),(39,.int .i64 (min (p.D i) (Int.tdiv (p.stock+p.kerf) (p.L i+p.kerf)))),(40,.int .i64 k)]/\Sat w0 w [.blk g1 [vL,vD,.int .i64 p.stock,.int .i64 p.kerf],.own v1 1 3 (p.stock+p.kerf+1) (ints f2)]) ⟨0,f,rfl,(by omega),(by omega),?_,rfl,hS⟩ ?_
   ·
    intro j hj0 hj1;rw [hf j hj0 hj1];rfl
   clear hS w
   rintro mm M w ⟨k,f2,rfl,k0,k1,hf2,rfl,hS⟩
   refine zsr<|(zP)<|zx7<|Zf ?_ ?_<;>intro hc
   ·
    refine zx3<|(zP)<|(zV (xln Zb hv1))<|(zV (Zp (r:=p.stock+p.kerf)))<|(zP)<|zx6<|zlp (fun mm M w=>∃(c:Int) (f3:Int->Int),mm=((c-(p.L i+p.kerf)+1).toNat)/\(p.L i+p.kerf-1<=c)/\(c<=p.stock+p.kerf)/\(∀j,c<j->j<=p.stock+p.kerf->f3 j=R (Tab p y i.toNat) (p.L i+p.kerf) (y i) (k.toNat+1) j)/\(∀j,0<=j->j<=c->f3 j=R (Tab p y i.toNat) (p.L i+p.kerf) (y i) k.toNat j)/\M= [(1,vy),(2,.pointer (some ⟨g1,0,none⟩)),(4,.int .i64 0),(5,v1),(6,.int .i64 i),(8,.int .i64 (p.L i+p.kerf)),(9,.int .i64 c),(18,vL),(19,.int .i64 p.m),(20,.int .i64 i),(39,.int .i64 (min (p.D i) (Int.tdiv (p.stock+p.kerf) (p.L i+p.kerf)))),(40,.int .i64 k)]/\Sat w0 w [.blk g1 [vL,vD,.int .i64 p.stock,.int .i64 p.kerf],.own v1 1 3 (p.stock+p.kerf+1) (ints f3)]) ⟨p.stock+p.kerf,f2,rfl,(by omega),(by omega),?_,?_,rfl,hS⟩ ?_
    ·
     intro j hj0 hj1;omega
    ·
     intro j hj0 hj1;exact hf2 j hj0 (by omega)
    clear hS w
    rintro mm M w ⟨c,f3,rfl,c0,c1,ha3,hb3,rfl,hS⟩
    refine zx11<|(zP)<|(zP)<|(zP)<|zlt<|Zf ?_ ?_<;>intro hc
    ·
     refine zx29<|zdst [0,1] [0] 19 mx_ hS ?_;clear hS;intro w hS
     refine(zDw 0 xmv)<|(zDw 1 xmv)<|(zDw 2 xmv)<|(zDw 3 xmv)<|(zDw 4 (xix (kk:=c) Zb hv1))<|zdl 5 (fun w hS=>(xlr (u:= .int .i64 (f3 c)) pl_3 (hS.rowN 1 rfl))) ?_
     refine(zDw 6 xmv)<|(zDw 7 xmv)<|(zDw 8 xmv)<|(zDw 9 (Zp (r:=c-p.L i-p.kerf)))<|(zDw 10 (xix (kk:=c-p.L i-p.kerf) Zb hv1))<|zdl 11 (fun w hS=>(xlr (u:= .int .i64 (f3 (c-p.L i-p.kerf))) pl_3 (hS.rowN 1 rfl))) ?_
     refine(zDw 12 xmv)<|(zDw 13 xmv)<|(zDw 14 (xix (kk:=i) Zb hY.slh))<|(zDl 15 (fun w hS=>(xlr (u:= .int .i64 (y i)) pl_3 (hY.below hS.below))))<|zDrv 16 (Zh (r:=f3 (c-p.L i-p.kerf)+(y i)) (hr:=(by have e:=hb3 (c-p.L i-p.kerf) (by omega) (by omega);have b:=Znp hp hy h0 (by omega) k.toNat (c:=c-p.L i-p.kerf) (by omega);unfold I64;omega))) ?_
     refine(zDw 17 (Zbr (r:=(max (f3 c) (f3 (c-p.L i-p.kerf)+(y i))))))<|(zDw 18 (xix (kk:=c) Zb hv1))<|zde 19 (xso 1 pl_3 hS (Zs _ _ _)) ?_;clear hS;rintro w hS
     refine⟨⟨fun h=>absurd h (by decide),hS.pk [0]⟩,?_⟩
     refine zdd<|zbn<|ztn<|zrg ?_
     refine(zP)<|(zV (Zp (r:=c-1)))<|(zP)<|zln<|zlq ⟨c-1,(upd f3 c (max (f3 c) (f3 (c-p.L i-p.kerf)+(y i)))),rfl,(by omega),(by omega),?_,?_,rfl,hS⟩
     ·
      intro j hj0 hj1;by_cases hj:j=c
      · rw [hj,Zk];exact Ziu hp y h0 (by omega) (by omega) hb3 rfl
      · rw [upd_ne _ _ hj];exact ha3 j (by omega) hj1
     ·
      intro j hj0 hj1;rw [upd_ne _ _ (by omega)];exact hb3 j hj0 (by omega)
    refine zx21<|(zV (Zh (r:=k+1)))<|(zP)<|zln<|zlq ⟨k+1,f3,rfl,(by omega),(by omega),?_,rfl,hS⟩
    ·
     intro j hj0 hj1;have e:(k+1).toNat=k.toNat+1:=by omega
     rw [e];by_cases hj:c<j
     · exact ha3 j hj hj1
     · rw [hb3 j hj0 (by omega)];exact Znq hp y h0 (by omega) _ hj0 (by omega)
   refine zx21<|(zV (Zh (r:=i+1)))<|(zP)<|zln<|zlq ⟨i+1,f2,rfl,(by omega),(by omega),?_,rfl,hS⟩
   ·
    intro j hj0 hj1;rw [hf2 j hj0 hj1];exact Tab_next hp y h0 (by omega) k0 (by omega) (by omega) hj0 hj1
  refine zx8<|(zP)<|(zP)<|(zV (xln Zb hv1))<|(zV (Zp (r:=p.stock+p.kerf)))<|(zV (xix (kk:=p.stock+p.kerf) Zb hv1))<|(zV (xlr (u:= .int .i64 (f (p.stock+p.kerf))) pl_3 (hS.rowN 1 rfl)))<|(zP)<|zx1<|zf1 ⟨_,rfl,?_⟩
  obtain rfl:i=p.m:=by omega
  exact⟨congrArg (Value.int .i64) (by rw [hf _ (by omega) (by omega)];rfl),hS.nl⟩
theorem ZhL{vL:Value}{p:Prob}{n:Int}(w0:World)(h:PAt w0 vL vD p)(hp:p.Ok)(hY:Row w0 vy 1 n (ints y))(hn:n=p.m)(hy:Ww p y):
    Calls Tryz.prog 119 [.agg #[vL,vD,.int .i64 p.stock,.int .i64 p.kerf],vy].toArray w0 fun e w=>∃v,e= .returned v/\v= .int .i64 (WR p y)/\Sat w0 w []:=by
  subst hn;have hm:=hp.m1;have hm2:=hp.m2;have hd:=hp.d;have hs1:=hp.s1;have hs2:=hp.s2;have hk1:=hp.k1;have hk2:=hp.k2
  refine zenG Tryz.func119 Tryz.ntmps119 fun w hS=> ?_
  refine zsr<|zla (xbx (cs:= [_,_,_,_]) hS) ?_;rintro _ w ⟨g1,rfl,hS⟩
  refine(zP)<|zlz<|(zV (xfb 2 fd_24_2))<|(zV (xlb 0 pl_3 hS))<|(zV (xfb 3 fd_24_3))<|(zV (xlb 0 pl_3 hS))<|(zV (Zh (r:=p.stock+p.kerf)))<|(zP)<|zlz<|(zP)<|(zV (Zh (r:=p.stock+p.kerf+1)))<|zla (xmk Zb Zu hS) ?_;rintro v1 w ⟨hS,hv1⟩
  refine(zP)<|zx5<|(zP)<|zx6<|zlp (fun mm M w=>∃(i:Int) (vb:Value) (f:Int->Int),mm=((p.m-i).toNat)/\(0<=i)/\(i<=p.m)/\(∀j,0<=j->j<=p.stock+p.kerf->f j=Tab p y i.toNat j)/\(Slh vb (p.stock+p.kerf+1))/\M= [(1,vy),(2,.pointer (some ⟨g1,0,none⟩)),(4,.int .i64 0),(5,.int .i64 (p.stock+p.kerf)),(6,vb),(7,.int .i64 i)]/\Sat w0 w [.blk g1 [vL,vD,.int .i64 p.stock,.int .i64 p.kerf],.own vb 1 3 (p.stock+p.kerf+1) (ints f)]) ⟨0,v1,(fun _=>0),rfl,(by omega),(by omega),?_,?_,rfl,hS⟩ ?_
  ·
   intro j _ _;rfl
  ·
   exact hv1
  clear hS w
  rintro mm M w ⟨i,vb,f,rfl,h0,h1,hf,hvb,rfl,hS⟩
  refine zx11<|(zP)<|(zP)<|(zV (xln Zb hY.slh))<|(zP)<|zlt<|Zf ?_ ?_<;>intro hc
  ·
   refine zsk<|ztn<|zsq<|zbk<|zsq<|zdst [0,1] [0,1] 1000 mx_ hS ?_;clear hS;intro w hS
   refine zDrv 0 (xfb 0 fd_24_0) ?_
   have he:=hp.all i (by omega) (by omega);unfold Prob.each at he;have hyi:=hy i (by omega) (by omega)
   refine(zDl 1 (fun w hS=>(xlb 0 pl_22 hS)))<|(zDw 2 xmv)<|(zDw 3 (xix (kk:=i) Zb h.L.slh))<|zdla 4 (fun w hS=>(xlr (u:= .int .i64 (p.L i)) pl_3 (h.L.below hS.below))) ?_
   have hbv:=h.iL i
   refine(zDw 5 (xfb 3 fd_24_3))<|(zDl 6 (fun w hS=>(xlb 0 pl_3 hS)))<|(zDw 7 (Zh (r:=p.L i+p.kerf)))<|(zDw 8 xas)<|zdd<|ztn<|zsr ?_
   refine zla (xl0 (c:=ints f) Zb hS) ?_;rintro v2 w ⟨hS,hv2⟩
   refine(zP)<|zla (xap 2 (r:=p.stock+p.kerf+1) (f:=ints f) Zb Zu hS (hS.rowN 1 rfl) (by exact ZU _ _)) ?_;rintro v3 w ⟨hS,hv3⟩
   refine(zP)<|zx5<|(zP)<|zx6<|zlp (fun mm M w=>∃(nn:Int) (g:Int->Int),mm=((p.D i+1-nn).toNat)/\(1<=nn)/\(nn-1<=p.D i)/\(∀j,0<=j->j<=p.stock+p.kerf->g j=R (Tab p y i.toNat) (p.L i+p.kerf) (y i) (nn-1).toNat j)/\M= [(1,vy),(2,.pointer (some ⟨g1,0,none⟩)),(4,.int .i64 0),(5,.int .i64 (p.stock+p.kerf)),(6,vb),(7,.int .i64 i),(8,.int .i64 (p.L i+p.kerf)),(9,v3),(10,.int .i64 nn)]/\Sat w0 w [.blk g1 [vL,vD,.int .i64 p.stock,.int .i64 p.kerf],.own vb 1 3 (p.stock+p.kerf+1) (ints f),.own v3 1 3 (p.stock+p.kerf+1) (ints g)]) ⟨1,f,rfl,(by omega),(by omega),?_,rfl,hS⟩ ?_
   ·
    intro j hj0 hj1;rw [hf j hj0 hj1];rfl
   clear hS w
   rintro mm M w ⟨nn,g,rfl,n0,n1,hg,rfl,hS⟩
   refine zx11<|(zP)<|(zV (xfb 1 fd_24_1))<|(zV (xlb 0 pl_22 hS))<|(zP)<|(zV (xix (kk:=i) Zb h.D.slh))<|zlv (xlr (u:= .int .i64 (p.D i)) pl_3 (h.D.below hS.below)) ?_
   have hbv:=h.iD i
   refine(zP)<|(zP)<|zlb 44 ?_ ?_<;>intro hc
   ·
    refine(zP)<|(zP)<|zlv (Z6 (r:=(nn*(p.L i+p.kerf))) (e:=rfl) (hr:=(by have:=Td hp h0 (by omega:i<p.m) (n:=nn) (by omega) (by omega);unfold I64;omega))) ?_
    have hz:=Td hp h0 (by omega:i<p.m) (n:=nn) (by omega) (by omega)
    refine(zP)<|(zP)<|(zP)<|zlt<|Zf ?_ ?_<;>intro hc
    ·
     refine zx3<|zlv xmv ?_
     have hz:=Td hp h0 (by omega:i<p.m) (n:=nn) (by omega) (by omega)
     refine(zP)<|zlv (Z6 (r:=(nn*(p.L i+p.kerf))) (e:=rfl) (hr:=(by unfold I64;omega))) ?_
     refine(zP)<|zx6<|zlp (fun mm M w=>∃(c:Int) (g3:Int->Int),mm=((p.stock+p.kerf+1-c).toNat)/\(nn*(p.L i+p.kerf)<=c)/\(c<=p.stock+p.kerf+1)/\(∀j,0<=j->j<c->g3 j=R (Tab p y i.toNat) (p.L i+p.kerf) (y i) nn.toNat j)/\(∀j,c<=j->j<=p.stock+p.kerf->g3 j=R (Tab p y i.toNat) (p.L i+p.kerf) (y i) (nn-1).toNat j)/\M= [(1,vy),(2,.pointer (some ⟨g1,0,none⟩)),(4,.int .i64 0),(5,.int .i64 (p.stock+p.kerf)),(6,vb),(7,.int .i64 i),(8,.int .i64 (p.L i+p.kerf)),(9,v3),(10,.int .i64 nn),(11,.int .i64 c)]/\Sat w0 w [.blk g1 [vL,vD,.int .i64 p.stock,.int .i64 p.kerf],.own vb 1 3 (p.stock+p.kerf+1) (ints f),.own v3 1 3 (p.stock+p.kerf+1) (ints g3)]) ⟨(nn*(p.L i+p.kerf)),g,rfl,(by omega),(by omega),?_,?_,rfl,hS⟩ ?_
     ·
      intro j hj0 hj1;rw [hg j hj0 (by omega)];exact(R_not _ _ _ n0 hj1).symm
     ·
      intro j hj0 hj1;exact hg j (by omega) hj1
     clear hS w
     rintro mm M w ⟨c,g3,rfl,c0,c1,ha3,hb3,rfl,hS⟩
     refine zx11<|(zP)<|(zP)<|(zP)<|zlt<|Zf ?_ ?_<;>intro hc
     ·
      refine zx29<|zdst [0,1,2] [0,1] 23 mx_ hS ?_;clear hS;intro w hS
      refine zDrv 0 xmv ?_
      have hz2:=Zdo hy h0 (by omega:i<p.m) (n:=nn) (by omega) (by omega);have hb2:=Uw hp (by omega) hy i.toNat (by omega) (c-nn*(p.L i+p.kerf)) (by omega);rw [<-hf _ (by omega) (by omega)] at hb2
      refine(zDw 1 xmv)<|(zDw 2 xmv)<|(zDw 3 xmv)<|(zDw 4 (xix (kk:=c) Zb hv3))<|zdl 5 (fun w hS=>(xlr (u:= .int .i64 (g3 c)) pl_3 (hS.rowN 2 rfl))) ?_
      refine(zDw 6 xmv)<|(zDw 7 xmv)<|(zDw 8 xmv)<|(zDw 9 xmv)<|zDrv 10 (Z6 (r:=(nn*(p.L i+p.kerf))) (e:=rfl) (hr:=(by unfold I64;omega))) ?_
      refine(zDw 11 (Zp (r:=c-(nn*(p.L i+p.kerf)))))<|(zDw 12 (xix (kk:=c-(nn*(p.L i+p.kerf))) Zb hvb))<|(zDl 13 (fun w hS=>(xlr (u:= .int .i64 (f (c-(nn*(p.L i+p.kerf))))) pl_3 (hS.rowN 1 rfl))))<|(zDw 14 xmv)<|(zDw 15 xmv)<|(zDw 16 xmv)<|(zDw 17 (xix (kk:=i) Zb hY.slh))<|(zDl 18 (fun w hS=>(xlr (u:= .int .i64 (y i)) pl_3 (hY.below hS.below))))<|zDrv 19 (Z6 (r:=(nn*(y i))) (e:=rfl) (hr:=(by unfold I64;omega))) ?_
      refine(zDw 20 (Zh (r:=f (c-(nn*(p.L i+p.kerf)))+(nn*(y i)))))<|(zDw 21 (Zbr (r:=(max (g3 c) (f (c-(nn*(p.L i+p.kerf)))+(nn*(y i)))))))<|(zDw 22 (xix (kk:=c) Zb hv3))<|zde 23 (xso 2 pl_3 hS (Zs _ _ _)) ?_;clear hS;rintro w hS
      refine⟨⟨fun h=>absurd h (by decide),hS.pk [0,1]⟩,?_⟩
      refine zdd<|zbn<|ztn<|zrg ?_
      refine(zP)<|(zV (Zh (r:=c+1)))<|(zP)<|zln<|zlq ⟨c+1,(upd g3 c (max (g3 c) (f (c-(nn*(p.L i+p.kerf)))+(nn*(y i))))),rfl,(by omega),(by omega),?_,?_,rfl,hS⟩
      ·
       intro j hj0 hj1;by_cases hj:j=c
       · rw [hj,Zk,ZnK _ _ _ n0 c0,hb3 c (by omega) (by omega),hf _ (by omega) (by omega)]
       · rw [upd_ne _ _ hj];exact ha3 j hj0 (by omega)
      ·
       intro j hj0 hj1;rw [upd_ne _ _ (by omega)];exact hb3 j (by omega) hj1
     refine zx21<|(zP)<|(zV (Zh (r:=nn+1)))<|(zP)<|zln<|zlq ⟨nn+1,g3,rfl,(by omega),(by omega),?_,rfl,hS⟩
     ·
      intro j hj0 hj1;rw [show nn+1-1=nn by omega];exact ha3 j hj0 (by omega)
    refine zxt<|ztx<|ztx<|zbh<|ztn<|zrg<|(zP)<|(zP)<|zx10<|(zP)<|(zV (Zh (r:=i+1)))<|(zP)<|zln<|zlq ⟨i+1,v3,g,rfl,(by omega),(by omega),?_,?_,rfl,hS.pk [0,2]⟩
    ·
     intro j hj0 hj1;rw [hg j hj0 hj1];exact Tab_next2 hp y h0 (by omega) n0 n1 (by omega) hj0 hj1
    ·
     exact hv3
   iterate 5 refine zlo ?_
   refine(zP)<|zlt<|zcf<|zxt<|ztx<|ztx<|zbh<|ztn<|zrg ?_
   refine(zP)<|(zP)<|zx10<|(zP)<|(zV (Zh (r:=i+1)))<|(zP)<|zln<|zlq ⟨i+1,v3,g,rfl,(by omega),(by omega),?_,?_,rfl,hS.pk [0,2]⟩
   ·
    intro j hj0 hj1;rw [hg j hj0 hj1];exact Tab_next2 hp y h0 (by omega) n0 n1 (by omega) hj0 hj1
   ·
    exact hv3
  refine zx8<|(zP)<|(zP)<|(zV (xix (kk:=p.stock+p.kerf) Zb hvb))<|(zV (xlr (u:= .int .i64 (f (p.stock+p.kerf))) pl_3 (hS.rowN 1 rfl)))<|(zP)<|zx1<|zf1 ⟨_,rfl,?_⟩
  obtain rfl:i=p.m:=by omega
  exact⟨congrArg (Value.int .i64) (by rw [hf _ (by omega) (by omega)];rfl),hS.nl⟩
theorem Zik{vL:Value}{p:Prob}{n q:Int}(w0:World)(h:PAt w0 vL vD p)(hY:Row w0 vy 1 n (ints y))(hq: -9223372036854775808<=q/\q<=9223372036854775807):
    Calls Tryz.prog 79 [.agg #[vL,vD,.int .i64 p.stock,.int .i64 p.kerf],.agg #[vy,.int .i64 q]].toArray w0 fun e w=>∃v,e= .returned v/\v= .int .i64 (Chk p n y q)/\Sat w0 w []:=by
  have hn:=hY.slh.n0;have hn1:=hY.slh.n1
  refine zenG Tryz.func79 Tryz.ntmps79 fun w hS=> ?_
  refine zsr<|zla (xbx (cs:= [_,_,_,_]) hS) ?_;rintro _ w ⟨g1,rfl,hS⟩
  refine zla (xbx (cs:= [_,_]) hS) ?_;rintro _ w ⟨g2,rfl,hS⟩
  refine(zP)<|zlt<|zsq<|zbk<|zsr<|(zV (xls 0 st_32 hS))<|zlc (xc0 XK) (Yb (p:=p) w (h.below hS.below)) ?_;rintro _ w ⟨rfl,hS'⟩
  replace hS:=hS.cmp hS';clear hS'
  refine(zP)<|(zP)<|zlb 9 ?_ ?_<;>intro hc;rotate_left
  refine(zV (xls 1 st_98 hS))<|zlc (xc0 Zk9) (Zgm w (hY.below hS.below) (by omega)) ?_;rintro _ w ⟨rfl,hS'⟩
  replace hS:=hS.cmp hS';clear hS'
  refine(zP)<|(zP)<|(zP)<|zlb 14 ?_ ?_<;>intro hc;rotate_left
  refine(zV (xfb 0 fd_98_0))<|(zV (xlb 1 pl_22 hS))<|(zV (xln Zb hY.slh))<|(zV (xfb 0 fd_32_0))<|(zV (xlb 0 pl_22 hS))<|(zV (xln Zb h.L.slh))<|(zP)<|(zP)<|(zP)<|zlt<|Zf ?_ ?_<;>intro hc
  ·
   refine zsr<|(zP)<|XB<|zf1 ⟨_,rfl,?_⟩
   exact⟨congrArg (Value.int .i64) (Eq.symm (by first|exact UM (.inl ‹¬p.Ok›)|exact UM (.inr (.inl ‹¬Formed n y q›))|exact UM (.inr (.inr (by omega))))),hS.nl⟩
  refine zsq<|zdst [0,1] [0,1] 1000 mx_ hS ?_;clear hS;intro w hS
  refine(zDl 0 (fun w hS=>(xls 0 st_32 hS)))<|(zDw 1 (xfb 0 fd_98_0))<|(zDl 2 (fun w hS=>(xlb 1 pl_22 hS)))<|(zDw 4 (xfb 1 fd_98_1))<|(zDl 5 (fun w hS=>(xlb 1 pl_3 hS)))<|zdc 3 (xc0 Zk8) (ZdW (p:=p) w (h.below hS.below) (Classical.not_not.1 ‹¬¬(p.Ok)›) (hY.below hS.below) (by omega) (Formed.priced (Classical.not_not.1 ‹¬¬(Formed n y q)›) (by omega))) ?_;rintro _ w ⟨rfl,hS'⟩
  replace hS:=hS.cmp hS';clear hS'
  refine⟨⟨fun _=>hS,hS⟩,?_⟩
  refine(zDw 6 Yq)<|(zDw 7 xas)<|zdd<|ztn ?_
  refine Zf ?_ ?_<;>intro hc
  ·
   refine zsr<|(zP)<|XB<|zf1 ⟨_,rfl,?_⟩
   exact⟨congrArg (Value.int .i64) (Eq.symm (by exact ZfG (Classical.not_not.1 ‹¬¬(p.Ok)›) (Classical.not_not.1 ‹¬¬(Formed n y q)›) (by omega) ‹_›)),hS.nl⟩
  refine zsk<|zbn<|ztn<|zsr<|(zP)<|zx1<|zf1 ⟨_,rfl,?_⟩
  exact⟨congrArg (Value.int .i64) (Eq.symm (by exact ZfH (Classical.not_not.1 ‹¬¬(p.Ok)›) (Classical.not_not.1 ‹¬¬(Formed n y q)›) (by omega) ‹_›)),hS.nl⟩
  all_goals
   refine zOps ?_
   refine zlt<|zct<|zsr ?_
   refine zOps ?_
   refine XB<|zf1 ⟨_,rfl,?_⟩
   exact⟨congrArg (Value.int .i64) (Eq.symm (by first|exact UM (.inl ‹¬p.Ok›)|exact UM (.inr (.inl ‹¬Formed n y q›))|exact UM (.inr (.inr (by omega))))),hS.nl⟩
theorem Zf1{vL:Value}{p:Prob}{n q:Int}(w0:World)(h:PAt w0 vL vD p)(hY:Row w0 vy 1 n (ints y))(hq: -9223372036854775808<=q/\q<=9223372036854775807):
    Calls Tryz.prog 80 [.agg #[vL,vD,.int .i64 p.stock,.int .i64 p.kerf],.agg #[vy,.int .i64 q]].toArray w0 fun e w=>∃v,e= .returned v/\v= .int .i64 (Chk p n y q)/\Sat w0 w []:=by
  have hn:=hY.slh.n0;have hn1:=hY.slh.n1
  refine zenG Tryz.func80 Tryz.ntmps80 fun w hS=> ?_
  refine zsr<|zla (xbx (cs:= [_,_,_,_]) hS) ?_;rintro _ w ⟨g1,rfl,hS⟩
  refine zla (xbx (cs:= [_,_]) hS) ?_;rintro _ w ⟨g2,rfl,hS⟩
  refine(zP)<|zlt<|zsq<|zbk<|zsr<|(zV (xls 0 st_24 hS))<|zlc (xc0 UI) (YE (p:=p) w (h.below hS.below)) ?_;rintro _ w ⟨rfl,hS'⟩
  replace hS:=hS.cmp hS';clear hS'
  refine(zP)<|(zP)<|zlb 9 ?_ ?_<;>intro hc;rotate_left
  refine(zV (xls 1 st_100 hS))<|zlc (xc0 Zk7) (ZdP w (hY.below hS.below) (by omega)) ?_;rintro _ w ⟨rfl,hS'⟩
  replace hS:=hS.cmp hS';clear hS'
  refine(zP)<|(zP)<|(zP)<|zlb 14 ?_ ?_<;>intro hc;rotate_left
  refine(zV (xfb 0 fd_100_0))<|(zV (xlb 1 pl_22 hS))<|(zV (xln Zb hY.slh))<|(zV (xfb 0 fd_24_0))<|(zV (xlb 0 pl_22 hS))<|(zV (xln Zb h.L.slh))<|(zP)<|(zP)<|(zP)<|zlt<|Zf ?_ ?_<;>intro hc
  ·
   refine zsr<|(zP)<|XB<|zf1 ⟨_,rfl,?_⟩
   exact⟨congrArg (Value.int .i64) (Eq.symm (by first|exact UM (.inl ‹¬p.Ok›)|exact UM (.inr (.inl ‹¬Formed n y q›))|exact UM (.inr (.inr (by omega))))),hS.nl⟩
  refine zsq<|zdst [0,1] [0,1] 1000 mx_ hS ?_;clear hS;intro w hS
  refine(zDl 0 (fun w hS=>(xls 0 st_24 hS)))<|(zDw 1 (xfb 0 fd_100_0))<|(zDl 2 (fun w hS=>(xlb 1 pl_22 hS)))<|(zDw 4 (xfb 1 fd_100_1))<|(zDl 5 (fun w hS=>(xlb 1 pl_3 hS)))<|zdc 3 (xc0 Zk6) (ZhL (p:=p) w (h.below hS.below) (Classical.not_not.1 ‹¬¬(p.Ok)›) (hY.below hS.below) (by omega) (Formed.priced (Classical.not_not.1 ‹¬¬(Formed n y q)›) (by omega))) ?_;rintro _ w ⟨rfl,hS'⟩
  replace hS:=hS.cmp hS';clear hS'
  refine⟨⟨fun _=>hS,hS⟩,?_⟩
  refine(zDw 6 Yq)<|(zDw 7 xas)<|zdd<|ztn ?_
  refine Zf ?_ ?_<;>intro hc
  ·
   refine zsr<|(zP)<|XB<|zf1 ⟨_,rfl,?_⟩
   exact⟨congrArg (Value.int .i64) (Eq.symm (by exact ZfG (Classical.not_not.1 ‹¬¬(p.Ok)›) (Classical.not_not.1 ‹¬¬(Formed n y q)›) (by omega) ‹_›)),hS.nl⟩
  refine zsk<|zbn<|ztn<|zsr<|(zP)<|zx1<|zf1 ⟨_,rfl,?_⟩
  exact⟨congrArg (Value.int .i64) (Eq.symm (by exact ZfH (Classical.not_not.1 ‹¬¬(p.Ok)›) (Classical.not_not.1 ‹¬¬(Formed n y q)›) (by omega) ‹_›)),hS.nl⟩
  all_goals
   refine zOps ?_
   refine zlt<|zct<|zsr ?_
   refine zOps ?_
   refine XB<|zf1 ⟨_,rfl,?_⟩
   exact⟨congrArg (Value.int .i64) (Eq.symm (by first|exact UM (.inl ‹¬p.Ok›)|exact UM (.inr (.inl ‹¬Formed n y q›))|exact UM (.inr (.inr (by omega))))),hS.nl⟩
theorem Zc3{vL:Value}{p:Prob}{n q:Int}(w0:World)(h:PAt w0 vL vD p)(hY:Row w0 vy 1 n (ints y))(hq: -9223372036854775808<=q/\q<=9223372036854775807):
    Calls Tryz.prog 47 [.agg #[vL,vD,.int .i64 p.stock,.int .i64 p.kerf],.agg #[vy,.int .i64 q]].toArray w0 fun e w=>∃v,e= .returned v/\v= .tuple #[.int .i64 (YW p n y q),.int .i64 (Chk p n y q)]/\Sat w0 w []:=by
  have hn:=hY.slh.n0;have hn1:=hY.slh.n1
  refine zenG Tryz.func47 Tryz.ntmps47 fun w hS=> ?_
  refine zsr<|zla (xbx (cs:= [_,_,_,_]) hS) ?_;rintro _ w ⟨g1,rfl,hS⟩
  refine zla (xbx (cs:= [_,_]) hS) ?_;rintro _ w ⟨g2,rfl,hS⟩
  refine(zP)<|(zP)<|zx5<|(zV (xls 0 st_32 hS))<|(zV (xls 1 st_98 hS))<|zlc (xc0 ZmB) (Zik (p:=p) w (h.below hS.below) (hY.below hS.below) (by omega)) ?_;rintro _ w ⟨rfl,hS'⟩
  replace hS:=hS.cmp hS';clear hS'
  refine(zP)<|zlz<|(zP)<|(zP)<|zlt<|Zf ?_ ?_<;>intro hc
  ·
   refine zsr<|(zP)<|(zP)<|(zP)<|zx14<|zf2 ⟨_,rfl,?_⟩
   exact⟨by rw [Zgv ‹_›],hS.nl⟩
  refine ZR<|(zP)<|zx5<|zlv (xfb 1 fd_32_1) ?_
  obtain⟨hp,hfm,hnm,hw⟩:=Xi (by omega:Chk p n y q=0);have hq1:=hfm.1;have hq2:=hfm.2.1;have hd:=hp.d;have hm1:=hp.m1;have hm2:=hp.m2;have hpr:=hfm.priced hnm
  refine(zV (xlb 0 pl_22 hS))<|(zV (xln Zb h.D.slh))<|(zP)<|zx6<|zlp (fun mm M w=>∃(t:Int) (i:Int),mm=((p.m-i).toNat)/\(0<=i)/\(i<=p.m)/\(t=Tot p.D y i.toNat)/\M= [(3,.pointer (some ⟨g2,0,none⟩)),(4,.int .i64 0),(5,.int .i64 0),(7,.int .i64 t),(17,vD),(18,.int .i64 p.d),(19,.int .i64 i)]/\Sat w0 w [.blk g1 [vL,vD,.int .i64 p.stock,.int .i64 p.kerf],.blk g2 [vy,.int .i64 q]]) ⟨0,0,rfl,(by omega),(by omega),?_,rfl,hS⟩ ?_
  ·
   rfl
  clear hS w
  rintro mm M w ⟨t,i,rfl,h0,h1,ht,rfl,hS⟩
  refine zsr<|(zP)<|zx7<|Zf ?_ ?_<;>intro hc
  ·
   refine zx3<|(zP)<|(zV (xix (kk:=i) Zb h.D.slh))<|zlv (xlr (u:= .int .i64 (p.D i)) pl_3 (h.D.below hS.below)) ?_
   have hbv:=h.iD i
   refine(zP)<|(zP)<|zlt<|zrg<|zlv xmv ?_
   have hb1:=U3 hp hpr i h0 (by omega);have hb2:=R7 hp hpr i h0 (by omega)
   refine(zP)<|(zV (xfb 0 fd_98_0))<|(zV (xlb 1 pl_22 hS))<|(zP)<|(zV (xix (kk:=i) Zb hY.slh))<|(zV (xlr (u:= .int .i64 (y i)) pl_3 (hY.below hS.below)))<|zlv (Z6 (r:=((p.D i)*(y i))) (e:=rfl) (hr:=(by unfold I64;omega))) ?_
   refine(zV (Zh (r:=t+((p.D i)*(y i)))))<|(zP)<|zx10<|(zV (Zh (r:=i+1)))<|(zP)<|zln<|zlq ⟨t+((p.D i)*(y i)),i+1,rfl,(by omega),(by omega),?_,rfl,hS⟩
   ·
    rw [Zbj _ _ h0,<-ht]
  refine zx8<|zlv xmv ?_
  have hb1:=U3 hp hpr i h0 (by omega);have hq3:=Yu (a:=t+q-1) (b:=q) (by omega) (by omega)
  refine(zV (xfb 1 fd_98_1))<|(zV (xlb 1 pl_3 hS))<|(zV (Zh (r:=t+q)))<|(zV (Zp (r:=t+q-1)))<|(zV (xfb 1 fd_98_1))<|(zV (xlb 1 pl_3 hS))<|zlv (Vv (r:=(Int.tdiv (t+q-1) q)) (hn:=(by omega)) (hr:=(by unfold I64;omega))) ?_
  refine(zP)<|(zP)<|zx1<|zf2 ⟨_,rfl,?_⟩
  obtain rfl:i=p.m:=by omega
  have hz:Chk p n y q=0:=by omega
  exact⟨by rw [hz,Vr hz];unfold Bnd;rw [<-ht],hS.nl⟩
theorem Zf2{vL:Value}{p:Prob}{n q:Int}(w0:World)(h:PAt w0 vL vD p)(hY:Row w0 vy 1 n (ints y))(hq: -9223372036854775808<=q/\q<=9223372036854775807):
    Calls Tryz.prog 48 [.agg #[vL,vD,.int .i64 p.stock,.int .i64 p.kerf],.agg #[vy,.int .i64 q]].toArray w0 fun e w=>∃v,e= .returned v/\v= .tuple #[.int .i64 (YW p n y q),.int .i64 (Chk p n y q)]/\Sat w0 w []:=by
  have hn:=hY.slh.n0;have hn1:=hY.slh.n1
  refine zenG Tryz.func48 Tryz.ntmps48 fun w hS=> ?_
  refine zsr<|zla (xbx (cs:= [_,_,_,_]) hS) ?_;rintro _ w ⟨g1,rfl,hS⟩
  refine zla (xbx (cs:= [_,_]) hS) ?_;rintro _ w ⟨g2,rfl,hS⟩
  refine(zP)<|(zP)<|zx5<|(zV (xls 0 st_24 hS))<|(zV (xls 1 st_100 hS))<|zlc (xc0 ZmA) (Zf1 (p:=p) w (h.below hS.below) (hY.below hS.below) (by omega)) ?_;rintro _ w ⟨rfl,hS'⟩
  replace hS:=hS.cmp hS';clear hS'
  refine(zP)<|zlz<|(zP)<|(zP)<|zlt<|Zf ?_ ?_<;>intro hc
  ·
   refine zsr<|(zP)<|(zP)<|(zP)<|zx14<|zf2 ⟨_,rfl,?_⟩
   exact⟨by rw [Zgv ‹_›],hS.nl⟩
  refine ZR<|zlv xas ?_
  obtain⟨hp,hfm,hnm,hw⟩:=Xi (by omega:Chk p n y q=0);have hq1:=hfm.1;have hq2:=hfm.2.1;have hd:=hp.d;have hm1:=hp.m1;have hm2:=hp.m2;have hpr:=hfm.priced hnm
  refine zx5<|(zP)<|zx6<|zlp (fun mm M w=>∃(t:Int) (i:Int),mm=((p.m-i).toNat)/\(0<=i)/\(i<=p.m)/\(t=Tot p.D y i.toNat)/\M= [(2,.pointer (some ⟨g1,0,none⟩)),(3,.pointer (some ⟨g2,0,none⟩)),(4,.int .i64 0),(5,.int .i64 0),(7,.int .i64 t),(8,.int .i64 i)]/\Sat w0 w [.blk g1 [vL,vD,.int .i64 p.stock,.int .i64 p.kerf],.blk g2 [vy,.int .i64 q]]) ⟨0,0,rfl,(by omega),(by omega),?_,rfl,hS⟩ ?_
  ·
   rfl
  clear hS w
  rintro mm M w ⟨t,i,rfl,h0,h1,ht,rfl,hS⟩
  refine zx11<|(zP)<|(zV (xfb 0 fd_100_0))<|(zV (xlb 1 pl_22 hS))<|(zV (xln Zb hY.slh))<|(zP)<|zlt<|Zf ?_ ?_<;>intro hc
  ·
   refine zx29<|zdst [0,1] [0,1] 1000 mx_ hS ?_;clear hS;intro w hS
   refine zDrv 0 xmv ?_
   have hb1:=U3 hp hpr i h0 (by omega);have hb2:=R7 hp hpr i h0 (by omega)
   refine(zDw 1 (xfb 1 fd_24_1))<|(zDl 2 (fun w hS=>(xlb 0 pl_22 hS)))<|(zDw 3 xmv)<|(zDw 4 (xix (kk:=i) Zb h.D.slh))<|zdla 5 (fun w hS=>(xlr (u:= .int .i64 (p.D i)) pl_3 (h.D.below hS.below))) ?_
   have hbv:=h.iD i
   refine(zDw 6 (xfb 0 fd_100_0))<|(zDl 7 (fun w hS=>(xlb 1 pl_22 hS)))<|(zDw 8 xmv)<|(zDw 9 (xix (kk:=i) Zb hY.slh))<|(zDl 10 (fun w hS=>(xlr (u:= .int .i64 (y i)) pl_3 (hY.below hS.below))))<|zDrv 11 (Z6 (r:=((p.D i)*(y i))) (e:=rfl) (hr:=(by unfold I64;omega))) ?_
   refine(zDw 12 (Zh (r:=t+((p.D i)*(y i)))))<|zDrv 13 xas ?_
   obtain⟨hp,hfm,hnm,hw⟩:=Xi (by omega:Chk p n y q=0);have hq1:=hfm.1;have hq2:=hfm.2.1;have hd:=hp.d;have hm1:=hp.m1;have hm2:=hp.m2;have hpr:=hfm.priced hnm
   refine zdd<|zbn<|ztn<|zrg ?_
   refine(zP)<|(zV (Zh (r:=i+1)))<|(zP)<|zln<|zlq ⟨t+((p.D i)*(y i)),i+1,rfl,(by omega),(by omega),?_,rfl,hS⟩
   ·
    rw [Zbj _ _ h0,<-ht]
  refine zx8<|zlv xmv ?_
  have hb1:=U3 hp hpr i h0 (by omega);have hq3:=Yu (a:=t+q-1) (b:=q) (by omega) (by omega)
  refine(zV (xfb 1 fd_100_1))<|(zV (xlb 1 pl_3 hS))<|(zV (Zh (r:=t+q)))<|(zV (Zp (r:=t+q-1)))<|(zV (xfb 1 fd_100_1))<|(zV (xlb 1 pl_3 hS))<|zlv (Vv (r:=(Int.tdiv (t+q-1) q)) (hn:=(by omega)) (hr:=(by unfold I64;omega))) ?_
  refine(zP)<|(zP)<|zx1<|zf2 ⟨_,rfl,?_⟩
  obtain rfl:i=p.m:=by omega
  have hz:Chk p n y q=0:=by omega
  exact⟨by rw [hz,Vr hz];unfold Bnd;rw [<-ht],hS.nl⟩
end Go.Proofs.YtkichmnjjblodaaGreat
namespace Go.Proofs.YtkichmnjjblodaaGreat
open Go Go.RowKit Go.Proofs.Gw
variable {e i:Int} {f:Int->Int} {vD:Value}
theorem UH:ZW Tryz.prog 98=some (.agg #[.slice none 0 0,.int .i64 0],2,32):=by kernel_rfl
structure Ct where
  n:Int
  y:Int->Int
  q:Int
def Ct.zer:Ct:=⟨0,fun _=>0,0⟩
def VN(p:Prob):Ct:=⟨p.m,fun k=>p.L k+p.kerf,p.stock+p.kerf⟩
def UF(p:Prob):Int->Int:=fun k=>if p.stock+p.kerf<2*(p.L k+p.kerf) then 1 else 0
def ZeN(p:Prob):Ct:=⟨p.m,UF p,1⟩
def MakeR(p:Prob)(c:Ct)(e:Int):Prop:=∃u ml mf s,0<=u/\ColR p u ml mf s e/\((e≠0/\c=Ct.zer)\/(e=0/\c=⟨s.m,s.Y,s.den⟩))
def MatCR(p:Prob)(c:Ct)(e:Int):Prop:=(¬p.Ok/\c=Ct.zer/\e=1)\/(p.Ok/\c=VN p/\e=0)
def HalfR(p:Prob)(c:Ct)(e:Int):Prop:=(¬p.Ok/\c=Ct.zer/\e=1)\/(p.Ok/\c=ZeN p/\e=0)
theorem MakeR.q{p:Prob}{c:Ct}{e:Int}(h:MakeR p c e):0<=c.q/\c.q<=1073741824:=by
  obtain⟨u,ml,mf,s,hu,h1,⟨_,rfl⟩|⟨h2,rfl⟩⟩:=h
  · exact⟨Int.le_refl _,by show(0:Int)<=_;omega⟩
  · obtain⟨h3,_⟩:=h1.okS hu h2
    exact⟨by have:=h3.d1;show 0<=s.den;omega,h3.d2⟩
theorem Zje{p:Prob}(hp:p.Ok):1<=(VN p).q/\(VN p).q<=2100:=by
  have:=hp.s1;have:=hp.s2;have:=hp.k1;have:=hp.k2
  unfold VN;dsimp only;omega
theorem MatCR.q{p:Prob}{c:Ct}{e:Int}(h:MatCR p c e):0<=c.q/\c.q<=1073741824:=by
  rcases h with⟨_,rfl,_⟩|⟨hp,rfl,_⟩
  · exact⟨Int.le_refl _,by show(0:Int)<=_;omega⟩
  · have:=Zje hp;omega
theorem HalfR.q{p:Prob}{c:Ct}{e:Int}(h:HalfR p c e):0<=c.q/\c.q<=1073741824:=by
  rcases h with⟨_,rfl,_⟩|⟨hp,rfl,_⟩
  · exact⟨Int.le_refl _,by show(0:Int)<=_;omega⟩
  · exact⟨by show(0:Int)<=1;omega,by show(1:Int)<=_;omega⟩
theorem Zgc{vL:Value}{p:Prob}(w0:World)(h:PAt w0 vL vD p):
    Calls Tryz.prog 133 [.agg #[vL,vD,.int .i64 p.stock,.int .i64 p.kerf]].toArray w0 fun e w=>∃v,e= .returned v/\∃r c e,v= .tuple #[.agg #[r,.int .i64 (Ct.q c)],.int .i64 e]/\MakeR p c e/\Slh r c.n/\Sat w0 w [.own r 1 3 c.n (ints c.y)]:=by
  have hm:=h.L.slh.n0;have hm1:=h.L.slh.n1;have hd:=h.D.slh.n0;have hd1:=h.D.slh.n1;have hs:=h.is;have hk:=h.ik
  refine zenG Tryz.func133 Tryz.ntmps133 fun w hS=> ?_
  refine zsr<|zla (xbx (cs:= [_,_,_,_]) hS) ?_;rintro _ w ⟨g1,rfl,hS⟩
  refine zla (xal (cs:= [_,_]) UH hS) ?_;rintro _ w ⟨g2,rfl,hS⟩
  refine(zP)<|zlz<|(zV (xls 0 st_32 hS))<|zlc (xc0 ZiI) (Zbb (p:=p) w (h.below hS.below)) ?_;rintro _ w ⟨zE,zA,al,zC,y3,y4,y5,xS,c4,rfl,x3,xm,zj,xV,hS'⟩
  replace hS:=(hS.comp hS').n6;clear hS'
  have cz:=fun k (k0:0<=k) (k1:k<y3)=>hS.slhIn 3 rfl k0 k1
  refine(zP)<|(zP)<|(zP)<|zla (xal (cs:= [_,_,_,_,_]) ZbN hS) ?_;rintro _ w ⟨g3,rfl,hS⟩
  refine zle (xsw 6 Xe hS (hd:=(Za xm.one (Za zj.one (Za xV.one (Za rfl (Za rfl Zi))))))) ?_;clear hS;rintro w hS
  refine(zP)<|zx5<|(zP)<|(zP)<|zlt<|Zf ?_ ?_<;>intro hc
  ·
   refine zsr<|(zV (xany (v:= .agg #[.slice none 0 0,.int .i64 0])))<|(zP)<|zle (xsw 1 st_98 hS) ?_;clear hS;rintro w hS
   refine(zP)<|zx14<|Yo 1 st_98 hS ⟨_,rfl,?_⟩
   exact⟨_,Ct.zer,c4,rfl,⟨_,_,_,_,xm.n0,x3,.inl ⟨by omega,rfl⟩⟩,slh_nil,(hS.sub (.cons _ (.cons _ (.cons _ (.cons _ (.cons _ (.cons _ (.cons _ .slnil)))))))).addnil 1 3 (ints Ct.zer.y)⟩
  refine ZR<|(zV (xfb 1 fd_141_1))<|(zV (xfb 2 fd_139_1))<|(zV (xlb 6 pl_22 hS))<|(zV (xfb 1 fd_141_1))<|(zV (xfb 4 fd_139_3))<|(zV (xlb 6 pl_3 hS))<|zlv (xany (v:= .agg #[zC,.int .i64 xS.den]) (hr:=by obtain⟨_,_,_,_,rfl,_⟩:=xV;kernel_rfl)) ?_
  refine zle (xsw 1 st_98 hS (hd:=(Za xV.one (Za rfl Zi)))) ?_;clear hS;rintro w hS
  refine(zP)<|zx1<|Yo 1 st_98 hS ⟨_,rfl,?_⟩
  exact⟨_,⟨xS.m,xS.Y,xS.den⟩,0,rfl,⟨_,_,_,_,xm.n0,(by rw [show(0:Int)=c4 by omega];exact x3),.inr ⟨rfl,rfl⟩⟩,xV,hS.pk [5]⟩
theorem Zgb{vL:Value}{p:Prob}(w0:World)(h:PAt w0 vL vD p):
    Calls Tryz.prog 134 [.agg #[vL,vD,.int .i64 p.stock,.int .i64 p.kerf]].toArray w0 fun e w=>∃v,e= .returned v/\∃r c e,v= .tuple #[.agg #[r,.int .i64 (Ct.q c)],.int .i64 e]/\MatCR p c e/\Slh r c.n/\Sat w0 w [.own r 1 3 c.n (ints c.y)]:=by
  have hm:=h.L.slh.n0;have hm1:=h.L.slh.n1;have hd:=h.D.slh.n0;have hd1:=h.D.slh.n1;have hs:=h.is;have hk:=h.ik
  refine zenG Tryz.func134 Tryz.ntmps134 fun w hS=> ?_
  refine zsr<|zla (xbx (cs:= [_,_,_,_]) hS) ?_;rintro _ w ⟨g1,rfl,hS⟩
  refine zla (xal (cs:= [_,_]) UH hS) ?_;rintro _ w ⟨g2,rfl,hS⟩
  refine(zP)<|zx5<|(zV (xls 0 st_32 hS))<|zlc (xc0 XK) (Yb (p:=p) w (h.below hS.below)) ?_;rintro _ w ⟨rfl,hS'⟩
  replace hS:=hS.cmp hS';clear hS'
  refine(zP)<|zlt<|Zf ?_ ?_<;>intro hc
  ·
   refine zsr<|(zV (xany (v:= .agg #[.slice none 0 0,.int .i64 0])))<|zle (xsw 1 st_98 hS) ?_;clear hS;rintro w hS
   refine(zP)<|zx14<|Yo 1 st_98 hS ⟨_,rfl,?_⟩
   exact⟨_,Ct.zer,1,rfl,.inl ⟨‹¬p.Ok›,rfl,rfl⟩,slh_nil,(hS.sub (.cons _ (.cons _ .slnil))).addnil 1 3 (ints Ct.zer.y)⟩
  refine ZR<|zlv (xfb 2 fd_32_2) ?_
  have hp:p.Ok:=by first|assumption|exact Classical.not_not.1 ‹_›
  have hpm:=hp.m1;have qx:=hp.m2;have hpd:=hp.d;have hs1:=hp.s1;have hs2:=hp.s2;have hk1:=hp.k1;have hk2:=hp.k2
  refine(zV (xlb 0 pl_3 hS))<|(zV (xfb 3 fd_32_3))<|(zV (xlb 0 pl_3 hS))<|(zV (Zh (r:=p.stock+p.kerf)))<|(zV (xany (v:= .agg #[.slice none 0 0,.int .i64 (p.stock+p.kerf)])))<|zla (xal (cs:= [_,_]) UH hS) ?_;rintro _ w ⟨g3,rfl,hS⟩
  refine zle (xsw 2 st_98 hS) ?_;clear hS;rintro w hS
  refine zx5<|(zV (xfb 0 fd_32_0))<|(zV (xlb 0 pl_22 hS))<|(zV (xln Zb h.L.slh))<|(zP)<|zx6 ?_
  replace hS:=hS.addnil 1 3 (ints (fun _=>0))
  refine zlp (fun mm M w=>∃(i:Int) (vb:Value) (f:Int->Int),mm=((p.m-i).toNat)/\(0<=i)/\(i<=p.m)/\(∀k,0<=k->k<i->f k=p.L k+p.kerf)/\(Slh vb i)/\M= [(1,.pointer (some ⟨g1,0,none⟩)),(2,.pointer (some ⟨g2,0,none⟩)),(3,.int .i64 0),(4,.pointer (some ⟨g3,0,none⟩)),(18,vL),(19,.int .i64 p.m),(20,.int .i64 i)]/\Sat w0 w [.blk g1 [vL,vD,.int .i64 p.stock,.int .i64 p.kerf],.blk g2 [.slice none 0 0,.int .i64 0],.blk g3 [vb,.int .i64 (p.stock+p.kerf)],.own vb 1 3 i (ints f)]) ⟨0,(.slice none 0 0),(fun _=>0),rfl,(by omega),(by omega),?_,?_,rfl,hS⟩ ?_
  ·
   intro k k0 k1;omega
  ·
   exact slh_nil
  clear hS w
  rintro mm M w ⟨i,vb,f,rfl,h0,h1,hf,hvb,rfl,hS⟩
  refine zsr<|(zP)<|zx7<|Zf ?_ ?_<;>intro hc
  ·
   refine zx3<|(zV (xix (kk:=i) Zb h.L.slh))<|zlv (xlr (u:= .int .i64 (p.L i)) pl_3 (h.L.below hS.below)) ?_
   have hbv:=h.iL i
   have he:=hp.all i h0 (by omega);unfold Prob.each at he
   refine(zP)<|zlt<|zrg<|(zV (xfb 0 fd_98_0))<|(zV (xlb 2 pl_22 hS))<|(zP)<|(zV (xfb 3 fd_32_3))<|(zV (xlb 0 pl_3 hS))<|(zV (Zh (r:=p.L i+p.kerf)))<|zla (xli (n:=1) (len:=1) (pv:= [(0,.int .i64 (p.L i+p.kerf))]) (cs:= [.int .i64 (p.L i+p.kerf)]) (c:=ints (fun _=>p.L i+p.kerf)) Zb Zu hS) ?_;rintro v1 w ⟨hS,hv1⟩
   refine zla (xap 3 (r:=i+1) Zb Zu hS (hS.rowN 4 rfl) (Yt _ _ _)) ?_;rintro v2 w ⟨hS,hv2⟩
   refine(zV (xfb 0 fd_98_0))<|zle (xsb 2 pl_22 hS (hv:=hv2.one)) ?_;clear hS;rintro w hS
   refine zx10<|(zV (Zh (r:=i+1)))<|(zP)<|zln<|zlq ⟨i+1,v2,(snoc f i (p.L i+p.kerf)),rfl,(by omega),(by omega),?_,?_,rfl,hS.pk [0,1,2,3]⟩
   ·
    exact Zel hf rfl
   ·
    exact hv2
  refine zx8<|(zV (xls 2 st_98 hS))<|zle (xsw 1 st_98 hS (hd:=(Za hvb.one (Za rfl Zi)))) ?_;clear hS;rintro w hS
  refine(zP)<|zx1<|Yo 1 st_98 hS ⟨_,rfl,?_⟩
  have him:i=p.m:=by omega
  subst him
  replace hS:=hS.recont 3 rfl (d:=ints (VN p).y) (fun k k0 k1=>congrArg (Value.int .i64) (hf k k0 (by omega)))
  exact⟨_,VN p,0,rfl,.inr ⟨hp,rfl,rfl⟩,hvb,hS.pk [3]⟩
theorem Zcz{p:Prob}(hf:∀k,0<=k->k<i->f k=UF p k)(h:p.stock+p.kerf<2*(p.L i+p.kerf)):∀k,0<=k->k<i+1->upd f i 1 k=UF p k:=fun k k0 k1=>by
  unfold upd
  by_cases e:k=i
  · rw [if_pos e,e];unfold UF;rw [if_pos h]
  · rw [if_neg e];exact hf k k0 (by omega)
theorem Zcy{p:Prob}(hf:∀k,0<=k->k<i->f k=UF p k)(hz:∀k,i<=k->f k=0)(h:¬p.stock+p.kerf<2*(p.L i+p.kerf)):∀k,0<=k->k<i+1->f k=UF p k:=fun k k0 k1=>by
  by_cases e:k=i
  · rw [e,hz i (Int.le_refl _)];unfold UF;rw [if_neg h]
  · exact hf k k0 (by omega)
theorem ZeM(hz:∀k,i<=k->f k=0):∀k,i+1<=k->upd f i 1 k=0:=fun k hk=>by
  unfold upd;rw [if_neg (by omega)];exact hz k (by omega)
theorem ZdT{vL:Value}{p:Prob}(w0:World)(h:PAt w0 vL vD p):
    Calls Tryz.prog 135 [.agg #[vL,vD,.int .i64 p.stock,.int .i64 p.kerf]].toArray w0 fun e w=>∃v,e= .returned v/\∃r c e,v= .tuple #[.agg #[r,.int .i64 (Ct.q c)],.int .i64 e]/\HalfR p c e/\Slh r c.n/\Sat w0 w [.own r 1 3 c.n (ints c.y)]:=by
  have hm:=h.L.slh.n0;have hm1:=h.L.slh.n1;have hd:=h.D.slh.n0;have hd1:=h.D.slh.n1;have hs:=h.is;have hk:=h.ik
  refine zenG Tryz.func135 Tryz.ntmps135 fun w hS=> ?_
  refine zsr<|zla (xbx (cs:= [_,_,_,_]) hS) ?_;rintro _ w ⟨g1,rfl,hS⟩
  refine zla (xal (cs:= [_,_]) UH hS) ?_;rintro _ w ⟨g2,rfl,hS⟩
  refine(zP)<|zx5<|(zV (xls 0 st_32 hS))<|zlc (xc0 XK) (Yb (p:=p) w (h.below hS.below)) ?_;rintro _ w ⟨rfl,hS'⟩
  replace hS:=hS.cmp hS';clear hS'
  refine(zP)<|zlt<|Zf ?_ ?_<;>intro hc
  ·
   refine zsr<|(zV (xany (v:= .agg #[.slice none 0 0,.int .i64 0])))<|zle (xsw 1 st_98 hS) ?_;clear hS;rintro w hS
   refine(zP)<|zx14<|Yo 1 st_98 hS ⟨_,rfl,?_⟩
   exact⟨_,Ct.zer,1,rfl,.inl ⟨‹¬p.Ok›,rfl,rfl⟩,slh_nil,(hS.sub (.cons _ (.cons _ .slnil))).addnil 1 3 (ints Ct.zer.y)⟩
  refine ZR<|zlv (xfb 0 fd_32_0) ?_
  have hp:p.Ok:=by first|assumption|exact Classical.not_not.1 ‹_›
  have hpm:=hp.m1;have qx:=hp.m2;have hpd:=hp.d;have hs1:=hp.s1;have hs2:=hp.s2;have hk1:=hp.k1;have hk2:=hp.k2
  refine(zV (xlb 0 pl_22 hS))<|(zV (xln Zb h.L.slh))<|zla (xmk Zb Zu hS) ?_;rintro v1 w ⟨hS,hv1⟩
  refine zlv (xany (v:= .agg #[v1,.int .i64 1]) (hr:=by obtain⟨_,_,_,_,rfl,_⟩:=hv1;kernel_rfl)) ?_
  refine zla (xal (cs:= [_,_]) UH hS) ?_;rintro _ w ⟨g3,rfl,hS⟩
  refine zle (xsw 3 st_98 hS (hd:=(Za hv1.one (Za rfl Zi)))) ?_;clear hS;rintro w hS
  refine zx5<|(zV (xfb 0 fd_32_0))<|(zV (xlb 0 pl_22 hS))<|(zV (xln Zb h.L.slh))<|(zP)<|zx6<|zlp (fun mm M w=>∃(f:Int->Int) (i:Int),mm=((p.m-i).toNat)/\(0<=i)/\(i<=p.m)/\(∀k,0<=k->k<i->f k=UF p k)/\(∀k,i<=k->f k=0)/\M= [(1,.pointer (some ⟨g1,0,none⟩)),(2,.pointer (some ⟨g2,0,none⟩)),(3,.int .i64 0),(4,.pointer (some ⟨g3,0,none⟩)),(17,vL),(18,.int .i64 p.m),(19,.int .i64 i)]/\Sat w0 w [.blk g1 [vL,vD,.int .i64 p.stock,.int .i64 p.kerf],.blk g2 [.slice none 0 0,.int .i64 0],.own v1 1 3 p.m (ints f),.blk g3 [v1,.int .i64 1]]) ⟨(fun _=>0),0,rfl,(by omega),(by omega),?_,?_,rfl,hS⟩ ?_
  ·
   intro k k0 k1;omega
  ·
   intro k _;rfl
  clear hS w
  rintro mm M w ⟨f,i,rfl,h0,h1,hf,hz,rfl,hS⟩
  refine zsr<|(zP)<|zx7<|Zf ?_ ?_<;>intro hc
  ·
   refine zx3<|(zP)<|(zV (xix (kk:=i) Zb h.L.slh))<|zlv (xlr (u:= .int .i64 (p.L i)) pl_3 (h.L.below hS.below)) ?_
   have hbv:=h.iL i
   have he:=hp.all i h0 (by omega);unfold Prob.each at he
   refine(zP)<|(zP)<|zlz<|(zP)<|(zV (xfb 3 fd_32_3))<|(zV (xlb 0 pl_3 hS))<|(zV (Zh (r:=p.L i+p.kerf)))<|(zV (Z6 (r:=2*p.L i+2*p.kerf)))<|(zV (xfb 2 fd_32_2))<|(zV (xlb 0 pl_3 hS))<|(zV (xfb 3 fd_32_3))<|(zV (xlb 0 pl_3 hS))<|(zV (Zh (r:=p.stock+p.kerf)))<|(zP)<|zlt<|Zf ?_ ?_<;>intro hc
   ·
    refine zrg<|(zV (xfb 0 fd_98_0))<|(zV (xlb 3 pl_22 hS))<|(zP)<|(zV (xix (kk:=i) Zb hv1))<|zle (xso 2 pl_3 hS (Zs _ _ _)) ?_;clear hS;rintro w hS
    refine zx10<|(zV (Zh (r:=i+1)))<|(zP)<|zln<|zlq ⟨(upd f i 1),i+1,rfl,(by omega),(by omega),?_,?_,rfl,hS⟩
    ·
     first|exact Zcz hf (by omega)|exact Zcy hf hz (by omega)
    ·
     first|exact ZeM hz|exact fun k hk=>hz k (by omega)
   refine zx4<|(zV (Zh (r:=i+1)))<|(zP)<|zln<|zlq ⟨f,i+1,rfl,(by omega),(by omega),?_,?_,rfl,hS⟩
   ·
    first|exact Zcz hf (by omega)|exact Zcy hf hz (by omega)
   ·
    first|exact ZeM hz|exact fun k hk=>hz k (by omega)
  refine zx8<|(zV (xls 3 st_98 hS))<|zle (xsw 1 st_98 hS (hd:=(Za hv1.one (Za rfl Zi)))) ?_;clear hS;rintro w hS
  refine(zP)<|zx1<|Yo 1 st_98 hS ⟨_,rfl,?_⟩
  have him:i=p.m:=by omega
  subst him
  replace hS:=hS.recont 2 rfl (d:=ints (ZeN p).y) (fun k k0 k1=>congrArg (Value.int .i64) (hf k k0 (by omega)))
  exact⟨_,ZeN p,0,rfl,.inr ⟨hp,rfl,rfl⟩,hv1,hS.pk [2]⟩
end Go.Proofs.YtkichmnjjblodaaGreat
namespace Go.Proofs.YtkichmnjjblodaaGreat
open Go Go.RowKit Go.Proofs.Gw
theorem ZiT:Zc Tryz.prog 47=true:=by kernel_rfl
theorem XP{P:Program}{fn:Func}{R:Ending->World->Prop}{w w0:World}{n:Nat}{L:List (Nat×Value)}{E:List Ent}(i:Nat){s t r g k:Nat}{T:TypeId}{u v:Value}{cs:List Value}(ht:Zz P T=some k)(hS:Sat w0 w E)(h:R (.returned (.tuple #[.agg cs.toArray,u,v])) w)(hr:fn.results= #[.cell s T,.tmp t,.tmp r]:=by exact rfl)(hs:lk L s=some (.pointer (some ⟨g,0,none⟩)):=by exact rfl)(hu:lk L t=some u:=by exact rfl)(hv:lk L r=some v:=by exact rfl)
    (hi:E[i]? =some (.blk g cs):=by exact rfl) (hk:cs.length=k:=by exact rfl):Ge n [] (bodyPost P fn R) .ret L w:=fun _ hF=>by
  refine⟨hF.defers,_,?_,h⟩
  subst hk
  obtain⟨h1,h2⟩:=Xd (w:=w) ht
  have h3:=run_loadCells_list (P:=P) w ⟨g,0,none⟩ cs (hS.holds _ (List.mem_of_getElem? hi)).cells
  have e0:=hF.get t _ hu
  have e1:=hF.get s _ hs
  have e2:=hF.get r _ hv
  rw [Array.getD_eq_getD_getElem?] at e0 e1 e2
  simp [results,hr,e0,e1,e2,asAddr,loadVar,h1,h2,h3]
noncomputable def WM(p:Prob)(b:Ct×Int)(c:Ct)(e:Int):Ct×Int:=if e=0/\Chk p c.n c.y c.q=0/\b.2<YW p c.n c.y c.q then(c,YW p c.n c.y c.q) else b
theorem Rl{p:Prob}{b c:Ct}{m e:Int}(h1:e=0)(h2:Chk p c.n c.y c.q=0)(h3:m<YW p c.n c.y c.q):(c,YW p c.n c.y c.q)=WM p (b,m) c e:=by
  unfold WM;rw [if_pos ⟨h1,h2,h3⟩]
theorem VL{p:Prob}{b c:Ct}{m e:Int}(h:¬(e=0/\Chk p c.n c.y c.q=0/\m<YW p c.n c.y c.q)):(b,m)=WM p (b,m) c e:=by
  unfold WM;rw [if_neg h]
def Zl5(p:Prob)(c:Ct)(m:Int):Prop:=∃c1 e1 c2 e2 c3 e3,MakeR p c1 e1/\MatCR p c2 e2/\HalfR p c3 e3/\(c,m)=WM p (WM p (WM p (Ct.zer,-1) c1 e1) c2 e2) c3 e3
def DBestR(p:Prob)(c:Ct)(m e:Int):Prop:=(¬p.Ok/\c=Ct.zer/\m=0/\e=1)\/(p.Ok/\e=0/\Zl5 p c m)
theorem KP{vL vD:Value}{p:Prob}{F:Gw.Frame}{gp gm gb:Nat}{b c:Ct}{most ee:Int}{vb vc:Value}(w0 w:World)(hS:Sat w0 w [.blk gp [vL,vD,.int .i64 p.stock,.int .i64 p.kerf],.blk gm [.int .i64 most],.blk gb [vb,.int .i64 b.q],.own vb 1 3 b.n (ints b.y),.own vc 1 3 c.n (ints c.y),.sem F])(h:PAt w0 vL vD p)(hvb:Slh vb b.n)(hvc:Slh vc c.n)(hq: -9223372036854775808<=c.q/\c.q<=9223372036854775807):
    Calls Tryz.prog 132 [.agg #[vc,.int .i64 c.q],.int .i64 ee,.pointer (some ⟨gp,0,none⟩),.pointer (some ⟨gm,0,none⟩),.pointer (some ⟨gb,0,none⟩)].toArray w fun e w=>∃v,e= .returned v/\v= .tuple #[]/\∃b2 m2 v2,(b2,m2)=WM p (b,most) c ee/\Slh v2 b2.n/\Sat w0 w [.blk gp [vL,vD,.int .i64 p.stock,.int .i64 p.kerf],.blk gm [.int .i64 m2],.blk gb [v2,.int .i64 b2.q],.own v2 1 3 b2.n (ints b2.y),.sem F]:=by
  have hm:=h.L.slh.n0;have hm1:=h.L.slh.n1;have hd:=h.D.slh.n0;have hd1:=h.D.slh.n1;have hs:=h.is;have hk:=h.ik
  refine zenF Tryz.func132 Tryz.ntmps132 ?_
  refine zsr<|zla (xbx (cs:= [_,_]) hS) ?_;rintro _ w ⟨g1,rfl,hS⟩
  refine zx5<|(zP)<|(zP)<|zlt<|Zf ?_ ?_<;>intro hc
  ·
   refine zrt<|ztr<|zf0 ⟨_,rfl,?_⟩
   exact⟨rfl,b,most,vb,VL (by rintro⟨h1,h2,h3⟩;omega),hvb,hS.pk [0,1,2,3,5]⟩
  refine ZR<|(zV (xls 0 st_32 hS))<|(zV (xls 6 st_98 hS))<|zlc (xc0 ZiT) (Zc3 (p:=p) w (h.below hS.below) (hS.rowN 4 rfl) (by omega)) ?_;rintro _ w ⟨rfl,hS'⟩
  replace hS:=hS.cmp hS';clear hS'
  refine zs5 ?_
  refine zlz<|(zP)<|(zP)<|(zP)<|zlb 19 ?_ ?_<;>intro hc
  ·
   refine(zP)<|(zV (xlb 1 pl_3 hS))<|(zP)<|(zP)<|zlt<|Zf ?_ ?_<;>intro hc
   ·
    refine zrg<|(zV (xls 6 st_98 hS))<|(zP)<|zle (xsw 2 st_98 hS (hd:=(Za hvc.one (Za rfl Zi)))) ?_;clear hS;rintro w hS
    refine zle (xsb 1 pl_3 hS) ?_;clear hS;rintro w hS
    refine zln<|XC ⟨_,rfl,?_⟩
    exact⟨rfl,c,_,vc,Rl (by omega) (by omega) (by omega),hvc,hS.pk [0,1,2,4,5]⟩
   refine zsk<|XC ⟨_,rfl,?_⟩
   exact⟨rfl,b,most,vb,VL (by rintro⟨h1,h2,h3⟩;omega),hvb,hS.pk [0,1,2,3,5]⟩
  iterate 3 refine zlo ?_
  refine(zP)<|zlt<|zcf<|zsk<|XC ⟨_,rfl,?_⟩
  exact⟨rfl,b,most,vb,VL (by rintro⟨h1,h2,h3⟩;omega),hvb,hS.pk [0,1,2,3,5]⟩
end Go.Proofs.YtkichmnjjblodaaGreat
namespace Go.Proofs.YtkichmnjjblodaaGreat
open Go Go.RowKit Go.Proofs.Gw
theorem ZbW:Zc Tryz.prog 132=true:=by kernel_rfl
theorem Zk0:Zc Tryz.prog 133=true:=by kernel_rfl
theorem ZkZ:Zc Tryz.prog 134=true:=by kernel_rfl
theorem ZkY:Zc Tryz.prog 135=true:=by kernel_rfl
theorem Zgr{vL vD:Value}{p:Prob}(w0:World)(h:PAt w0 vL vD p):
    Calls Tryz.prog 91 [.agg #[vL,vD,.int .i64 p.stock,.int .i64 p.kerf]].toArray w0 fun e w=>∃v,e= .returned v/\∃r c m e,v= .tuple #[.agg #[r,.int .i64 (Ct.q c)],.int .i64 m,.int .i64 e]/\DBestR p c m e/\Slh r c.n/\Sat w0 w [.own r 1 3 c.n (ints c.y)]:=by
  have hm:=h.L.slh.n0;have hm1:=h.L.slh.n1;have hd:=h.D.slh.n0;have hd1:=h.D.slh.n1;have hs:=h.is;have hk:=h.ik
  refine zenG Tryz.func91 Tryz.ntmps91 fun w hS=> ?_
  refine zsr<|zla (xbx (cs:= [_,_,_,_]) hS) ?_;rintro _ w ⟨g1,rfl,hS⟩
  refine zla (xal (cs:= [_,_]) UH hS) ?_;rintro _ w ⟨g2,rfl,hS⟩
  refine(zP)<|(zP)<|zx5<|(zV (xls 0 st_32 hS))<|zlc (xc0 XK) (Yb (p:=p) w (h.below hS.below)) ?_;rintro _ w ⟨rfl,hS'⟩
  replace hS:=hS.cmp hS';clear hS'
  refine(zP)<|zlt<|Zf ?_ ?_<;>intro hc
  ·
   refine zsr<|(zV (xany (v:= .agg #[.slice none 0 0,.int .i64 0])))<|zle (xsw 1 st_98 hS) ?_;clear hS;rintro w hS
   refine(zP)<|(zP)<|zx14<|XP 1 st_98 hS ⟨_,rfl,?_⟩
   exact⟨_,Ct.zer,0,1,rfl,.inl ⟨‹¬p.Ok›,rfl,rfl,rfl⟩,slh_nil,(hS.sub (.cons _ (.cons _ .slnil))).addnil 1 3 (ints Ct.zer.y)⟩
  refine ZR<|zla (xal (cs:= [_,_]) UH hS) ?_;rintro _ w ⟨g3,rfl,hS⟩
  refine zlz<|zla (xal (cs:= [_]) Zu hS) ?_;rintro _ w ⟨g4,rfl,hS⟩
  refine zle (xsb 3 pl_3 hS) ?_;clear hS;rintro w hS
  refine zlz<|zlv xmf ?_
  replace hS:=hS.addnil 1 3 (ints Ct.zer.y)
  have hp:p.Ok:=by first|assumption|exact Classical.not_not.1 ‹_›
  have hpm:=hp.m1;have qx:=hp.m2;have hpd:=hp.d;have hs1:=hp.s1;have hs2:=hp.s2;have hk1:=hp.k1;have hk2:=hp.k2
  refine(zP)<|zlz<|(zP)<|(zV (xls 0 st_32 hS))<|zlc (xc0 Zk0) (Zgc (p:=p) w (h.below hS.below)) ?_;rintro _ w ⟨dg,f8,fZ,rfl,bg,cn,hS'⟩
  replace hS:=(hS.comp hS').n6;clear hS'
  refine(zP)<|(zP)<|zlc (xcc (vs:= [_,_]) ZbW) (KP (p:=p) (b:=Ct.zer) (c:=f8) (most:=(-1)) (ee:=fZ) (vb:=(.slice none 0 0)) (vc:=dg) w0 w (Sat.bundle (l1:= [_,_,_,_,_]) (hS.pk [0,3,2,4,5,1])) h slh_nil cn (by have h9:=bg.q;omega)) ?_;rintro _ w ⟨rfl,eT,dC,dk,d7,cr,hS⟩
  replace hS:=Sat.unbundle (l1:= [_,_,_,_]) (l3:= []) hS
  refine zlz<|(zP)<|(zV (xls 0 st_32 hS))<|zlc (xc0 ZkZ) (Zgb (p:=p) w (h.below hS.below)) ?_;rintro _ w ⟨df,f7,fW,rfl,bf,cm,hS'⟩
  replace hS:=(hS.comp hS').n6;clear hS'
  refine(zP)<|(zP)<|zlc (xcc (vs:= [_,_]) ZbW) (KP (p:=p) (b:=eT) (c:=f7) (most:=dC) (ee:=fW) (vb:=dk) (vc:=df) w0 w (Sat.bundle (l1:= [_,_,_,_,_]) (hS.pk [0,1,2,3,5,4])) h cr cm (by have h9:=bf.q;omega)) ?_;rintro _ w ⟨rfl,eS,dB,di,dZ,cq,hS⟩
  replace hS:=Sat.unbundle (l1:= [_,_,_,_]) (l3:= []) hS
  refine zlz<|(zP)<|(zV (xls 0 st_32 hS))<|zlc (xc0 ZkY) (ZdT (p:=p) w (h.below hS.below)) ?_;rintro _ w ⟨de,f6,fU,rfl,bc,cl,hS'⟩
  replace hS:=(hS.comp hS').n6;clear hS'
  refine(zP)<|(zP)<|zlc (xcc (vs:= [_,_]) ZbW) (KP (p:=p) (b:=eS) (c:=f6) (most:=dB) (ee:=fU) (vb:=di) (vc:=de) w0 w (Sat.bundle (l1:= [_,_,_,_,_]) (hS.pk [0,1,2,3,5,4])) h cq cl (by have h9:=bc.q;omega)) ?_;rintro _ w ⟨rfl,jp,gE,gB,dY,aH,hS⟩
  replace hS:=Sat.unbundle (l1:= [_,_,_,_]) (l3:= []) hS
  refine zx7<|zdst [0,1,2,3,4] [0,1,2,3] 2 mx_ hS ?_;clear hS;intro w hS
  refine(zDl 0 (fun w hS=>(xls 2 st_98 hS)))<|(zDl 1 (fun w hS=>(xlb 1 pl_3 hS)))<|zde 2 (xsw 4 st_98 hS (hd:=(Za aH.one (Za rfl Zi)))) ?_;clear hS;rintro w hS
  refine⟨⟨fun h=>absurd h (by decide),hS.pk [0,1,2,3]⟩,?_⟩
  refine(zDw 3 xas)<|(zDw 4 xas)<|zdd<|ztn<|zrt<|XP 4 st_98 hS ⟨_,rfl,?_⟩
  exact⟨_,_,_,0,rfl,.inr ⟨hp,rfl,_,_,_,_,_,_,bg,bf,bc,(by rw [dY,dZ,d7])⟩,aH,hS.pk [3]⟩
end Go.Proofs.YtkichmnjjblodaaGreat
namespace Go.Proofs.Gw
open Go Go.RowKit
variable {i k lo need w:Int} {a x:Int->Int}
def dn{α:Type}(F:Int->List α)(lo:Int):Nat->List α
  |0=> []
  |c+1=>F (lo+c)++dn F lo c
theorem XZ{α:Type}(F:Int->List α)(h:lo<=k):dn F lo (k+1-lo).toNat=F k++dn F lo (k-lo).toNat:=by
  rw [show(k+1-lo).toNat=(k-lo).toNat+1 by omega]
  simp only [dn]
  rw [show lo+((k-lo).toNat:Int)=k by omega]
theorem ZjR{α:Type}(F:Int->List α)(h:k<lo):dn F lo (k+1-lo).toNat= []:=by
  rw [show(k+1-lo).toNat=0 by omega];rfl
theorem Zfh{α:Type}{F:Int->List α}{lo:Int}:∀{c:Nat},(∀k,lo<=k->k<lo+c->F k= [])->dn F lo c= []
  |0,_=>rfl
  | c+1,h=>by
    simp only [dn]
    rw [h _ (by omega) (by omega),Zfh fun k h0 h1=>h k h0 (by omega)];rfl
theorem ZeB{α:Type}{F:Int->List α}{lo:Int}{x:α}:∀{c:Nat},x∈dn F lo c->∃k,lo<=k/\k<lo+c/\x∈F k
  |0,h=>by cases h
  | c+1,h=>by
    simp only [dn,List.mem_append] at h
    rcases h with h|h
    · exact⟨_,by omega,by omega,h⟩
    · obtain⟨k,h1,h2,h3⟩:=ZeB h;exact⟨k,h1,by omega,h3⟩
theorem Zfi{α:Type}{F:Int->List α}{lo k:Int}{x:α}:∀{c:Nat},lo<=k->k<lo+c->x∈F k->x∈dn F lo c
  |0,h0,h1,h=>by omega
  | c+1,h0,h1,h=>by
    simp only [dn,List.mem_append]
    by_cases e:k=lo+c
    · subst e;exact .inl h
    · exact .inr (Zfi h0 (by omega) h)
def K1(p:Prob)(a:Int->Int)(l:Int):Prop:=(∃i,0<=i/\i<p.m/\0<a i)/\∀i,0<=i->i<p.m->a i<p.D i->l<p.L i+p.kerf
def least(w i:Int):Int:=if w=i then 1 else 0
noncomputable def ext(p:Prob)(w:Int):Nat->(Int->Int)->Int->List (Int->Int)
  |0,a,l=> @ite _ (K1 p a l) (Classical.propDecidable _) [a] []
  | j +1,a,l=>dn (fun k=>ext p w j (upd a (p.m-((j:Int)+1)) k) (l-k*(p.L (p.m-((j:Int)+1))+p.kerf))) (least w (p.m-((j:Int)+1)))
      (min (p.D (p.m-((j:Int)+1))) (l.tdiv (p.L (p.m-((j:Int)+1))+p.kerf))+1-least w (p.m-((j:Int)+1))).toNat
noncomputable def exI(p:Prob)(w i:Int)(a:Int->Int)(l:Int):List (Int->Int):=ext p w (p.m-i).toNat a l
def most(p:Prob)(i l:Int):Int:=min (p.D i) (l.tdiv (p.L i+p.kerf))
theorem W9{p:Prob}{l:Int}(hi:i=p.m)(h:K1 p a l):exI p w i a l= [a]:=by
  unfold exI;rw [show(p.m-i).toNat=0 by omega]
  show @ite _ (K1 p a l) (Classical.propDecidable _) [a] []=_
  rw [if_pos h]
theorem Uo{p:Prob}{l:Int}(hi:i=p.m)(h:¬K1 p a l):exI p w i a l= []:=by
  unfold exI;rw [show(p.m-i).toNat=0 by omega]
  show @ite _ (K1 p a l) (Classical.propDecidable _) [a] []=_
  rw [if_neg h]
noncomputable def kid(p:Prob)(w i:Int)(a:Int->Int)(l:Int)(k:Int):List (Int->Int):=exI p w (i+1) (upd a i k) (l-k*(p.L i+p.kerf))
theorem XJ{p:Prob}{l:Int}(h0:0<=i)(h1:i<p.m):exI p w i a l=dn (kid p w i a l) (least w i) (most p i l+1-least w i).toNat:=by
  unfold exI
  obtain⟨j,hj⟩:∃j:Nat,(p.m-i).toNat=j+1:=⟨(p.m-i).toNat-1,by omega⟩
  have e:p.m-((j:Int)+1)=i:=by omega
  rw [hj]
  simp only [ext]
  rw [e]
  have e2:(fun k=>ext p w j (upd a i k) (l-k*(p.L i+p.kerf)))=kid p w i a l:=by
    funext k
    unfold kid exI
    rw [show(p.m-(i+1)).toNat=j by omega]
  rw [e2];rfl
noncomputable def MX(p:Prob)(w:Int):List (Int->Int):=exI p w 0 (fun _=>0) (p.stock+p.kerf)
structure Pfx (p:Prob) (i:Int) (a:Int->Int) (l:Int):Prop where
  rng:∀k,0<=k->k<i->0<=a k/\a k<=p.D k
  zero:∀k,k<0\/i<=k->a k=0
  left:l=p.stock+p.kerf-Zy p a i.toNat
  l0:0<=l
theorem Pfx.start{p:Prob}(hp:p.Ok):Pfx p 0 (fun _=>0) (p.stock+p.kerf):=
  ⟨fun k h0 h1=>by omega,fun _ _=>rfl,by show _=_-Zd _ 0;simp [Zd],by have:=hp.s1;have:=hp.k1;omega⟩
theorem XH{p:Prob}(hp:p.Ok){l:Int}(h0:0<=i)(h1:i<p.m)(hl:0<=l)(k0:0<=k)(k1:k<=most p i l):k<=p.D i/\0<=k*(p.L i+p.kerf)/\k*(p.L i+p.kerf)<=l:=by
  have he:=hp.all i h0 h1
  unfold Prob.each at he
  have hk:=hp.k1
  unfold most at k1
  have h2:k<=l.tdiv (p.L i+p.kerf):=by omega
  rw [Int.tdiv_eq_ediv_of_nonneg hl] at h2
  exact⟨by omega,Int.mul_nonneg k0 (by omega),(Int.le_ediv_iff_mul_le (by omega)).1 h2⟩
theorem Zea{p:Prob}(h0:0<=i):Zy p (upd a i k) (i+1).toNat=Zy p a i.toNat+k*(p.L i+p.kerf):=by
  have e:Zy p (upd a i k) (i+1).toNat=Zy p (upd a i k) i.toNat+upd a i k i*(p.L i+p.kerf):=ZJ _ h0
  rw [e,Zk]
  congr 1
  exact Zj fun j j0 j1=>by rw [upd_ne _ _ (by omega)]
theorem Pfx.step{p:Prob}(hp:p.Ok){l:Int}(h:Pfx p i a l)(h0:0<=i)(h1:i<p.m)(k0:0<=k)(k1:k<=most p i l):Pfx p (i+1) (upd a i k) (l-k*(p.L i+p.kerf)):=by
  obtain⟨g1,g2,g3⟩:=XH hp h0 h1 h.l0 k0 k1
  refine⟨fun j j0 j1=> ?_,fun j hj=> ?_,by rw [Zea h0,h.left];omega,by omega⟩
  · by_cases e:j=i
    · rw [e,Zk];exact⟨k0,g1⟩
    · rw [upd_ne _ _ e];exact h.rng j j0 (by omega)
  · rw [upd_ne _ _ (by omega)];exact h.zero j (by omega)
structure MPat (p:Prob) (w:Int) (x:Int->Int):Prop where
  rng:∀k,0<=k->k<p.m->0<=x k/\x k<=p.D k
  zero:∀k,k<0\/p.m<=k->x k=0
  used:Zy p x p.m.toNat<=p.stock+p.kerf
  maxi:K1 p x (p.stock+p.kerf-Zy p x p.m.toNat)
theorem ZcH{p:Prob}(hp:p.Ok){w:Int}:∀(j:Nat) {i l:Int} {a x:Int->Int},(p.m-i).toNat=j->0<=i->i<=p.m->Pfx p i a l->x∈exI p w i a l->MPat p w x/\(∀k,k<i->x k=a k)/\(i<=w->w<p.m->1<=x w)
  | 0,i,l,a,x,hj,h0,h1,h,hx=>by
    have hi:i=p.m:=by omega
    by_cases hm:K1 p a l
    · rw [W9 hi hm,List.mem_singleton] at hx
      subst hx
      have hl:=h.left;have hl0:=h.l0
      rw [hi] at hl
      refine⟨⟨fun k k0 k1=>h.rng k k0 (by omega),fun k hk=>h.zero k (by omega),by omega,?_⟩,fun _ _=>rfl,fun _ _=>by omega⟩
      rw [<-hl];exact hm
    · rw [Uo hi hm] at hx;cases hx
  | j +1,i,l,a,x,hj,h0,h1,h,hx=>by
    rw [XJ h0 (by omega)] at hx
    obtain⟨k,k0,k1,hk⟩:=ZeB hx
    have hle:0<=least w i:=by unfold least;split<;>omega
    have hs:=h.step hp h0 (by omega) (k:=k) (by omega) (by omega)
    obtain⟨g1,g2,g3⟩:=ZcH hp j (by omega) (by omega) (by omega) hs hk
    refine⟨g1,fun q hq=>by rw [g2 q (by omega),upd_ne _ _ (by omega)],fun hw hw2=> ?_⟩
    by_cases e:w=i
    · have:=g2 w (by omega)
      rw [e,Zk] at this
      rw [e,this]
      unfold least at k0;rw [if_pos e] at k0;exact k0
    · exact g3 (by omega) hw2
theorem ZgG{p:Prob}(hp:p.Ok)(h:x∈MX p w):MPat p w x/\(0<=w->w<p.m->1<=x w):=by
  have:=hp.m1
  obtain⟨h1,_,h3⟩:=ZcH hp _ rfl (Int.le_refl 0) (by omega) (Pfx.start hp) h
  exact⟨h1,h3⟩
def Lat(p:Prob):Nat->Int
  |0=>0
  |j+1=>Lat p j+p.D (p.m-((j:Int)+1))*(p.L (p.m-((j:Int)+1))+p.kerf)
def Xv(p:Prob)(i:Int):Int:=Lat p (p.m-i).toNat
theorem LatI_end{p:Prob}(h:p.m<=i):Xv p i=0:=by unfold Xv;rw [show(p.m-i).toNat=0 by omega];rfl
theorem Uy{p:Prob}(h0:0<=i)(h1:i<p.m):Xv p i=Xv p (i+1)+p.D i*(p.L i+p.kerf):=by
  unfold Xv
  obtain⟨j,hj⟩:∃j:Nat,(p.m-i).toNat=j+1:=⟨(p.m-i).toNat-1,by omega⟩
  rw [hj,show(p.m-(i+1)).toNat=j by omega]
  simp only [Lat]
  rw [show p.m-((j:Int)+1)=i by omega]
theorem Zbm{p:Prob}(hp:p.Ok):∀(j:Nat) {i:Int},(p.m-i).toNat=j->0<=i->i<=p.m->0<=Xv p i/\Xv p i<=(p.m-i)*2100000
  |0,i,hj,h0,h1=>by rw [LatI_end (by omega),show p.m-i=0 by omega];omega
  | j+1,i,hj,h0,h1=>by
    have ih:=Zbm hp j (i:=i+1) (by omega) (by omega) (by omega)
    rw [Uy h0 (by omega)]
    have he:=hp.all i h0 (by omega)
    unfold Prob.each at he
    have:=hp.k1;have:=hp.k2;have:=hp.s2
    have a1:=Int.mul_nonneg he.2.2.2.1 (show 0<=p.L i+p.kerf by omega)
    have a2:p.D i*(p.L i+p.kerf)<=1000*2100:=Int.mul_le_mul he.2.2.2.2 (by omega) (by omega) (by omega)
    have e:(p.m-i)*2100000=(p.m-(i+1))*2100000+2100000:=by omega
    omega
theorem K7{p:Prob}(hp:p.Ok)(h0:0<=i):0<=Xv p i/\Xv p i<=42000000:=by
  by_cases h:i<=p.m
  · have:=Zbm hp _ rfl h0 h;have:=hp.m2;omega
  · rw [LatI_end (by omega)];omega
structure NeedP (p:Prob) (a:Int->Int) (i need:Int):Prop where
  top:need<=p.stock+p.kerf+1
  all:∀k,0<=k->k<i->a k<p.D k->need<=p.L k+p.kerf
  ex:need=p.stock+p.kerf+1\/∃k,0<=k/\k<i/\a k<p.D k/\p.L k+p.kerf=need
theorem NeedP.start(p:Prob):NeedP p (fun _=>0) 0 (p.stock+p.kerf+1):=⟨Int.le_refl _,fun k h0 h1=>by omega,.inl rfl⟩
theorem NeedP.yes{p:Prob}(h:NeedP p a i need)(h0:0<=i)(hk:k<p.D i):NeedP p (upd a i k) (i+1) (min need (p.L i+p.kerf)):=by
  refine⟨by have:=h.top;omega,fun j j0 j1 hj=> ?_,?_⟩
  · by_cases e:j=i
    · rw [e];omega
    · rw [upd_ne _ _ e] at hj
      have:=h.all j j0 (by omega) hj;omega
  · by_cases hm:need<=p.L i+p.kerf
    · rw [Int.min_eq_left hm]
      rcases h.ex with h2|⟨j,j0,j1,j2,j3⟩
      · exact .inl h2
      · exact .inr ⟨j,j0,by omega,by rw [upd_ne _ _ (by omega)];exact j2,j3⟩
    · rw [Int.min_eq_right (by omega)]
      exact .inr ⟨i,h0,by omega,by rw [Zk];exact hk,rfl⟩
theorem NeedP.no{p:Prob}(h:NeedP p a i need)(h0:0<=i)(hk:¬k<p.D i):NeedP p (upd a i k) (i+1) need:=by
  refine⟨h.top,fun j j0 j1 hj=> ?_,?_⟩
  · by_cases e:j=i
    · rw [e,Zk] at hj;exact absurd hj hk
    · rw [upd_ne _ _ e] at hj
      exact h.all j j0 (by omega) hj
  · rcases h.ex with h2|⟨j,j0,j1,j2,j3⟩
    · exact .inl h2
    · exact .inr ⟨j,j0,by omega,by rw [upd_ne _ _ (by omega)];exact j2,j3⟩
theorem ZcI{p:Prob}(hp:p.Ok){w:Int}:∀(j:Nat) {i l:Int} {a:Int->Int},(p.m-i).toNat=j->0<=i->i<=p.m->0<=l->(∃k,0<=k/\k<i/\a k<p.D k/\p.L k+p.kerf<=l-Xv p i)->exI p w i a l= []
  | 0,i,l,a,hj,h0,h1,hl,⟨k,k0,k1,k2,k3⟩=>by
    refine Uo (by omega) fun hm=> ?_
    rw [LatI_end (by omega)] at k3
    have:=hm.2 k k0 (by omega) k2
    omega
  | j+1,i,l,a,hj,h0,h1,hl,⟨k,k0,k1,k2,k3⟩=>by
    rw [XJ h0 (by omega)]
    have hle:0<=least w i:=by unfold least;split<;>omega
    refine Zfh fun c c0 c1=> ?_
    obtain⟨g1,g2,g3⟩:=XH hp h0 (by omega) hl (k:=c) (by omega) (by omega)
    refine ZcI hp j (by omega) (by omega) (by omega) (by omega) ⟨k,k0,by omega,by rw [upd_ne _ _ (by omega)];exact k2,?_⟩
    rw [Uy h0 (by omega)] at k3
    have he:=hp.all i h0 (by omega)
    unfold Prob.each at he
    have:=hp.k1
    have:c*(p.L i+p.kerf)<=p.D i*(p.L i+p.kerf):=Int.mul_le_mul_of_nonneg_right g1 (by omega)
    omega
theorem Zcj{p:Prob}(hp:p.Ok){l:Int}(h0:0<=i)(h1:i<=p.m)(h:Pfx p i a l)(hn:NeedP p a i need)(hg:need<=l-Xv p i):exI p w i a l= []:=by
  refine ZcI hp _ rfl h0 h1 h.l0 ?_
  have hL:=(K7 hp h0).1
  have hu:0<=Zy p a i.toNat:=Z7 fun j j0 j1=>by
    have:=h.rng j j0 (by omega)
    have he:=hp.all j j0 (by omega)
    unfold Prob.each at he
    have:=hp.k1
    exact Int.mul_nonneg (by omega) (by omega)
  have hl:=h.left
  rcases hn.ex with h2|⟨k,k0,k1,k2,k3⟩
  · omega
  · exact⟨k,k0,k1,k2,by omega⟩
theorem Wb{p:Prob}{l:Int}(hi:i=p.m)(hn:NeedP p a i need)(hl:l<need)(hz:∃k,0<=k/\k<p.m/\0<a k):exI p w i a l= [a]:=
  W9 hi ⟨hz,fun k k0 k1 hk=>by have:=hn.all k k0 (by omega) hk;omega⟩
theorem UT{p:Prob}{l:Int}(hi:i=p.m)(hz:¬∃k,0<=k/\k<p.m/\0<a k):exI p w i a l= []:=
  Uo hi fun h=>hz h.1
def YA(l:List (Int->Int))(k:Int):Int->Int:=l.getD k.toNat (fun _=>0)
def Ls(m u:Int)(f:Int->Int->Int)(l:List (Int->Int)):Prop:=u=l.length/\∀k,0<=k->k<u->∀j,0<=j->j<m->f k j=YA l k j
theorem Ls.nil{m:Int}{f:Int->Int->Int}:Ls m 0 f []:=⟨rfl,fun k h0 h1=>by omega⟩
theorem Zg5{l m:List (Int->Int)}(h0:0<=k)(h1:k<l.length):YA (l++m) k=YA l k:=by
  unfold YA;rw [List.getD_eq_getElem?_getD,List.getD_eq_getElem?_getD,List.getElem?_append_left (by omega)]
theorem Zg6{l:List (Int->Int)}(h:k=l.length):YA (l++ [x]) k=x:=by
  unfold YA;rw [List.getD_eq_getElem?_getD,h,Int.toNat_natCast,List.getElem?_append_right (Nat.le_refl _)];simp
theorem Zaz{l:List (Int->Int)}(h0:0<=k)(h1:k<l.length):YA l k∈l:=by
  unfold YA
  have:k.toNat<l.length:=by omega
  rw [List.getD_eq_getElem?_getD,List.getElem?_eq_getElem this];exact List.getElem_mem this
theorem Ls.snoc{m u:Int}{f:Int->Int->Int}{l:List (Int->Int)}{g:Int->Int}(h:Ls m u f l)(hg:∀j,0<=j->j<m->g j=x j):Ls m (u+1) (gsn f u g) (l++ [x]):=by
  obtain⟨h1,h2⟩:=h
  refine⟨by simp [h1],fun k k0 k1 j j0 j1=> ?_⟩
  by_cases e:k<u
  · rw [Zx e,h2 k k0 e j j0 j1,Zg5 k0 (by omega)]
  · rw [ZL e,Zg6 (by omega)];exact hg j j0 j1
end Go.Proofs.Gw
namespace Go.Proofs.YtkichmnjjblodaaGreat
open Go Go.RowKit Go.Proofs.Gw
variable {f:Int->Int}
theorem TZ{p:Prob}{f:Int->Int}{i:Int}(h0:0<=i):∀{n:Nat},i<(n:Int)->Zy p (upd f i (f i+1)) n=Zy p f n+(p.L i+p.kerf)
  |0,h=>by omega
  | n +1,h=>by
    show Zd _ (n+1)=Zd _ (n+1)+_
    simp only [Zd]
    by_cases e:i=n
    · subst e
      have:Zd (fun j=>upd f (n:Int) (f n+1) j*(p.L j+p.kerf)) n=Zd (fun j=>f j*(p.L j+p.kerf)) n:=Zj fun j j0 j1=>by rw [upd_ne _ _ (by omega)]
      rw [this,Zk,Int.add_mul,Int.one_mul];omega
    · have ih:=TZ (p:=p) (f:=f) h0 (n:=n) (by omega)
      unfold Zy at ih
      rw [ih,upd_ne _ _ (fun h=>e h.symm)];omega
theorem XT{p:Prob}(hp:p.Ok)(hr:∀k,0<=k->k<p.m->0<=f k/\f k<=p.D k){i:Int}(h0:0<=i)(h1:i<p.m):Z8 p p.m (upd f i (f i+1))↔f i<p.D i/\p.L i+p.kerf<=p.stock+p.kerf-Zy p f p.m.toNat:=by
  have hu:Zy p (upd f i (f i+1)) p.m.toNat=Zy p f p.m.toNat+(p.L i+p.kerf):=TZ h0 (by omega)
  have hri:=hr i h0 h1
  constructor
  · rintro⟨hf,h2⟩
    have h3:=h2 i h0 h1
    rw [Zk] at h3
    have h4:=hf.used
    exact⟨by omega,by omega⟩
  · rintro⟨h2,h3⟩
    have hk:∀k,0<=k->k<p.m->0<=upd f i (f i+1) k/\upd f i (f i+1) k<=p.D k:=fun k k0 k1=>by
      by_cases e:k=i
      · rw [e,Zk];omega
      · rw [upd_ne _ _ e];exact hr k k0 k1
    exact⟨⟨hp,rfl,fun k k0 k1=>(by have:=hk k k0 k1;have he:=hp.all k k0 k1;unfold Prob.each at he;omega),by rw [hu];omega⟩,fun k k0 k1=>(hk k k0 k1).2⟩
theorem ZhX{vL vD:Value}{p:Prob}{vA:Value}{n:Int}(w0:World)(h:PAt w0 vL vD p)(hp:p.Ok)(hA:Row w0 vA 1 n (ints f))(hnm:n=p.m)(hr:∀k,0<=k->k<p.m->0<=f k/\f k<=p.D k):
    Calls Tryz.prog 115 [.agg #[vL,vD,.int .i64 p.stock,.int .i64 p.kerf],vA].toArray w0 fun e w=>∃v,e= .returned v/\v=B (K1 p f (p.stock+p.kerf-Zy p f p.m.toNat))/\Sat w0 w []:=by
  subst hnm
  have hm:=h.L.slh.n0;have hm1:=h.L.slh.n1;have hd:=h.D.slh.n0;have hd1:=h.D.slh.n1;have hs:=h.is;have hk:=h.ik
  have hn:=hA.slh.n0;have hn1:=hA.slh.n1
  have hpm:=hp.m1;have qx:=hp.m2;have hpd:=hp.d;have hs1:=hp.s1;have hs2:=hp.s2;have hk1:=hp.k1;have hk2:=hp.k2
  refine zenG Tryz.func115 Tryz.ntmps115 fun w hS=> ?_
  refine zsr<|zla (xbx (cs:= [_,_,_,_]) hS) ?_;rintro _ w ⟨g1,rfl,hS⟩
  refine(zP)<|zlz<|(zP)<|RY 5 (u:=B (∃j,0<=j/\j<0/\0<f j)) (Ze fun⟨j,j0,j1,_⟩=>by omega) ?_
  refine zx5<|(zP)<|zx6<|zlp (fun mm M w=>∃(i:Int),mm=((p.m-i).toNat)/\(0<=i)/\(i<=p.m)/\(∀k,0<=k->k<i->f k<p.D k->p.stock+p.kerf-Zy p f p.m.toNat<p.L k+p.kerf)/\M= [(1,vA),(2,.pointer (some ⟨g1,0,none⟩)),(5,B (∃j,0<=j/\j<i/\0<f j)),(6,.int .i64 i)]/\Sat w0 w [.blk g1 [vL,vD,.int .i64 p.stock,.int .i64 p.kerf]]) ⟨0,rfl,(by omega),(by omega),?_,rfl,hS⟩ ?_
  ·
   intro k k0 k1;omega
  clear hS w
  rintro mm M w ⟨i,rfl,h0,h1,qa,rfl,hS⟩
  refine zx11<|(zP)<|(zP)<|(zV (xln Zb hA.slh))<|(zP)<|zlt<|Zf ?_ ?_<;>intro hc
  ·
   refine zx3<|(zP)<|(zP)<|zlb 15 ?_ ?_<;>intro hc
   ·
    iterate 5 refine zlo ?_
    refine(zP)<|RY 21 (u:=B (∃j,0<=j/\j<(i+1)/\0<f j)) (ZX (by first|(obtain⟨j,j0,j1,j2⟩:=‹∃j,0<=j/\j<i/\0<f j›;exact⟨j,j0,by omega,j2⟩)|exact⟨i,by omega,by omega,by omega⟩)) ?_
    refine(zP)<|zlz<|zla (xl0 (c:=ints f) Zb hS) ?_;rintro v1 w ⟨hS,hv1⟩
    refine(zP)<|zla (xap 1 (r:=p.m) (f:=ints f) Zb Zu hS (hA.below hS.below) (by exact ZU _ _)) ?_;rintro v2 w ⟨hS,hv2⟩
    have hri:=hr i h0 (by omega);have hei:=hp.all i h0 (by omega);unfold Prob.each at hei
    refine(zP)<|zlz<|(zP)<|(zP)<|(zV (xix (kk:=i) Zb hv2))<|(zV (xlr (u:= .int .i64 (f i)) pl_3 (hS.rowN 1 rfl)))<|(zV (Zh (r:=f i+1)))<|(zV (xix (kk:=i) Zb hv2))<|zle (xso 1 pl_3 hS (Zs _ _ _)) ?_;clear hS;rintro w hS
    refine zlz<|(zV (xls 0 st_24 hS))<|(zP)<|zlc (xc0 ZfD) (UJ (p:=p) w (h.below hS.below) (hS.rowN 1 rfl)) ?_;rintro _ w ⟨rfl,hS'⟩
    replace hS:=hS.cmp hS';clear hS'
    refine zlt<|Zf ?_ ?_<;>intro hc
    ·
     refine zsr<|(zP)<|zx2<|zf1 ⟨_,rfl,?_⟩
     exact⟨Ze fun hm=>by have h9:=(XT hp hr h0 (by omega)).1 ‹_›;have:=hm.2 i h0 (by omega) h9.1;omega,hS.nl⟩
    refine zx4<|(zP)<|(zV (Zh (r:=i+1)))<|(zP)<|zln<|zlq ⟨i+1,rfl,(by omega),(by omega),?_,rfl,hS.pk [0]⟩
    ·
     intro k k0 k1 hk;rcases Int.lt_or_eq_of_le (show k<=i by omega) with hj|hj
     · exact qa k k0 hj hk
     · subst hj;have h9:=(not_congr (XT hp hr h0 (by omega))).1 ‹_›;omega
   refine(zP)<|(zP)<|(zV (xix (kk:=i) Zb hA.slh))<|(zV (xlr (u:= .int .i64 (f i)) pl_3 (hA.below hS.below)))<|(zP)<|(zP)<|RY 21 (u:=B (∃j,0<=j/\j<(i+1)/\0<f j)) (Zm ⟨fun hh=>⟨i,by omega,by omega,hh⟩,fun⟨j,j0,j1,j2⟩=>by by_cases e:j=i;exact e▸j2;exact absurd ⟨j,j0,by omega,j2⟩ ‹¬(∃j,0<=j/\j<i/\0<f j)›⟩) ?_
   refine(zP)<|zlz<|zla (xl0 (c:=ints f) Zb hS) ?_;rintro v3 w ⟨hS,hv3⟩
   refine(zP)<|zla (xap 1 (r:=p.m) (f:=ints f) Zb Zu hS (hA.below hS.below) (by exact ZU _ _)) ?_;rintro v4 w ⟨hS,hv4⟩
   have hri:=hr i h0 (by omega);have hei:=hp.all i h0 (by omega);unfold Prob.each at hei
   refine(zP)<|zlz<|(zP)<|(zP)<|(zV (xix (kk:=i) Zb hv4))<|(zV (xlr (u:= .int .i64 (f i)) pl_3 (hS.rowN 1 rfl)))<|(zV (Zh (r:=f i+1)))<|(zV (xix (kk:=i) Zb hv4))<|zle (xso 1 pl_3 hS (Zs _ _ _)) ?_;clear hS;rintro w hS
   refine zlz<|(zV (xls 0 st_24 hS))<|(zP)<|zlc (xc0 ZfD) (UJ (p:=p) w (h.below hS.below) (hS.rowN 1 rfl)) ?_;rintro _ w ⟨rfl,hS'⟩
   replace hS:=hS.cmp hS';clear hS'
   refine zlt<|Zf ?_ ?_<;>intro hc
   ·
    refine zsr<|(zP)<|zx2<|zf1 ⟨_,rfl,?_⟩
    exact⟨Ze fun hm=>by have h9:=(XT hp hr h0 (by omega)).1 ‹_›;have:=hm.2 i h0 (by omega) h9.1;omega,hS.nl⟩
   refine zx4<|(zP)<|(zV (Zh (r:=i+1)))<|(zP)<|zln<|zlq ⟨i+1,rfl,(by omega),(by omega),?_,rfl,hS.pk [0]⟩
   ·
    intro k k0 k1 hk;rcases Int.lt_or_eq_of_le (show k<=i by omega) with hj|hj
    · exact qa k k0 hj hk
    · subst hj;have h9:=(not_congr (XT hp hr h0 (by omega))).1 ‹_›;omega
  refine zx8<|(zP)<|(zP)<|zx1<|zf1 ⟨_,rfl,?_⟩
  obtain rfl:i=p.m:=by omega
  exact⟨Zm ⟨fun hh=>⟨hh,fun k k0 k1 hk=>qa k k0 k1 hk⟩,fun hm=>hm.1⟩,hS.nl⟩
end Go.Proofs.YtkichmnjjblodaaGreat
namespace Go.Proofs.YtkichmnjjblodaaGreat
open Go Go.RowKit Go.Proofs.Gw
variable {i:Int} {a:Int->Int}
theorem Zla:Zc Tryz.prog 115=true:=by kernel_rfl
theorem TD:Zc Tryz.prog 78=true:=by kernel_rfl
theorem Zay{p:Prob}(hp:p.Ok){l q:Int}(h:Pfx p i a l)(q0:0<=q)(q1:q<=i)(i1:i<=p.m):0<=Zy p a q.toNat/\Zy p a q.toNat<=42000000:=by
  have h1:=WJ (f:=fun i=>a i*(p.L i+p.kerf)) (A:=2100000) (n:=q.toNat) (fun j j0 j1=>by
    have hr:=h.rng j j0 (by omega)
    have he:=hp.all j j0 (by omega)
    unfold Prob.each at he
    have:=hp.k1;have:=hp.k2;have:=hp.s2
    exact⟨Int.mul_nonneg hr.1 (by omega),Int.le_trans (Int.mul_le_mul (show a j<=1000 by omega) (show p.L j+p.kerf<=2100 by omega) (by omega) (by omega)) (by omega)⟩)
  have:=hp.m2
  unfold Zy
  refine⟨h1.1,Int.le_trans h1.2 ?_⟩
  have:((q.toNat:Nat):Int)*2100000=q*2100000:=by rw [Int.toNat_of_nonneg q0]
  omega
theorem Zg4{p:Prob}(hp:p.Ok){l q:Int}(h:Pfx p i a l)(q0:0<=q)(q1:q<i)(i1:i<=p.m):0<=a q*(p.L q+p.kerf)/\a q*(p.L q+p.kerf)<=2100000:=by
  have hr:=h.rng q q0 q1
  have he:=hp.all q q0 (by omega)
  unfold Prob.each at he
  have:=hp.k1;have:=hp.k2;have:=hp.s2
  exact⟨Int.mul_nonneg hr.1 (by omega),Int.le_trans (Int.mul_le_mul (show a q<=1000 by omega) (show p.L q+p.kerf<=2100 by omega) (by omega) (by omega)) (by omega)⟩
theorem Zet{p:Prob}(hp:p.Ok){l:Int}(h:Pfx p i a l)(h0:0<=i)(i1:i<=p.m):l<=p.stock+p.kerf:=by
  have:=Zay hp h h0 (Int.le_refl _) i1;have:=h.left;omega
theorem X5{α:Type}{n:Nat}{x y:List α}:(x.take n++y).take n=(x++y).take n:=by
  rw [List.take_append,List.take_append,List.take_take,Nat.min_self]
  by_cases h:x.length<=n
  · rw [List.take_of_length_le h]
  · rw [show n-x.length=0 by omega,show n-(x.take n).length=0 by rw [List.length_take];omega]
theorem Zaf{α:Type}{n:Nat}{x:List α}{y:List α}(h:x.length=n):(x++y).take n=x:=by subst h;simp
theorem WH{α:Type}{n:Nat}{x:List α}(h:x.length<=n):x.take n=x:=List.take_of_length_le h
theorem Pfx.used{p:Prob}{l:Int}(h:Pfx p p.m a l):p.stock+p.kerf-Zy p a p.m.toNat=l:=h.left.symm
theorem ZhD{α:Type}{F:Int->List α}{lo k:Int}(hk:k=0)(hl:lo=1):dn F lo (k+1-lo).toNat=dn F lo (k-1+1-lo).toNat:=by
  subst hk;subst hl;rfl
theorem X7(a:Int->Int)(i x:Int):∀j,0<=j->j<(i+1)*((1:Nat):Int)->ints (snoc a i x) j=ints (upd a i x) j:=fun j j0 j1=>by
  unfold ints;congr 1
  by_cases e:j<i
  · rw [ZA e,upd_ne _ _ (by omega)]
  · rw [ZB e,show j=i by omega,Zk]
theorem Wc{wi k:Int}(h:0<=wi->wi<i->1<=a wi)(hk:wi≠i\/0<k):0<=wi->wi<i+1->1<=upd a i k wi:=fun w0 w1=>by
  by_cases e:wi=i
  · rw [e,Zk];omega
  · rw [upd_ne _ _ e];exact h w0 (by omega)
theorem Zlk {vL vD:Value} {p:Prob} (hp:p.Ok) {wi:Int} (hw:wi<p.m) (N:Nat):∀{F:Gw.Frame} {va vo:Value} {a:Int->Int} {i l u:Int} {vv:Int->Value} {f:Int->Int->Int} {out:List (Int->Int)} (w0 w:World) (hS:Sat w0 w [.own vo 1 22 u vv,.sem (Frame.rows 3 u vv (fun _=>p.m) f),.own va 1 3 i (ints a),.sem F]) (h:PAt w0 vL vD p) (hvo:Slh vo u) (hva:Slh va i) (h0:0<=i) (h1:i<=p.m) (hx:Pfx p i a l) (hls:Ls p.m u f out) (hu:u<=301) (hwa:0<=wi->wi<i->1<=a wi) (hN:(p.m-i).toNat<N),
    Calls Tryz.prog 78 [.agg #[vL,vD,.int .i64 p.stock,.int .i64 p.kerf],va,.int .i64 wi,vo].toArray w fun e w=>∃v,e= .returned v/\∃vo2 u2 vv2 f2,v=vo2/\Slh vo2 u2/\u2<=301/\Ls p.m u2 f2 ((out++exI p wi i a l).take 301)/\Sat w0 w [.own vo2 1 22 u2 vv2,.sem (Frame.rows 3 u2 vv2 (fun _=>p.m) f2),.sem F]:=by
  induction N with
  |zero=>intros;omega
  | succ N ih=>
    intro F va vo a i l u vv f out w0 w hS h hvo hva h0 h1 hx hls hu hwa hN
    have hm:=h.L.slh.n0;have hm1:=h.L.slh.n1;have hd:=h.D.slh.n0;have hd1:=h.D.slh.n1;have hs:=h.is;have hk:=h.ik
    have hpm:=hp.m1;have qx:=hp.m2;have hpd:=hp.d;have hs1:=hp.s1;have hs2:=hp.s2;have hk1:=hp.k1;have hk2:=hp.k2
    have hrs:=fun k (k0:0<=k) (k1:k<u)=>hS.slhIn 1 rfl k0 k1
    have hu0:=hvo.n0
    have hlx:=Zet hp hx h0 h1;have hl0:=hx.l0
    refine zenF Tryz.func78 Tryz.ntmps78 ?_
    refine zsr<|zla (xbx (cs:= [_,_,_,_]) hS) ?_;rintro _ w ⟨g1,rfl,hS⟩
    refine(zP)<|zlz<|(zP)<|(zV (xln Zb hva))<|(zP)<|zx5<|(zP)<|(zV (xln Zl hvo))<|(zP)<|zlt<|Zf ?_ ?_<;>intro hc
    ·
     refine zsr<|(zP)<|(zP)<|zx14<|zf1 ⟨_,rfl,?_⟩
     first
     |exact⟨_,_,_,_,rfl,hvo,by omega,by rw [Zaf (by have:=hls.1;omega)];exact hls,hS.pk [0,1,3]⟩
     | (obtain rfl:i=p.m:=by omega
        exact⟨_,_,_,_,rfl,hvo,by omega,by rw [Uo rfl (by rw [<-Pfx.used hx];assumption),List.append_nil,WH (by have:=hls.1;omega)];exact hls,hS.pk [0,1,3]⟩)
    refine YK<|(zP)<|(zV (xfb 0 fd_24_0))<|(zV (xlb 4 pl_22 hS))<|(zV (xln Zb h.L.slh))<|(zP)<|zlt<|Zf ?_ ?_<;>intro hc
    ·
     refine zx11<|(zV (xls 4 st_24 hS))<|(zP)<|zlc (xc0 Zla) (ZhX (p:=p) w (h.below hS.below) hp (hS.rowN 2 rfl) (by omega) (fun k k0 k1=>hx.rng k k0 (by omega))) ?_;rintro _ w ⟨rfl,hS'⟩
     replace hS:=hS.cmp hS';clear hS'
     refine(zP)<|zlb 28 ?_ ?_<;>intro hc
     ·
      refine(zP)<|(zP)<|(zP)<|zlb 31 ?_ ?_<;>intro hc
      ·
       iterate 5 refine zlo ?_
       refine(zP)<|(zP)<|zlt<|zct<|zrg ?_
       refine(zP)<|zla (xl0 (c:=ints a) Zb hS) ?_;rintro v1 w ⟨hS,hv1⟩
       refine(zP)<|zla (xap 5 (r:=i) (f:=ints a) Zb Zu hS (hS.rowN 2 rfl) (by exact ZU _ _)) ?_;rintro v2 w ⟨hS,hv2⟩
       refine zla (xli (n:=1) (len:=1) (pv:= [(0,v2)]) (cs:= [v2]) (c:=(fun _=>v2)) Zl Z2 hS (hf:=by obtain⟨_,_,_,_,rfl,_⟩:=hv2;kernel_rfl)) ?_;rintro v3 w ⟨hS,hv3⟩
       refine zla (xap 0 (r:=u+1) Zl Z2 hS (hS.rowN 6 rfl) (Xt _ _ _) (h1:=fun _ _ _=>hv2.one)) ?_;rintro v4 w ⟨hS,hv4⟩
       replace hS:=Sat.merge (l1:= [_]) (l2:= [_,_,_]) (l3:= [_]) hS (by omega)
       have qV:=fun k (k0:0<=k) (k1:k<u+1)=>hS.slhIn 1 rfl k0 k1
       refine(zP)<|zlz<|(zP)<|(zP)<|zx14<|zf1 ⟨_,rfl,?_⟩
       replace hS:=hS.rerows (vv':=(gsn vv u v2)) (ln':=fun _=>p.m) (f':=(gsn f u a)) 1 rfl (fun k k0 k1=>⟨rfl,by unfold gsn;split<;>(try dsimp only)<;>omega,fun _ _ _=>rfl⟩)
       obtain rfl:i=p.m:=by omega
       exact⟨_,_,_,_,rfl,hv4,by omega,by rw [W9 rfl (by rw [<-Pfx.used hx];assumption),WH (by have:=hls.1;rw [List.length_append,List.length_singleton];omega)];exact hls.snoc fun _ _ _=>rfl,hS.pk [0,1,3]⟩
      refine(zP)<|(zP)<|(zV (xix (kk:=wi) Zb hva))<|zlv (xlr (u:= .int .i64 (a wi)) pl_3 (hS.rowN 2 rfl)) ?_
      have hwi:=hwa (by omega) (by omega)
      refine(zV (xkt Yq))<|(zP)<|(zP)<|zlt<|zct<|zrg ?_
      refine(zP)<|zla (xl0 (c:=ints a) Zb hS) ?_;rintro v1 w ⟨hS,hv1⟩
      refine(zP)<|zla (xap 5 (r:=i) (f:=ints a) Zb Zu hS (hS.rowN 2 rfl) (by exact ZU _ _)) ?_;rintro v2 w ⟨hS,hv2⟩
      refine zla (xli (n:=1) (len:=1) (pv:= [(0,v2)]) (cs:= [v2]) (c:=(fun _=>v2)) Zl Z2 hS (hf:=by obtain⟨_,_,_,_,rfl,_⟩:=hv2;kernel_rfl)) ?_;rintro v3 w ⟨hS,hv3⟩
      refine zla (xap 0 (r:=u+1) Zl Z2 hS (hS.rowN 6 rfl) (Xt _ _ _) (h1:=fun _ _ _=>hv2.one)) ?_;rintro v4 w ⟨hS,hv4⟩
      replace hS:=Sat.merge (l1:= [_]) (l2:= [_,_,_]) (l3:= [_]) hS (by omega)
      have qV:=fun k (k0:0<=k) (k1:k<u+1)=>hS.slhIn 1 rfl k0 k1
      refine(zP)<|zlz<|(zP)<|(zP)<|zx14<|zf1 ⟨_,rfl,?_⟩
      replace hS:=hS.rerows (vv':=(gsn vv u v2)) (ln':=fun _=>p.m) (f':=(gsn f u a)) 1 rfl (fun k k0 k1=>⟨rfl,by unfold gsn;split<;>(try dsimp only)<;>omega,fun _ _ _=>rfl⟩)
      obtain rfl:i=p.m:=by omega
      exact⟨_,_,_,_,rfl,hv4,by omega,by rw [W9 rfl (by rw [<-Pfx.used hx];assumption),WH (by have:=hls.1;rw [List.length_append,List.length_singleton];omega)];exact hls.snoc fun _ _ _=>rfl,hS.pk [0,1,3]⟩
     iterate 9 refine zlo ?_
     refine(zP)<|zlt<|zcf<|zsk<|ztn<|zsr ?_
     refine(zP)<|(zP)<|zx14<|zf1 ⟨_,rfl,?_⟩
     first
     |exact⟨_,_,_,_,rfl,hvo,by omega,by rw [Zaf (by have:=hls.1;omega)];exact hls,hS.pk [0,1,3]⟩
     | (obtain rfl:i=p.m:=by omega
        exact⟨_,_,_,_,rfl,hvo,by omega,by rw [Uo rfl (by rw [<-Pfx.used hx];assumption),List.append_nil,WH (by have:=hls.1;omega)];exact hls,hS.pk [0,1,3]⟩)
    refine ZR<|(zV (xfb 2 fd_24_2))<|(zV (xlb 4 pl_3 hS))<|(zV (xfb 3 fd_24_3))<|(zV (xlb 4 pl_3 hS))<|(zV (Zh (r:=p.stock+p.kerf)))<|(zP)<|zx5<|(zP)<|zx6<|zlp (fun mm M w=>∃(s:Int) (q:Int),mm=((i-q).toNat)/\(0<=q)/\(q<=i)/\(s=p.stock+p.kerf-Zy p a q.toNat)/\M= [(1,va),(2,.int .i64 wi),(3,vo),(4,.pointer (some ⟨g1,0,none⟩)),(8,.slice none 0 0),(9,.int .i64 i),(10,.int .i64 s),(11,.int .i64 q)]/\Sat w0 w [.own vo 1 22 u vv,.sem (Frame.rows 3 u vv (fun _=>p.m) f),.own va 1 3 i (ints a),.sem F,.blk g1 [vL,vD,.int .i64 p.stock,.int .i64 p.kerf]]) ⟨p.stock+p.kerf,0,rfl,(by omega),(by omega),?_,rfl,hS⟩ ?_
    ·
     show _=_-Zd _ 0;simp [Zd]
    clear hS w
    rintro mm M w ⟨s,q,rfl,q0,q1,hs9,rfl,hS⟩
    refine zx11<|(zP)<|(zP)<|(zP)<|zlt<|Zf ?_ ?_<;>intro hc
    ·
     refine zx29<|zdst [0,1,2,3,4] [0,1,2,3,4] 1000 mx_ hS ?_;clear hS;intro w hS
     refine(zDw 0 xmv)<|(zDw 1 xmv)<|(zDw 2 xmv)<|(zDw 3 (xix (kk:=q) Zb hva))<|zdla 4 (fun w hS=>(xlr (u:= .int .i64 (a q)) pl_3 (hS.rowN 2 rfl))) ?_
     have hmq:=Zg4 hp hx q0 (by omega:q<i) h1;have huq:=Zay hp hx q0 (by omega) h1;have heq:=hp.all q q0 (by omega);unfold Prob.each at heq;have hrq:=hx.rng q q0 (by omega)
     refine(zDw 5 (xfb 0 fd_24_0))<|(zDl 6 (fun w hS=>(xlb 4 pl_22 hS)))<|(zDw 7 xmv)<|(zDw 8 (xix (kk:=q) Zb h.L.slh))<|zdla 9 (fun w hS=>(xlr (u:= .int .i64 (p.L q)) pl_3 (h.L.below hS.below))) ?_
     have hbv:=h.iL q
     refine(zDw 10 (xfb 3 fd_24_3))<|(zDl 11 (fun w hS=>(xlb 4 pl_3 hS)))<|(zDw 12 (Zh (r:=p.L q+p.kerf)))<|zDrv 13 (Z6 (r:=((a q)*(p.L q+p.kerf))) (e:=rfl) (hr:=(by unfold I64;omega))) ?_
     refine(zDw 14 (Zp (r:=s-((a q)*(p.L q+p.kerf)))))<|(zDw 15 xas)<|zdd<|zbn<|ztn<|zrg ?_
     refine(zP)<|(zV (Zh (r:=q+1)))<|(zP)<|zln<|zlq ⟨s-((a q)*(p.L q+p.kerf)),q+1,rfl,(by omega),(by omega),?_,rfl,hS⟩
     ·
      have h9:Zy p a (q+1).toNat=Zy p a q.toNat+a q*(p.L q+p.kerf):=ZJ _ q0
      rw [h9];omega
    refine zxt<|ztx<|ztx<|zbh<|ztn<|zsq<|zdst [0,1,2,3,4] [0,1,2,3,4] 1000 mx_ hS ?_;clear hS;intro w hS
    refine(zDw 0 (xfb 1 fd_24_1))<|(zDl 1 (fun w hS=>(xlb 4 pl_22 hS)))<|(zDw 2 xmv)<|(zDw 3 (xix (kk:=i) Zb h.D.slh))<|zdla 4 (fun w hS=>(xlr (u:= .int .i64 (p.D i)) pl_3 (h.D.below hS.below))) ?_
    have hbv:=h.iD i
    have hsl:s=l:=by rw [hs9,show q=i by omega];exact hx.left.symm
    have hei:=hp.all i h0 (by omega);unfold Prob.each at hei
    have hqd:=Yu (a:=s) (b:=p.L i+p.kerf) (by omega) (by omega)
    have hml:min (p.D i) (Int.tdiv s (p.L i+p.kerf))=most p i l:=by rw [hsl];rfl
    refine(zDw 5 xmv)<|(zDw 6 (xfb 0 fd_24_0))<|(zDl 7 (fun w hS=>(xlb 4 pl_22 hS)))<|(zDw 8 xmv)<|(zDw 9 (xix (kk:=i) Zb h.L.slh))<|zdla 10 (fun w hS=>(xlr (u:= .int .i64 (p.L i)) pl_3 (h.L.below hS.below))) ?_
    have hbv:=h.iL i
    refine(zDw 11 (xfb 3 fd_24_3))<|(zDl 12 (fun w hS=>(xlb 4 pl_3 hS)))<|(zDw 13 (Zh (r:=p.L i+p.kerf)))<|(zDw 14 (Vv (r:=(Int.tdiv s (p.L i+p.kerf)))))<|(zDw 15 (UK (r:=(min (p.D i) (Int.tdiv s (p.L i+p.kerf))))))<|(zDw 16 xas)<|zdd<|ztn<|zsq<|zsr ?_
    refine(zP)<|(zP)<|zx6<|zlp (fun mm M w=>∃(o2:List (Int->Int)) (u2:Int) (vv2:Int->Value) (f2:Int->Int->Int) (w2:Value) (k:Int),mm=((k+1).toNat)/\(-1<=k)/\(k<=most p i l)/\((o2++dn (kid p wi i a l) (least wi i) (k+1-least wi i).toNat).take 301=(out++exI p wi i a l).take 301)/\(Ls p.m u2 f2 o2)/\(Slh w2 u2)/\(u2<=301)/\M= [(1,va),(2,.int .i64 wi),(3,w2),(4,.pointer (some ⟨g1,0,none⟩)),(8,.slice none 0 0),(9,.int .i64 i),(13,.int .i64 k)]/\Sat w0 w [.blk g1 [vL,vD,.int .i64 p.stock,.int .i64 p.kerf],.own w2 1 22 u2 vv2,.sem (Frame.rows 3 u2 vv2 (fun _=>p.m) f2),.own va 1 3 i (ints a),.sem F]) ⟨out,u,vv,f,vo,(min (p.D i) (Int.tdiv s (p.L i+p.kerf))),rfl,(by omega),(by omega),?_,?_,?_,(by omega),rfl,hS.pk [4,0,1,2,3]⟩ ?_
    ·
     rw [hml,XJ h0 (by omega)]
    ·
     exact hls
    ·
     exact hvo
    clear hS w
    rintro mm M w ⟨o2,u2,vv2,f2,w2,k,rfl,k0,k1,ho2,yT,hw2,hu2,rfl,hS⟩
    have yA:=fun k (k0:0<=k) (k1:k<u2)=>hS.slhIn 2 rfl k0 k1
    refine zx11<|(zP)<|(zP)<|zlt<|Zf ?_ ?_<;>intro hc
    ·
     refine zx3<|zs4 ?_
     refine zlb 95 ?_ ?_<;>intro hc
     ·
      refine(zO)<|(zO)<|(zP)<|zlt<|zct ?_
      refine zdst [0,4] [0,4] 1000 mx_ hS ?_;clear hS;intro w hS
      refine(zDl 0 (fun w hS=>(xls 0 st_24 hS)))<|(zDw 2 xmv)<|(zDw 4 xmv)<|(zDw 7 xmv)<|(zDw 8 xmv)<|Vd (r:= [1,5]) ((YI ?_ (YI ?_ Vc)))
      ·
       refine zka (xl0 (c:=ints a) Zb hS) ?_;rintro v1 w ⟨hS,hv1⟩
       refine⟨⟨fun _=>hS.pk [0,4],hS.pk [0,4]⟩,?_⟩
       refine Vd (r:= [3,5]) ((YI ?_ (YI ?_ Vc)))
       ·
        refine zka (xap 5 (r:=i) (f:=ints a) Zb Zu hS (hS.rowN 3 rfl) (by exact ZU _ _)) ?_;rintro v2 w ⟨hS,hv2⟩
        refine⟨⟨fun _=>hS.pk [0,4],hS.pk [0,4]⟩,?_⟩
        refine zda 5 (xli (n:=1) (len:=1) (pv:= [(0,.int .i64 k)]) (cs:= [.int .i64 k]) (c:=ints (fun _=>k)) Zb Zu hS) ?_;rintro v3 w ⟨hS,hv3⟩
        refine⟨⟨fun _=>hS.pk [0,4],hS.pk [0,4]⟩,?_⟩
        refine zda 6 (xap 5 (r:=i+1) Zb Zu hS (hS.rowN 6 rfl) (Yt _ _ _)) ?_;rintro v4 w ⟨hS,hv4⟩
        refine⟨⟨fun _=>hS.pk [0,4],hS.pk [0,4]⟩,?_⟩
        replace hS:=hS.recont 5 rfl (d:=ints (upd a i k)) (X7 a i k)
        refine zdc 9 (xc0 TD) (ih (i:=i+1) (a:=upd a i k) (l:=l-k*(p.L i+p.kerf)) (out:=o2) w0 w (Sat.bundle (l1:= [_,_,_]) (hS.pk [1,2,5,0,3,4,6])) h hw2 hv4 (by omega) (by omega) (hx.step hp h0 (by omega) (by omega) (by omega)) yT (by omega) (Wc hwa (by omega)) (by omega)) ?_;rintro qS w ⟨_,ux1,qC,fx1,rfl,qH,zU,xE,hS⟩
        replace hS:=Sat.unbundle (l1:= [_,_]) (l3:= []) hS
        have xp:=fun k (k0:0<=k) (k1:k<ux1)=>hS.slhIn 1 rfl k0 k1
        refine⟨⟨fun _=>hS.pk [2,4],hS.pk [2,4]⟩,?_⟩
        refine(zDw 10 xas)<|zdd<|zbn<|ztn<|zrg ?_
        refine(zP)<|(zV (Zp (r:=k-1)))<|(zP)<|zln<|zlq ⟨((o2++exI p wi (i+1) (upd a i k) (l-k*(p.L i+p.kerf))).take 301),ux1,qC,fx1,qS,k-1,rfl,(by omega),(by omega),?_,?_,?_,(by omega),rfl,hS.pk [2,0,1,3,4]⟩
        ·
         rw [<-ho2,XZ (k:=k) _ (by unfold least;split<;>omega),<-List.append_assoc,show k-1+1-least wi i=k-least wi i by omega];exact X5
        ·
         exact xE
        ·
         exact qH
       refine zka (xli (n:=1) (len:=1) (pv:= [(0,.int .i64 k)]) (cs:= [.int .i64 k]) (c:=ints (fun _=>k)) Zb Zu hS) ?_;rintro v2 w ⟨hS,hv2⟩
       refine⟨⟨fun _=>hS.pk [0,4],hS.pk [0,4]⟩,?_⟩
       refine zda 3 (xap 5 (r:=i) (f:=ints a) Zb Zu hS (hS.rowN 3 rfl) (by exact ZU _ _)) ?_;rintro v3 w ⟨hS,hv3⟩
       refine⟨⟨fun _=>hS.pk [0,4],hS.pk [0,4]⟩,?_⟩
       refine zda 6 (xap 5 (r:=i+1) Zb Zu hS (hS.rowN 6 rfl) (Yt _ _ _)) ?_;rintro v4 w ⟨hS,hv4⟩
       refine⟨⟨fun _=>hS.pk [0,4],hS.pk [0,4]⟩,?_⟩
       replace hS:=hS.recont 5 rfl (d:=ints (upd a i k)) (X7 a i k)
       refine zdc 9 (xc0 TD) (ih (i:=i+1) (a:=upd a i k) (l:=l-k*(p.L i+p.kerf)) (out:=o2) w0 w (Sat.bundle (l1:= [_,_,_]) (hS.pk [1,2,5,0,3,4,6])) h hw2 hv4 (by omega) (by omega) (hx.step hp h0 (by omega) (by omega) (by omega)) yT (by omega) (Wc hwa (by omega)) (by omega)) ?_;rintro qS w ⟨_,ux1,qC,fx1,rfl,qH,zU,xE,hS⟩
       replace hS:=Sat.unbundle (l1:= [_,_]) (l3:= []) hS
       have xp:=fun k (k0:0<=k) (k1:k<ux1)=>hS.slhIn 1 rfl k0 k1
       refine⟨⟨fun _=>hS.pk [2,4],hS.pk [2,4]⟩,?_⟩
       refine(zDw 10 xas)<|zdd<|zbn<|ztn<|zrg ?_
       refine(zP)<|(zV (Zp (r:=k-1)))<|(zP)<|zln<|zlq ⟨((o2++exI p wi (i+1) (upd a i k) (l-k*(p.L i+p.kerf))).take 301),ux1,qC,fx1,qS,k-1,rfl,(by omega),(by omega),?_,?_,?_,(by omega),rfl,hS.pk [2,0,1,3,4]⟩
       ·
        rw [<-ho2,XZ (k:=k) _ (by unfold least;split<;>omega),<-List.append_assoc,show k-1+1-least wi i=k-least wi i by omega];exact X5
       ·
        exact xE
       ·
        exact qH
      refine zka (xli (n:=1) (len:=1) (pv:= [(0,.int .i64 k)]) (cs:= [.int .i64 k]) (c:=ints (fun _=>k)) Zb Zu hS) ?_;rintro v1 w ⟨hS,hv1⟩
      refine⟨⟨fun _=>hS.pk [0,4],hS.pk [0,4]⟩,?_⟩
      refine zda 1 (xl0 (c:=ints a) Zb hS) ?_;rintro v2 w ⟨hS,hv2⟩
      refine⟨⟨fun _=>hS.pk [0,4],hS.pk [0,4]⟩,?_⟩
      refine zda 3 (xap 6 (r:=i) (f:=ints a) Zb Zu hS (hS.rowN 3 rfl) (by exact ZU _ _)) ?_;rintro v3 w ⟨hS,hv3⟩
      refine⟨⟨fun _=>hS.pk [0,4],hS.pk [0,4]⟩,?_⟩
      refine zda 6 (xap 6 (r:=i+1) Zb Zu hS (hS.rowN 5 rfl) (Yt _ _ _)) ?_;rintro v4 w ⟨hS,hv4⟩
      refine⟨⟨fun _=>hS.pk [0,4],hS.pk [0,4]⟩,?_⟩
      replace hS:=hS.recont 6 rfl (d:=ints (upd a i k)) (X7 a i k)
      refine zdc 9 (xc0 TD) (ih (i:=i+1) (a:=upd a i k) (l:=l-k*(p.L i+p.kerf)) (out:=o2) w0 w (Sat.bundle (l1:= [_,_,_]) (hS.pk [1,2,6,0,3,4,5])) h hw2 hv4 (by omega) (by omega) (hx.step hp h0 (by omega) (by omega) (by omega)) yT (by omega) (Wc hwa (by omega)) (by omega)) ?_;rintro qS w ⟨_,ux1,qC,fx1,rfl,qH,zU,xE,hS⟩
      replace hS:=Sat.unbundle (l1:= [_,_]) (l3:= []) hS
      have xp:=fun k (k0:0<=k) (k1:k<ux1)=>hS.slhIn 1 rfl k0 k1
      refine⟨⟨fun _=>hS.pk [2,4],hS.pk [2,4]⟩,?_⟩
      refine(zDw 10 xas)<|zdd<|zbn<|ztn<|zrg ?_
      refine(zP)<|(zV (Zp (r:=k-1)))<|(zP)<|zln<|zlq ⟨((o2++exI p wi (i+1) (upd a i k) (l-k*(p.L i+p.kerf))).take 301),ux1,qC,fx1,qS,k-1,rfl,(by omega),(by omega),?_,?_,?_,(by omega),rfl,hS.pk [2,0,1,3,4]⟩
      ·
       rw [<-ho2,XZ (k:=k) _ (by unfold least;split<;>omega),<-List.append_assoc,show k-1+1-least wi i=k-least wi i by omega];exact X5
      ·
       exact xE
      ·
       exact qH
     refine(zP)<|(zP)<|(zP)<|zlt<|Zf ?_ ?_<;>intro hc
     ·
      refine zdst [0,4] [0,4] 1000 mx_ hS ?_;clear hS;intro w hS
      refine(zDl 0 (fun w hS=>(xls 0 st_24 hS)))<|(zDw 2 xmv)<|(zDw 4 xmv)<|(zDw 7 xmv)<|(zDw 8 xmv)<|Vd (r:= [1,5]) ((YI ?_ (YI ?_ Vc)))
      ·
       refine zka (xl0 (c:=ints a) Zb hS) ?_;rintro v1 w ⟨hS,hv1⟩
       refine⟨⟨fun _=>hS.pk [0,4],hS.pk [0,4]⟩,?_⟩
       refine Vd (r:= [3,5]) ((YI ?_ (YI ?_ Vc)))
       ·
        refine zka (xap 5 (r:=i) (f:=ints a) Zb Zu hS (hS.rowN 3 rfl) (by exact ZU _ _)) ?_;rintro v2 w ⟨hS,hv2⟩
        refine⟨⟨fun _=>hS.pk [0,4],hS.pk [0,4]⟩,?_⟩
        refine zda 5 (xli (n:=1) (len:=1) (pv:= [(0,.int .i64 k)]) (cs:= [.int .i64 k]) (c:=ints (fun _=>k)) Zb Zu hS) ?_;rintro v3 w ⟨hS,hv3⟩
        refine⟨⟨fun _=>hS.pk [0,4],hS.pk [0,4]⟩,?_⟩
        refine zda 6 (xap 5 (r:=i+1) Zb Zu hS (hS.rowN 6 rfl) (Yt _ _ _)) ?_;rintro v4 w ⟨hS,hv4⟩
        refine⟨⟨fun _=>hS.pk [0,4],hS.pk [0,4]⟩,?_⟩
        replace hS:=hS.recont 5 rfl (d:=ints (upd a i k)) (X7 a i k)
        refine zdc 9 (xc0 TD) (ih (i:=i+1) (a:=upd a i k) (l:=l-k*(p.L i+p.kerf)) (out:=o2) w0 w (Sat.bundle (l1:= [_,_,_]) (hS.pk [1,2,5,0,3,4,6])) h hw2 hv4 (by omega) (by omega) (hx.step hp h0 (by omega) (by omega) (by omega)) yT (by omega) (Wc hwa (by omega)) (by omega)) ?_;rintro qS w ⟨_,ux1,qC,fx1,rfl,qH,zU,xE,hS⟩
        replace hS:=Sat.unbundle (l1:= [_,_]) (l3:= []) hS
        have xp:=fun k (k0:0<=k) (k1:k<ux1)=>hS.slhIn 1 rfl k0 k1
        refine⟨⟨fun _=>hS.pk [2,4],hS.pk [2,4]⟩,?_⟩
        refine(zDw 10 xas)<|zdd<|zbn<|ztn<|zrg ?_
        refine(zP)<|(zV (Zp (r:=k-1)))<|(zP)<|zln<|zlq ⟨((o2++exI p wi (i+1) (upd a i k) (l-k*(p.L i+p.kerf))).take 301),ux1,qC,fx1,qS,k-1,rfl,(by omega),(by omega),?_,?_,?_,(by omega),rfl,hS.pk [2,0,1,3,4]⟩
        ·
         rw [<-ho2,XZ (k:=k) _ (by unfold least;split<;>omega),<-List.append_assoc,show k-1+1-least wi i=k-least wi i by omega];exact X5
        ·
         exact xE
        ·
         exact qH
       refine zka (xli (n:=1) (len:=1) (pv:= [(0,.int .i64 k)]) (cs:= [.int .i64 k]) (c:=ints (fun _=>k)) Zb Zu hS) ?_;rintro v2 w ⟨hS,hv2⟩
       refine⟨⟨fun _=>hS.pk [0,4],hS.pk [0,4]⟩,?_⟩
       refine zda 3 (xap 5 (r:=i) (f:=ints a) Zb Zu hS (hS.rowN 3 rfl) (by exact ZU _ _)) ?_;rintro v3 w ⟨hS,hv3⟩
       refine⟨⟨fun _=>hS.pk [0,4],hS.pk [0,4]⟩,?_⟩
       refine zda 6 (xap 5 (r:=i+1) Zb Zu hS (hS.rowN 6 rfl) (Yt _ _ _)) ?_;rintro v4 w ⟨hS,hv4⟩
       refine⟨⟨fun _=>hS.pk [0,4],hS.pk [0,4]⟩,?_⟩
       replace hS:=hS.recont 5 rfl (d:=ints (upd a i k)) (X7 a i k)
       refine zdc 9 (xc0 TD) (ih (i:=i+1) (a:=upd a i k) (l:=l-k*(p.L i+p.kerf)) (out:=o2) w0 w (Sat.bundle (l1:= [_,_,_]) (hS.pk [1,2,5,0,3,4,6])) h hw2 hv4 (by omega) (by omega) (hx.step hp h0 (by omega) (by omega) (by omega)) yT (by omega) (Wc hwa (by omega)) (by omega)) ?_;rintro qS w ⟨_,ux1,qC,fx1,rfl,qH,zU,xE,hS⟩
       replace hS:=Sat.unbundle (l1:= [_,_]) (l3:= []) hS
       have xp:=fun k (k0:0<=k) (k1:k<ux1)=>hS.slhIn 1 rfl k0 k1
       refine⟨⟨fun _=>hS.pk [2,4],hS.pk [2,4]⟩,?_⟩
       refine(zDw 10 xas)<|zdd<|zbn<|ztn<|zrg ?_
       refine(zP)<|(zV (Zp (r:=k-1)))<|(zP)<|zln<|zlq ⟨((o2++exI p wi (i+1) (upd a i k) (l-k*(p.L i+p.kerf))).take 301),ux1,qC,fx1,qS,k-1,rfl,(by omega),(by omega),?_,?_,?_,(by omega),rfl,hS.pk [2,0,1,3,4]⟩
       ·
        rw [<-ho2,XZ (k:=k) _ (by unfold least;split<;>omega),<-List.append_assoc,show k-1+1-least wi i=k-least wi i by omega];exact X5
       ·
        exact xE
       ·
        exact qH
      refine zka (xli (n:=1) (len:=1) (pv:= [(0,.int .i64 k)]) (cs:= [.int .i64 k]) (c:=ints (fun _=>k)) Zb Zu hS) ?_;rintro v1 w ⟨hS,hv1⟩
      refine⟨⟨fun _=>hS.pk [0,4],hS.pk [0,4]⟩,?_⟩
      refine zda 1 (xl0 (c:=ints a) Zb hS) ?_;rintro v2 w ⟨hS,hv2⟩
      refine⟨⟨fun _=>hS.pk [0,4],hS.pk [0,4]⟩,?_⟩
      refine zda 3 (xap 6 (r:=i) (f:=ints a) Zb Zu hS (hS.rowN 3 rfl) (by exact ZU _ _)) ?_;rintro v3 w ⟨hS,hv3⟩
      refine⟨⟨fun _=>hS.pk [0,4],hS.pk [0,4]⟩,?_⟩
      refine zda 6 (xap 6 (r:=i+1) Zb Zu hS (hS.rowN 5 rfl) (Yt _ _ _)) ?_;rintro v4 w ⟨hS,hv4⟩
      refine⟨⟨fun _=>hS.pk [0,4],hS.pk [0,4]⟩,?_⟩
      replace hS:=hS.recont 6 rfl (d:=ints (upd a i k)) (X7 a i k)
      refine zdc 9 (xc0 TD) (ih (i:=i+1) (a:=upd a i k) (l:=l-k*(p.L i+p.kerf)) (out:=o2) w0 w (Sat.bundle (l1:= [_,_,_]) (hS.pk [1,2,6,0,3,4,5])) h hw2 hv4 (by omega) (by omega) (hx.step hp h0 (by omega) (by omega) (by omega)) yT (by omega) (Wc hwa (by omega)) (by omega)) ?_;rintro qS w ⟨_,ux1,qC,fx1,rfl,qH,zU,xE,hS⟩
      replace hS:=Sat.unbundle (l1:= [_,_]) (l3:= []) hS
      have xp:=fun k (k0:0<=k) (k1:k<ux1)=>hS.slhIn 1 rfl k0 k1
      refine⟨⟨fun _=>hS.pk [2,4],hS.pk [2,4]⟩,?_⟩
      refine(zDw 10 xas)<|zdd<|zbn<|ztn<|zrg ?_
      refine(zP)<|(zV (Zp (r:=k-1)))<|(zP)<|zln<|zlq ⟨((o2++exI p wi (i+1) (upd a i k) (l-k*(p.L i+p.kerf))).take 301),ux1,qC,fx1,qS,k-1,rfl,(by omega),(by omega),?_,?_,?_,(by omega),rfl,hS.pk [2,0,1,3,4]⟩
      ·
       rw [<-ho2,XZ (k:=k) _ (by unfold least;split<;>omega),<-List.append_assoc,show k-1+1-least wi i=k-least wi i by omega];exact X5
      ·
       exact xE
      ·
       exact qH
     refine zx4<|(zP)<|(zV (Zp (r:=k-1)))<|(zP)<|zln<|zlq ⟨o2,u2,vv2,f2,w2,k-1,rfl,(by omega),(by omega),?_,?_,?_,(by omega),rfl,hS⟩
     ·
      rw [<-ho2,ZhD (k:=k) (by omega) (by unfold least;rw [if_pos (by omega)])]
     ·
      exact yT
     ·
      exact hw2
    refine zx8<|(zP)<|(zP)<|zx1<|zf1 ⟨_,rfl,?_⟩
    exact⟨_,_,_,_,rfl,hw2,by omega,by rw [<-ho2,show k= -1 by omega,ZjR _ (by unfold least;split<;>omega),List.append_nil,WH (by have:=yT.1;omega)];exact yT,hS.pk [1,2,4]⟩
end Go.Proofs.YtkichmnjjblodaaGreat
