import Derived.Test.YtopmifmfecfaaaaGreatRpAF
set_option linter.unusedVariables false
set_option linter.unusedSimpArgs false
set_option maxRecDepth 20000
set_option maxHeartbeats 4000000
namespace Go.Proofs.YtopmifmfecfaaaaGreat
open Go Go.RowKit Go.Proofs.Gw
variable {a b e i j m n nm u:Int} {cnt d ln ln2 ml t:Int->Int} {mf pt pt2:Int->Int->Int} {mv:Int->Value} {gs:Nat} {s:So} {vD vL vM vX vY vd:Value}
theorem ZiI:Zc Tryz.prog 100=true:=by kernel_rfl
theorem ZiC:Zc Tryz.prog 107=true:=by kernel_rfl
theorem Zif:Zc Tryz.prog 141=true:=by kernel_rfl
theorem Zed:Zc Tryz.prog 148=true:=by kernel_rfl
theorem R4:Zc Tryz.prog 149=true:=by kernel_rfl
theorem ZhU:Zc Tryz.prog 167=true:=by kernel_rfl
theorem Za5:Zc Tryz.prog 183=true:=by kernel_rfl
theorem ZgL:Zc Tryz.prog 63=true:=by kernel_rfl
theorem ZgK:Zc Tryz.prog 65=true:=by kernel_rfl
theorem ZjV:Zc Tryz.prog 66=true:=by kernel_rfl
theorem Zd0:Zc Tryz.prog 67=true:=by kernel_rfl
theorem ZjU:Zc Tryz.prog 68=true:=by kernel_rfl
theorem Zb0:Zc Tryz.prog 69=true:=by kernel_rfl
theorem ZjD:Zc Tryz.prog 99=true:=by kernel_rfl
def WZ(p:Prob)(u:Int)(ml:Int->Int)(mf:Int->Int->Int)(s:So):Prop:=ZT s/\s.n=u/\u<=60/\(∀k,0<=k->k<u->ZN p (ml k) (mf k)/\(s.X k).tdiv s.den<=1000)/\∀j,0<=j->j<p.m->p.D j*s.den<=Zo u mf s.X j
theorem Zcs{X:Int->Int}(h:∀k,0<=k->k<u->(∀j,0<=j->j<m->0<=mf k j/\mf k j<=1000)/\0<=X k/\X k<=1073741824):∀{i:Int},0<=i->i<=u->∀{j:Int},0<=j->j<m->0<=Zo i mf X j/\Zo i mf X j<=1073741824000*i:=by
  intro i i0
  obtain⟨n,rfl⟩:=Int.eq_ofNat_of_zero_le i0
  induction n with
  |zero=>intro _ j _ _;exact⟨Int.le_refl _,by show(0:Int)<=_;omega⟩
  | succ n ih=>
    intro hi j j0 j1
    have h1:=ih (by omega) (by omega) j0 j1
    obtain⟨h2,h3,h4⟩:=h n (by omega) (by omega)
    have h5:=h2 j j0 j1
    have h6:=Xl h5.1 h5.2 h3 h4
    have h7:=YU (pt:=mf) (cnt:=X) (i:=(n:Int)) (j:=j) (by omega)
    rw [show((n+1:Nat):Int)=(n:Int)+1 by omega,h7];omega
theorem Vf{d:Int}(h:0<=a)(hd:1<=d):0<=a.tmod d/\a.tmod d<d:=by
  rw [Int.tmod_eq_emod_of_nonneg h]
  exact⟨Int.emod_nonneg _ (by omega),Int.emod_lt_of_pos _ (by omega)⟩
theorem YA{p:Prob}{f:Int->Int}(h:ZN p n f):n=p.m/\∀j,0<=j->j<p.m->0<=f j/\f j<=1000:=by
  have he:=h.1.eq
  refine⟨he,fun j j0 j1=> ?_⟩
  have h1:=h.1.all j j0 j1
  have h2:=h.2 j j0 (by omega)
  have h3:=X2 h.1.ok j0 j1
  omega
theorem ZcR{p:Prob}(w0:World)(h:PAt w0 vL vD p)(hok:p.Ok)(hM:MAt w0 vM u mv ml mf)(hX:Row w0 vX 1 s.n (ints s.X))(hY:Row w0 vY 1 s.m (ints s.Y))(xV:s.n<=1000):
    Calls Tryz.prog 99 [.agg #[vL,vD,.int .i64 p.stock,.int .i64 p.kerf],.agg #[vM,vX,vY,.int .i64 s.val,.int .i64 s.den]].toArray w0 fun e w=>∃v,e= .returned v/\v=B (WZ p u ml mf s)/\Sat w0 w []:=by
  have hm:=h.L.slh.n0;have hm1:=h.L.slh.n1;have hd:=h.D.slh.n0;have hd1:=h.D.slh.n1;have hs:=h.is;have hk:=h.ik
  have hu:=hM.row.slh.n0;have hu1:=hM.row.slh.n1;have hn:=hX.slh.n0;have hn1:=hX.slh.n1
  refine Zm Tryz.func99 Tryz.ntmps99 fun w hS=> ?_
  refine zsr<|zla (xbx (cs:= [_,_,_,_]) hS) ?_;rintro _ w ⟨g1,rfl,hS⟩
  refine zla (xbx (cs:= [_,_,_,_,_]) hS) ?_;rintro _ w ⟨g2,rfl,hS⟩
  refine(zP)<|zlz<|(zV (xfb 1 fd_31_1))<|(zV (xlp 1 (ds:= [vX,vY,.int .i64 s.val,.int .i64 s.den]) Z3 hS))<|zla (xal (cs:= [_,_,_,_]) VG hS) ?_;rintro _ w ⟨g3,rfl,hS⟩
  refine zle (xsw 2 Z3 hS (hd:=(Za hX.slh.one (Za hY.slh.one (Za rfl (Za rfl Zg)))))) ?_;clear hS;rintro w hS
  refine zx5<|(zV (xls 2 Z3 hS))<|zlc (xc0 Zif) (ZcD (s:=s) w (hX.below hS.below) (hY.below hS.below) (by omega)) ?_;rintro _ w ⟨cz,cy,jr,rfl,yD,hS'⟩
  replace hS:=hS.cmp hS';clear hS'
  refine(zP)<|(zP)<|(zP)<|zla (xal (cs:= [_,_]) ZdO hS) ?_;rintro _ w ⟨g4,rfl,hS⟩
  refine zle (xsw 3 UP hS) ?_;clear hS;rintro w hS
  refine(zP)<|zlz<|(zP)<|(zP)<|(zP)<|zlb 24 ?_ ?_<;>intro hc;rotate_left
  refine(zV (xfb 0 fd_29_0))<|(zV (xlb 2 pl_22 hS))<|(zV (xln Zb hX.slh))<|(zV (xfb 0 UA))<|(zV (xlb 1 Zu hS))<|(zV (xln Zi hM.row.slh))<|(zP)<|(zP)<|(zP)<|zlb 33 ?_ ?_<;>intro hc;rotate_left
  refine(zV (xfb 0 fd_29_0))<|(zV (xlb 2 pl_22 hS))<|(zV (xln Zb hX.slh))<|(zP)<|(zP)<|zlt<|Ze ?_ ?_<;>intro hc
  ·
   refine zsr<|(zP)<|zx14<|zf1 ⟨_,rfl,?_⟩
   refine⟨false_B ?_,hS.nl⟩
   rintro⟨g1,g2,g3,g4,g5⟩
   first
   |(rcases yD with⟨q1,_⟩|⟨_,_,_,q4⟩;exact absurd g1 q1;omega)
   |omega
   |(have h9:=g4 k hk0 (by omega);first|exact absurd h9.1 ‹_›|(have:=h9.2;omega))
   |(have h9:=g5 i hi0 (by omega);have h8:=hf i hi0 (by omega);rw [show k=u by omega] at h8;omega)
  refine Z7<|zlv (xfb 0 fd_35_0) ?_
  have hsd:ZT s:=by rcases yD with⟨_,_,_,q4⟩|⟨q1,_⟩;omega;exact q1
  obtain⟨⟨d1,d2⟩,⟨d3,d4⟩,d5⟩:=id hsd
  have yy:=hok.m1;have xc:=hok.m2;have hpd:=hok.d
  refine(zV (xlb 0 pl_22 hS))<|(zV (xln Zb h.L.slh))<|zla (xmk Zb Zn hS) ?_;rintro v1 w ⟨hS,hv1⟩
  refine(zP)<|zx5<|(zV (xfb 0 UA))<|(zV (xlb 1 Zu hS))<|(zV (xln Zi hM.row.slh))<|(zP)<|zx6<|zlp (fun mm M w=>∃(f:Int->Int) (k:Int),mm=((u-k).toNat)/\(0<=k)/\(k<=u)/\(∀i,0<=i->i<k->ZN p (ml i) (mf i)/\(s.X i).tdiv s.den<=1000)/\(∀j,0<=j->j<p.m->f j=Zo k mf s.X j)/\M= [(2,.pointer (some ⟨g1,0,none⟩)),(5,.pointer (some ⟨g3,0,none⟩)),(8,v1),(44,vM),(45,.int .i64 u),(46,.int .i64 k)]/\Sat w0 w [.blk g1 [vL,vD,.int .i64 p.stock,.int .i64 p.kerf],.blk g2 [vM,vX,vY,.int .i64 s.val,.int .i64 s.den],.blk g3 [vX,vY,.int .i64 s.val,.int .i64 s.den],.blk g4 [.int .i64 cz,.int .i64 cy],.own v1 1 3 p.m (ints f)]) ⟨(fun _=>0),0,rfl,(by omega),(by omega),?_,?_,rfl,hS⟩ ?_
  ·
   intro i i0 i1;omega
  ·
   intro j _ _;rfl
  clear hS w
  rintro mm M w ⟨f,k,rfl,hk0,hk1,qa,hf,rfl,hS⟩
  refine zsr<|(zP)<|zx7<|Ze ?_ ?_<;>intro hc
  ·
   refine zx3<|(zP)<|(zV (xix (kk:=k) Zi hM.row.slh))<|zlv (xlr (u:=(mv k)) pl_22 (hM.row.below hS.below)) ?_
   have jp:=d5 k hk0 (by omega)
   have hqd:=Yx (a:=s.X k) (d:=s.den) (A:=1073741824) (by omega) (by omega)
   refine(zP)<|(zP)<|zlt<|zsq<|zsq<|zdst [0,1,2,3,4] [0,1,2,3,4] 1000 mx_ hS ?_;clear hS;intro w hS
   refine(zDl 0 (fun w hS=>(xls 0 st_35 hS)))<|(zDw 1 xmv)<|zdc 2 (xc0 Zeg) (Ri (p:=p) w (h.below hS.below) ((hM.p k (by omega) (by omega)).below hS.below)) ?_;rintro _ w ⟨rfl,hS'⟩
   replace hS:=hS.cmp hS';clear hS'
   refine⟨⟨fun _=>hS,hS⟩,?_⟩
   refine(zDw 3 YK)<|(zDw 4 xmv)<|zdb 55 ?_ ?_<;>intro hc
   ·
    refine(zDo 5)<|(zDo 6)<|(zDo 7)<|(zDo 8)<|(zDo 9)<|(zDo 10)<|(zDo 11)<|(zDo 12)<|(zDo 13)<|(zDw 14 xpt)<|zdd<|ztn<|zct<|zsr ?_
    refine(zP)<|zlt<|zrt<|ztr<|zbr<|ztr<|ztr<|zbr<|ztr<|zf1 ⟨_,rfl,?_⟩
    refine⟨false_B ?_,hS.nl⟩
    rintro⟨g1,g2,g3,g4,g5⟩
    first
    |(rcases yD with⟨q1,_⟩|⟨_,_,_,q4⟩;exact absurd g1 q1;omega)
    |omega
    |(have h9:=g4 k hk0 (by omega);first|exact absurd h9.1 ‹_›|(have:=h9.2;omega))
    |(have h9:=g5 i hi0 (by omega);have h8:=hf i hi0 (by omega);rw [show k=u by omega] at h8;omega)
   refine(zDw 5 (xfb 0 fd_29_0))<|(zDl 6 (fun w hS=>(xlb 2 pl_22 hS)))<|(zDw 7 xmv)<|(zDw 8 (xix (kk:=k) Zb hX.slh))<|(zDl 9 (fun w hS=>(xlr (u:= .int .i64 (s.X k)) pl_3 (hX.below hS.below))))<|(zDw 10 (xfb 3 fd_29_3))<|(zDl 11 (fun w hS=>(xlb 2 pl_3 hS)))<|(zDw 12 (Ut (r:=(Int.tdiv (s.X k) s.den))))<|(zDw 13 Yr)<|(zDw 14 xpf)<|zdd<|ztn ?_
   refine Ze ?_ ?_<;>intro hc
   ·
    refine zsr<|(zP)<|zlt<|zrt<|ztr<|zbr<|ztr<|ztr<|zbr<|ztr<|zf1 ⟨_,rfl,?_⟩
    refine⟨false_B ?_,hS.nl⟩
    rintro⟨g1,g2,g3,g4,g5⟩
    first
    |(rcases yD with⟨q1,_⟩|⟨_,_,_,q4⟩;exact absurd g1 q1;omega)
    |omega
    |(have h9:=g4 k hk0 (by omega);first|exact absurd h9.1 ‹_›|(have:=h9.2;omega))
    |(have h9:=g5 i hi0 (by omega);have h8:=hf i hi0 (by omega);rw [show k=u by omega] at h8;omega)
   refine Z7<|zlv xmv ?_
   have hpk:ZN p (ml k) (mf k):=by first|assumption|exact Classical.not_not.1 ‹_›
   have hrk:=YA hpk
   have hXk:=d5 k hk0 (by omega)
   refine(zV (xln Zb (hM.p k (by omega) (by omega)).slh))<|(zP)<|zx6<|zlp (fun mm M w=>∃(f2:Int->Int) (j:Int),mm=((ml k-j).toNat)/\(0<=j)/\(j<=ml k)/\(∀q,0<=q->q<p.m->f2 q=(if q<j then Zo (k+1) mf s.X q else Zo k mf s.X q))/\M= [(2,.pointer (some ⟨g1,0,none⟩)),(5,.pointer (some ⟨g3,0,none⟩)),(8,v1),(9,.int .i64 k),(44,vM),(45,.int .i64 u),(46,.int .i64 k),(66,(mv k)),(67,.int .i64 (ml k)),(68,.int .i64 j)]/\Sat w0 w [.blk g1 [vL,vD,.int .i64 p.stock,.int .i64 p.kerf],.blk g2 [vM,vX,vY,.int .i64 s.val,.int .i64 s.den],.blk g3 [vX,vY,.int .i64 s.val,.int .i64 s.den],.blk g4 [.int .i64 cz,.int .i64 cy],.own v1 1 3 p.m (ints f2)]) ⟨f,0,rfl,(by omega),(by omega),?_,rfl,hS⟩ ?_
   ·
    intro q q0 q1;rw [if_neg (by omega)];exact hf q q0 q1
   clear hS w
   rintro mm M w ⟨f2,j,rfl,hj0,hj1,hf2,rfl,hS⟩
   refine zsr<|(zP)<|zx7<|Ze ?_ ?_<;>intro hc
   ·
    refine zx3<|(zP)<|(zV (xix (kk:=j) Zb (hM.p k (by omega) (by omega)).slh))<|zlv (xlr (u:= .int .i64 ((mf k) j)) pl_3 ((hM.p k (by omega) (by omega)).below hS.below)) ?_
    have hrj:=hrk.2 j hj0 (by omega)
    have hxj:=Xl hrj.1 hrj.2 hXk.1 hXk.2
    have hmr:=Zcs (m:=p.m) (u:=k) (fun i i0 i1=>⟨(YA (qa i i0 i1).1).2,d5 i i0 (by omega)⟩) hk0 (Int.le_refl _) (j:=j) hj0 (by omega)
    have hfj:=hf2 j hj0 (by omega)
    rw [if_neg (by omega)] at hfj
    refine(zP)<|(zP)<|zlt<|zdst [0,1,2,3,4] [0,1,2,3] 13 mx_ hS ?_;clear hS;intro w hS
    refine(zDw 0 xmv)<|(zDw 1 xmv)<|(zDw 2 (xix (kk:=j) Zb hv1))<|zdl 3 (fun w hS=>(xlr (u:= .int .i64 (f2 j)) pl_3 (hS.rowN 4 rfl))) ?_
    refine(zDw 4 xmv)<|(zDw 5 (xfb 0 fd_29_0))<|(zDl 6 (fun w hS=>(xlb 2 pl_22 hS)))<|(zDw 7 xmv)<|(zDw 8 (xix (kk:=k) Zb hX.slh))<|(zDl 9 (fun w hS=>(xlr (u:= .int .i64 (s.X k)) pl_3 (hX.below hS.below))))<|(zDw 10 (Z4 (r:=(((mf k) j)*(s.X k))) (e:=rfl)))<|(zDw 11 (Zf (r:=f2 j+(((mf k) j)*(s.X k)))))<|(zDw 12 (xix (kk:=j) Zb hv1))<|zde 13 (xso 4 pl_3 hS (ZE _ _ _)) ?_;clear hS;rintro w hS
    refine⟨⟨fun h=>absurd h (by decide),hS.pk [0,1,2,3]⟩,?_⟩
    refine zdd<|zbn<|ztn<|zrg ?_
    refine(zV (Zf (r:=j+1)))<|(zP)<|zln<|zlq ⟨(upd f2 j (f2 j+(((mf k) j)*(s.X k)))),j+1,rfl,(by omega),(by omega),?_,rfl,hS⟩
    ·
     intro q q0 q1;unfold upd;by_cases e:q=j
     · rw [if_pos e,if_pos (by omega),e,YU hk0];omega
     · rw [if_neg e,hf2 q q0 q1];by_cases e2:q<j
       · rw [if_pos e2,if_pos (by omega)]
       · rw [if_neg e2,if_neg (by omega)]
   refine zx21<|(zV (Zf (r:=k+1)))<|(zP)<|zln<|zlq ⟨f2,k+1,rfl,(by omega),(by omega),?_,?_,rfl,hS⟩
   ·
    intro i i0 i1;rcases Int.lt_or_eq_of_le (show i<=k by omega) with h9|h9
    · exact qa i i0 h9
    · rw [h9];exact⟨hpk,by omega⟩
   ·
    intro q q0 q1;rw [hf2 q q0 q1,if_pos (by omega)]
  refine zx18<|(zP)<|(zV (xln Zb hv1))<|(zP)<|zx6<|zlp (fun mm M w=>∃(i:Int),mm=((p.m-i).toNat)/\(0<=i)/\(i<=p.m)/\(∀j,0<=j->j<i->p.D j*s.den<=f j)/\M= [(2,.pointer (some ⟨g1,0,none⟩)),(5,.pointer (some ⟨g3,0,none⟩)),(88,v1),(89,.int .i64 p.m),(90,.int .i64 i)]/\Sat w0 w [.blk g1 [vL,vD,.int .i64 p.stock,.int .i64 p.kerf],.blk g2 [vM,vX,vY,.int .i64 s.val,.int .i64 s.den],.blk g3 [vX,vY,.int .i64 s.val,.int .i64 s.den],.blk g4 [.int .i64 cz,.int .i64 cy],.own v1 1 3 p.m (ints f)]) ⟨0,rfl,(by omega),(by omega),?_,rfl,hS⟩ ?_
  ·
   intro j j0 j1;omega
  clear hS w
  rintro mm M w ⟨i,rfl,hi0,hi1,hge,rfl,hS⟩
  refine zsr<|(zP)<|zx7<|Ze ?_ ?_<;>intro hc
  ·
   refine zx3<|(zP)<|(zV (xix (kk:=i) Zb hv1))<|zlv (xlr (u:= .int .i64 (f i)) pl_3 (hS.rowN 4 rfl)) ?_
   have hdd:=X2 hok hi0 (by omega:i<p.m)
   have hdm:=Xl hdd.1 hdd.2 (show 0<=s.den by omega) d2
   refine(zP)<|(zP)<|zx7<|zdst [0,1,2,3,4] [0,1,2,3,4] 1000 mx_ hS ?_;clear hS;intro w hS
   refine(zDw 0 xmv)<|(zDw 1 (xfb 1 fd_35_1))<|(zDl 2 (fun w hS=>(xlb 0 pl_22 hS)))<|(zDw 3 xmv)<|(zDw 4 (xix (kk:=i) Zb h.D.slh))<|zdla 5 (fun w hS=>(xlr (u:= .int .i64 (p.D i)) pl_3 (h.D.below hS.below))) ?_
   have hbv:=h.iD i
   refine(zDw 6 (xfb 3 fd_29_3))<|(zDl 7 (fun w hS=>(xlb 2 pl_3 hS)))<|(zDw 8 (Z4 (r:=((p.D i)*s.den)) (e:=rfl)))<|(zDw 9 ZZ)<|zdd<|ztn ?_
   refine Ze ?_ ?_<;>intro hc
   ·
    refine zsr<|(zP)<|zx2<|zf1 ⟨_,rfl,?_⟩
    refine⟨false_B ?_,hS.nl⟩
    rintro⟨g1,g2,g3,g4,g5⟩
    first
    |(rcases yD with⟨q1,_⟩|⟨_,_,_,q4⟩;exact absurd g1 q1;omega)
    |omega
    |(have h9:=g4 k hk0 (by omega);first|exact absurd h9.1 ‹_›|(have:=h9.2;omega))
    |(have h9:=g5 i hi0 (by omega);have h8:=hf i hi0 (by omega);rw [show k=u by omega] at h8;omega)
   refine zx4<|(zV (Zf (r:=i+1)))<|(zP)<|zln<|zlq ⟨i+1,rfl,(by omega),(by omega),?_,rfl,hS⟩
   ·
    intro j j0 j1;rcases Int.lt_or_eq_of_le (show j<=i by omega) with h9|h9
    · exact hge j j0 h9
    · rw [h9];omega
  refine zx8<|(zP)<|zx1<|zf1 ⟨_,rfl,?_⟩
  exact⟨ZU ⟨hsd,by omega,by omega,fun k k0 k1=>qa k k0 (by omega),fun j j0 j1=>by have h9:=hge j j0 (by omega);have h8:=hf j j0 j1;rw [show k=u by omega] at h8;omega⟩,hS.nl⟩
  all_goals
   refine zOps ?_
   refine zlt<|zct<|zsr ?_
   refine zOps ?_
   refine zx14<|zf1 ⟨_,rfl,?_⟩
   refine⟨false_B ?_,hS.nl⟩
   rintro⟨g1,g2,g3,g4,g5⟩
   first
   |(rcases yD with⟨q1,_⟩|⟨_,_,_,q4⟩;exact absurd g1 q1;omega)
   |omega
   |(have h9:=g4 k hk0 (by omega);first|exact absurd h9.1 ‹_›|(have:=h9.2;omega))
   |(have h9:=g5 i hi0 (by omega);have h8:=hf i hi0 (by omega);rw [show k=u by omega] at h8;omega)
theorem ZbQ (s:So) (ml:Int->Int) (mf:Int->Int->Int):∀n:Nat,∀k,0<=k->k<flN s n->∃q:Nat,q<n/\s.den<=s.X q/\flL s ml n k=ml q/\flG s mf n k=mf q/\flC s n k=(s.X q).tdiv s.den
  |0,k,k0,k1=>by simp [flN] at k1;omega
  | n + 1,k,k0,k1=>by
    simp only [flN,flL,flG,flC] at k1⊢
    by_cases h:s.den<=s.X n
    · rw [if_pos h] at k1⊢
      rw [if_pos h,if_pos h]
      by_cases e:k<flN s n
      · obtain⟨q,h1,h2,h3,h4,h5⟩:=ZbQ s ml mf n k k0 e
        exact⟨q,by omega,h2,by rw [Zs e];exact h3,by rw [Zs e];exact h4,by rw [Zl e];exact h5⟩
      · exact⟨n,by omega,h,Zr e,Zr e,Zk e⟩
    · rw [if_neg h] at k1⊢
      rw [if_neg h,if_neg h]
      obtain⟨q,h1,h2,h3,h4,h5⟩:=ZbQ s ml mf n k k0 k1
      exact⟨q,by omega,h2,h3,h4,h5⟩
theorem ZaW(s:So)(mf:Int->Int->Int)(j:Int)(N:Int)(hX:∀k:Nat,(k:Int)<N->0<=s.X k)(hd:1<=s.den):∀n:Nat,(n:Int)<=N->psum (fun k=>flG s mf n k j) (flC s n) (flN s n).toNat=psum (fun q=>mf q j) (fun q=>(s.X q).tdiv s.den) n
  |0,_=>rfl
  | n +1,hN=>by
    have h0:=Wl s n
    have ih:=ZaW s mf j N hX hd n (by omega)
    have eF:∀(F G c d:Int->Int) (m:Nat),(∀k:Nat,k<m->F k=G k/\c k=d k)->psum F c m=psum G d m:=by
      intro F G c d m
      induction m with
      |zero=>intro _;rfl
      |succ m ihm=>intro h;simp only [psum];rw [ihm fun k hk=>h k (by omega),(h m (by omega)).1,(h m (by omega)).2]
    rw [psum]
    by_cases h:s.den<=s.X n
    · simp only [flN,flG,flC]
      rw [if_pos h,if_pos h,if_pos h]
      have e:=YC (fun k=>gsn (flG s mf n) (flN s n) (mf n) k j) (snoc (flC s n) (flN s n) ((s.X n).tdiv s.den)) (i:=flN s n) h0.1
      rw [e,Zr (by omega),Zk (by omega),<-ih]
      congr 1
      exact eF _ _ _ _ _ fun k hk=>⟨by rw [Zs (by omega)],by rw [Zl (by omega)]⟩
    · simp only [flN,flG,flC]
      rw [if_neg h,if_neg h,if_neg h,ih,Int.tdiv_eq_zero_of_lt (hX n (by omega)) (by omega)]
      omega
def WholeR(p:Prob)(u:Int)(ml:Int->Int)(mf:Int->Int->Int)(s:So)(n:Int)(ln:Int->Int)(pt:Int->Int->Int)(cnt:Int->Int)(e:Int):Prop:=
  (¬(p.Ok/\WZ p u ml mf s)/\n=0/\e=1)\/(p.Ok/\WZ p u ml mf s/\ChkR p e/\e≠0/\n=0)\/
  (p.Ok/\WZ p u ml mf s/\ChkR p 0/\e=0/\n=flN s u.toNat/\ln=flL s ml u.toNat/\pt=flG s mf u.toNat/\cnt=flC s u.toNat)
theorem WholeR.ok{p:Prob}(h:WholeR p u ml mf s n ln pt cnt e)(he:e=0)(hu:0<=u):p.Ok/\WZ p u ml mf s/\psum (fun _=>1) p.D p.m.toNat<=1000/\n<=60/\PlanOk p n ln pt cnt/\0<=n:=by
  rcases h with⟨_,_,h⟩|⟨_,_,_,h,_⟩|⟨h1,h2,h3,_,h4,h5,h6,h7⟩
  · omega
  · exact absurd he h
  · have hr:=Wl s u.toNat
    have hu6:=h2.2.2.1
    refine⟨h1,h2,?_,by omega,⟨h1,by omega,fun k k0 k1=> ?_⟩,by omega⟩
    · rcases h3 with⟨h,_⟩|⟨_,_,h⟩|⟨_,h,_⟩
      · exact absurd h1 h
      · omega
      · exact h
    · rw [h4] at k1
      obtain⟨q,q1,q2,q3,q4,q5⟩:=ZbQ s ml mf u.toNat k k0 k1
      rw [h5,h6,h7,q3,q4,q5]
      obtain⟨g1,g2⟩:=h2.2.2.2.1 q (by omega) (by omega)
      have hd:=h2.1.1
      refine⟨?_,g2,g1.1⟩
      rw [Int.tdiv_eq_ediv_of_nonneg (by omega)]
      exact(Int.le_ediv_iff_mul_le (by omega)).2 (by omega)
theorem KS{p:Prob}(hok:p.Ok){f:Int->Int}(hf:∀k,0<=k->k<p.m->0<=f k):(⟨p.m,p.L,p.d,leftF p f,p.stock,p.kerf⟩:Prob).Ok:=by
  refine⟨hok.m1,hok.m2,hok.d,hok.s1,hok.s2,hok.k1,hok.k2,fun i i0 i1=> ?_⟩
  have he:=hok.all i i0 i1
  have h1:=X2 hok i0 i1
  have h2:=hf i i0 i1
  unfold Prob.each at he⊢
  have e:leftF p f i=max 0 (p.D i-f i):=if_pos ⟨i0,i1⟩
  show _/\_
  dsimp only
  rw [e]
  omega
theorem WQ{p:Prob}(hok:p.Ok){f:Int->Int}(hf:∀k,0<=k->k<p.m->0<=f k):∀n:Nat,(n:Int)<=p.m->psum (fun _=>1) (leftF p f) n<=psum (fun _=>1) p.D n
  |0,_=>Int.le_refl _
  | n+1,hn=>by
    have h1:=WQ hok hf n (by omega)
    have h2:=hf n (by omega) (by omega)
    have h3:=X2 hok (k:=(n:Int)) (by omega) (by omega)
    have e:leftF p f n=max 0 (p.D n-f n):=if_pos ⟨by omega,by omega⟩
    simp only [psum,e]
    omega
theorem Zb5{p:Prob}(w0:World)(h:PAt w0 vL vD p)(hM:MAt w0 vM u mv ml mf)(hX:Row w0 vX 1 s.n (ints s.X))(hY:Row w0 vY 1 s.m (ints s.Y))(xV:s.n<=1000):
    Calls Tryz.prog 63 [.agg #[vL,vD,.int .i64 p.stock,.int .i64 p.kerf],.agg #[vM,vX,vY,.int .i64 s.val,.int .i64 s.den]].toArray w0 fun e w=>∃v,e= .returned v/\∃r n pv ln pt cnt e,v= .tuple #[r,.int .i64 e]/\WholeR p u ml mf s n ln pt cnt e/\Slh r n/\Sat w0 w [.own r 2 111 n (Zd pv cnt),.sem (Frame.rows 3 n pv ln pt)]:=by
  have hm:=h.L.slh.n0;have hm1:=h.L.slh.n1;have hd:=h.D.slh.n0;have hd1:=h.D.slh.n1;have hs:=h.is;have hk:=h.ik
  have hu:=hM.row.slh.n0;have hu1:=hM.row.slh.n1;have hn:=hX.slh.n0;have hn1:=hX.slh.n1
  refine Zm Tryz.func63 Tryz.ntmps63 fun w hS=> ?_
  refine zsr<|zla (xbx (cs:= [_,_,_,_]) hS) ?_;rintro _ w ⟨g1,rfl,hS⟩
  refine zla (xbx (cs:= [_,_,_,_,_]) hS) ?_;rintro _ w ⟨g2,rfl,hS⟩
  refine(zP)<|(zP)<|zx5<|(zV (xls 0 st_35 hS))<|zlc (xc0 Un) (Xo (p:=p) w (h.below hS.below)) ?_;rintro _ w ⟨rfl,hS'⟩
  replace hS:=hS.cmp hS';clear hS'
  refine(zP)<|(zP)<|zlb 12 ?_ ?_<;>intro hc
  ·
   iterate 4 refine zlo ?_
   refine(zP)<|zlt<|zct<|zsr ?_
   refine(zP)<|(zP)<|zx14<|zf2 ⟨_,rfl,?_⟩
   exact⟨_,0,fun _=>undef,fun _=>0,fun _ _=>0,fun _=>0,1,rfl,.inl ⟨by first|exact fun hh=>absurd hh.1 ‹¬p.Ok›|exact fun hh=>absurd hh.2 ‹_›,rfl,rfl⟩,slh_nil,((hS.sub (.cons _ (.cons _ .slnil))).addnil 2 111 (Zd (fun _=>undef) (fun _=>0))).addrows 3 (fun _=>undef) (fun _=>0) (fun _ _=>0)⟩
  refine(zV (xls 0 st_35 hS))<|(zV (xls 1 Ws hS))<|zlc (xc0 ZjD) (ZcR (p:=p) (u:=u) (ml:=ml) (mf:=mf) (s:=s) w (h.below hS.below) (by first|assumption|exact Classical.not_not.1 ‹_›) (hM.below hS.below) (hX.below hS.below) (hY.below hS.below) xV) ?_;rintro _ w ⟨rfl,hS'⟩
  replace hS:=hS.cmp hS';clear hS'
  refine(zP)<|(zP)<|zlt<|Ze ?_ ?_<;>intro hc
  ·
   refine zsr<|(zP)<|(zP)<|zx14<|zf2 ⟨_,rfl,?_⟩
   exact⟨_,0,fun _=>undef,fun _=>0,fun _ _=>0,fun _=>0,1,rfl,.inl ⟨by first|exact fun hh=>absurd hh.1 ‹¬p.Ok›|exact fun hh=>absurd hh.2 ‹_›,rfl,rfl⟩,slh_nil,((hS.sub (.cons _ (.cons _ .slnil))).addnil 2 111 (Zd (fun _=>undef) (fun _=>0))).addrows 3 (fun _=>undef) (fun _=>0) (fun _ _=>0)⟩
  refine Xb<|(zV (xls 0 st_35 hS))<|zlc (xc0 ZgN) (Zcc (p:=p) w (h.below hS.below)) ?_;rintro _ w ⟨dw,rfl,aN,hS'⟩
  replace hS:=hS.cmp hS';clear hS'
  have qg:p.Ok:=by first|assumption|exact Classical.not_not.1 ‹_›
  have qq:WZ p u ml mf s:=by first|assumption|exact Classical.not_not.1 ‹_›
  have qs:=qg
  refine(zP)<|zlz<|(zP)<|(zP)<|zlt<|Ze ?_ ?_<;>intro hc
  ·
   refine zsr<|(zP)<|(zP)<|(zP)<|zx14<|zf2 ⟨_,rfl,?_⟩
   exact⟨_,0,fun _=>undef,fun _=>0,fun _ _=>0,fun _=>0,_,rfl,.inr (.inl ⟨qg,qq,aN,by omega,rfl⟩),slh_nil,((hS.sub (.cons _ (.cons _ .slnil))).addnil 2 111 (Zd (fun _=>undef) (fun _=>0))).addrows 3 (fun _=>undef) (fun _=>0) (fun _ _=>0)⟩
  refine Z7<|zlv (xfb 0 UA) ?_
  have hml:=fun k k0 k1=>(show ml k<=100000 by have:=(YA (qq.2.2.2.1 k k0 k1).1).1;have:=qg.m2;omega)
  have hun:=qq.2.1
  refine(zV (xlb 1 Zu hS))<|(zV (xfb 1 fd_31_1))<|(zV (xlp 1 (ds:= [vX,vY,.int .i64 s.val,.int .i64 s.den]) Z3 hS))<|zlc (xc0 ZiI) (ZcQ (u:=u) (ml:=ml) (mf:=mf) (s:=s) w (hM.below hS.below) (hX.below hS.below) (hY.below hS.below) (by omega) (fun k k0 k1=>by have:=hml k k0 k1;omega)) ?_;rintro _ w ⟨ax,qF,zj,yB,xS,xD,cv,rfl,zf,zA,hS'⟩
  replace hS:=(hS.comp hS').n4;clear hS'
  have bt:=fun k (k0:0<=k) (k1:k<qF)=>hS.slhIn 3 rfl k0 k1
  refine zs5 ?_
  refine zlz<|(zP)<|(zP)<|(zP)<|zx1<|zf2 ⟨_,rfl,?_⟩
  have hfl:=zf.resolve_left fun hh=>hh.1 ⟨qq.1,qq.2.1.symm⟩
  exact⟨_,_,_,_,_,_,0,rfl,.inr (.inr ⟨qg,qq,(by rw [show(0:Int)=dw by omega];exact aN),rfl,hfl.2.2.1,hfl.2.2.2.1,hfl.2.2.2.2.1,hfl.2.2.2.2.2.1⟩),zA,hS.pk [2,3]⟩
theorem Zjm{w:World}{v a b:Value}(h:Row w v 1 2 (fun k=> [a,b].getD k.toNat undef)):Row w v 1 2 (Z9 a b):=⟨h.1,fun k hk=>by
  have:=h.2 k hk
  rcases k with _|_|k
  · exact this
  · exact this
  · simp at hk;omega⟩
theorem VAt.cat{w:World}{v v1 v2:Value}{n1 n2:Int}{pv1 pv2:Int->Value}{ln1 ln2 c1 c2:Int->Int}{pt1 pt2:Int->Int->Int}(hr:Row w v 2 (n1+n2) (Zd (cat n1 pv1 pv2) (cat n1 c1 c2)))(h1:VAt w v1 n1 pv1 ln1 pt1 c1)(h2:VAt w v2 n2 pv2 ln2 pt2 c2)(n10:0<=n1):VAt w v (n1+n2) (cat n1 pv1 pv2) (cat n1 ln1 ln2) (cat n1 pt1 pt2) (cat n1 c1 c2):=by
  refine⟨hr,fun i i0 i1=> ?_,fun i i0 i1=> ?_⟩
  · unfold Gw.cat
    by_cases h:i<n1
    · rw [if_pos h,if_pos h,if_pos h];exact h1.p i i0 h
    · rw [if_neg h,if_neg h,if_neg h];exact h2.p (i-n1) (by omega) (by omega)
  · unfold Gw.cat
    by_cases h:i<n1
    · rw [if_pos h];exact h1.room i i0 h
    · rw [if_neg h];exact h2.room (i-n1) (by omega) (by omega)
theorem Zj9(n m:Int)(p q:Int->Value){k:Int}(k0:0<=k)(k1:k<n+m):R7 (Z9 n m) (Z9 p q) 2 k=cat n p q k:=by
  simp only [R7,tot,Z9,Gw.cat]
  by_cases h:k<n
  · simp [h];omega
  · simp [h]
theorem Rf(n m:Int)(p q:Int->Int){k:Int}(k0:0<=k)(k1:k<n+m):WY (Z9 n m) (Z9 p q) 2 k=cat n p q k:=by
  simp only [WY,tot,Z9,Gw.cat]
  by_cases h:k<n
  · simp [h];omega
  · simp [h]
def DownR(p:Prob)(u:Int)(ml:Int->Int)(mf:Int->Int->Int)(s:So)(out:Us)(e:Int):Prop:=
  (e≠0/\out= []/\∃n ln pt cnt,WholeR p u ml mf s n ln pt cnt e)\/(∃n1 ln1 pt1 q6 n2 ln2 pt2 cnt2,WholeR p u ml mf s n1 ln1 pt1 q6 0/\0<=n1/\0<=n2/\NormR (VZ (Yh p.m (p.stock+p.kerf) (szP p) (pcsTo (leftF p (Zo n1 pt1 q6)) p.m 0))) (plL n2 ln2 pt2 cnt2)/\TrimR p (n1+n2) (cat n1 ln1 ln2) (cat n1 pt1 pt2) (cat n1 q6 cnt2) out e)
theorem Zi2{p:Prob}(w0:World)(h:PAt w0 vL vD p)(hM:MAt w0 vM u mv ml mf)(hX:Row w0 vX 1 s.n (ints s.X))(hY:Row w0 vY 1 s.m (ints s.Y))(xV:s.n<=1000):
    Calls Tryz.prog 33 [.agg #[vL,vD,.int .i64 p.stock,.int .i64 p.kerf],.agg #[vM,vX,vY,.int .i64 s.val,.int .i64 s.den]].toArray w0 fun e w=>∃v,e= .returned v/\∃r n pv ln pt cnt e,v= .tuple #[r,.int .i64 e]/\DownR p u ml mf s (plL n ln pt cnt) e/\(∀k,0<=k->k<n->1<=cnt k/\cnt k<=1000000000)/\n<=1000000/\Slh r n/\Sat w0 w [.own r 2 111 n (Zd pv cnt),.sem (Frame.rows 3 n pv ln pt)]:=by
  have hm:=h.L.slh.n0;have hm1:=h.L.slh.n1;have hd:=h.D.slh.n0;have hd1:=h.D.slh.n1;have hs:=h.is;have hk:=h.ik
  have hu:=hM.row.slh.n0;have hu1:=hM.row.slh.n1;have hn:=hX.slh.n0;have hn1:=hX.slh.n1
  refine Zm Tryz.func33 Tryz.ntmps33 fun w hS=> ?_
  refine zsr<|zla (xbx (cs:= [_,_,_,_]) hS) ?_;rintro _ w ⟨g1,rfl,hS⟩
  refine zla (xbx (cs:= [_,_,_,_,_]) hS) ?_;rintro _ w ⟨g2,rfl,hS⟩
  refine(zP)<|(zP)<|zlz<|(zV (xls 0 st_35 hS))<|(zV (xls 1 Ws hS))<|zlc (xc0 ZgL) (Zb5 (p:=p) (u:=u) (ml:=ml) (mf:=mf) (s:=s) w (h.below hS.below) (hM.below hS.below) (hX.below hS.below) (hY.below hS.below) xV) ?_;rintro _ w ⟨xu,qn,qQ,xR,xl,qR,bF,rfl,yg,af,hS'⟩
  replace hS:=(hS.comp hS').n4;clear hS'
  have bl:=fun k (k0:0<=k) (k1:k<qn)=>hS.slhIn 3 rfl k0 k1
  refine zs5 ?_
  refine zx5<|(zP)<|(zP)<|zlt<|Ze ?_ ?_<;>intro hc
  ·
   refine zsr<|(zP)<|(zP)<|(zP)<|zx14<|zf2 ⟨_,rfl,?_⟩
   exact⟨_,0,fun _=>undef,fun _=>0,fun _ _=>0,fun _=>0,_,rfl,.inl ⟨by omega,rfl,_,_,_,_,yg⟩,fun k k0 k1=>by omega,by omega,slh_nil,((hS.sub (.cons _ (.cons _ (.cons _ (.cons _ .slnil))))).addnil 2 111 (Zd (fun _=>undef) (fun _=>0))).addrows 3 (fun _=>undef) (fun _=>0) (fun _ _=>0)⟩
  refine Z7<|zlv (xls 0 st_35 hS) ?_
  obtain⟨qg,qq,zB,br,zb,zc⟩:=yg.ok (by omega) hu
  have qs:=qg
  refine(zP)<|zlc (xc0 Zaq) (VK (u:=qn) (pv:=qQ) (ln:=xR) (pt:=xl) (cnt:=qR) (p:=p) w (⟨(hS.rowN 2 rfl),fun k k0 k1=>hS.rowIn 3 rfl k0 k1,fun k k0 k1=>hS.roomIn 3 rfl k0 k1⟩:VAt _ xu qn qQ xR xl qR) (h.below hS.below)) ?_;rintro _ w ⟨qh,qd,qb,xT,rfl,qm,qe,hS'⟩
  replace hS:=(hS.comp hS').n5;clear hS'
  obtain⟨zY,xW⟩:qd=p.m/\qb=Zo qn xl qR:=by rcases qm with⟨g1,_⟩|⟨_,g2,g3,_⟩;exact absurd zb g1;exact⟨g2,g3⟩
  have yI:∀k,0<=k->k<p.m->0<=qb k/\qb k<=2000000000:=fun k k0 k1=>by rw [xW];have h9:=Yj zb.2.2 zc (Int.le_refl _) k0 k1;omega
  have yA:=fun k (k0:0<=k) (k1:k<p.m)=>(yI k k0 k1).1
  have htl:=WQ qg yA p.m.toNat (by have:=qg.m1;omega)
  refine zs5 ?_
  refine zx7<|zdst [0,1,2,3,4] [0,1,2,3,4] 1000 mx_ hS ?_;clear hS;intro w hS
  refine(zDl 0 (fun w hS=>(xls 0 st_35 hS)))<|(zDw 1 xmv)<|(zDl 2 (fun w hS=>(xls 0 st_35 hS)))<|(zDw 3 xmv)<|zdc 4 (xc0 Zd0) (Zbh (p:=p) (f:=qb) w (h.below hS.below) qg (zY▸(hS.rowN 4 rfl)) yI) ?_;rintro _ w ⟨xQ,qP,rfl,x4,qU,hS'⟩
  replace hS:=(hS.comp hS').n7;clear hS'
  refine⟨⟨fun _=>hS.pk [0,1,2,3,4],hS.pk [0,1,2,3,4]⟩,?_⟩
  refine zdc 5 (xc0 ZgM) (Tv (p:=(⟨p.m,p.L,p.d,(leftF p qb),p.stock,p.kerf⟩:Prob)) w (⟨(hS.rowN 5 rfl),(hS.rowN 6 rfl),h.iL,(T0 qg yA),(by(try dsimp only);omega),(by(try dsimp only);omega)⟩:PAt _ _ _ (⟨p.m,p.L,p.d,(leftF p qb),p.stock,p.kerf⟩:Prob)) (KS qg yA) (by show psum (fun _=>1) (leftF p _) p.m.toNat<=1000;omega)) ?_;rintro xm w ⟨_,qo,qT,qK,qH,qE,rfl,qY,xA,zw,xk,q9,hS'⟩
  replace hS:=(hS.comp hS').n9;clear hS'
  have yx:=fun k (k0:0<=k) (k1:k<qo)=>hS.slhIn 8 rfl k0 k1
  refine⟨⟨fun _=>hS.pk [0,1,2,3,4],hS.pk [0,1,2,3,4]⟩,?_⟩
  refine zda 6 (xli (n:=2) (len:=2) (pv:= [(0,xu),(1,xm)]) (cs:= [xu,xm]) (c:=fun k=>([(xu:Value),(xm:Value)]).getD k.toNat undef) UT ZgF hS (hf:=by obtain⟨_,_,_,_,rfl,_⟩:=af;obtain⟨_,_,_,_,rfl,_⟩:=q9;kernel_rfl)) ?_;rintro v1 w ⟨hS,hv1⟩
  refine⟨⟨fun _=>hS.pk [0,1,2,3,4],hS.pk [0,1,2,3,4]⟩,?_⟩
  have hna:=Zkq (w:=w) (n:=qn) (m:=qo) (pa:=qQ) (pb:=qT) (ca:=qR) (cb:=qE) (Zjm (hS.rowN 9 rfl)) (hS.rowN 2 rfl) (hS.rowN 7 rfl) (fun k k0 k1=>(bl k k0 k1).one) (fun k k0 k1=>(yx k k0 k1).one)
  have htt:∀k:Int,0<=k->k<=2->tot (Z9 qn qo) k.toNat<=10000000:=fun k k0 k1=>by
    have:k=0\/k=1\/k=2:=by omega
    rcases this with rfl|rfl|rfl
    · simp [tot]
    · simp [tot,Z9];omega
    · have e2:=Zfb qn qo;rw [show(2:Int).toNat=2 from rfl,e2];omega
  refine zdc 7 (xc0 ZjV) (ZcT w hna htt) ?_;rintro vq1 w ⟨_,rfl,qc,hS'⟩
  rw [show(2:Int).toNat=2 from rfl,Zfb] at qc hS'
  replace hS':=hS'.recont 0 rfl (d:=Zd (cat qn qQ qT) (cat qn qR qE)) (fun k k0 k1=>by unfold Zd;rw [Zj9 _ _ _ _ (by omega) (by omega),Rf _ _ _ _ (by omega) (by omega)])
  replace hS:Sat w0 w [.blk g1 [vL,vD,.int .i64 p.stock,.int .i64 p.kerf],.blk g2 [vM,vX,vY,.int .i64 s.val,.int .i64 s.den],.own xu 2 111 qn (Zd qQ qR),.sem (Frame.rows 3 qn qQ xR xl),.own qh 1 3 qd (ints qb),.own xQ 1 3 p.m (ints p.L),.own qP 1 3 p.d (ints (leftF p qb)),.own xm 2 111 qo (Zd qT qE),.sem (Frame.rows 3 qo qT qK qH),.own v1 1 60 2 (fun k=>([(xu:Value),(xm:Value)]).getD k.toNat undef),.own vq1 2 111 (qn+qo) (Zd (cat qn qQ qT) (cat qn qR qE))]:=hS.comp hS'
  clear hS'
  refine⟨⟨fun _=>hS.pk [0,1,2,3,4],hS.pk [0,1,2,3,4]⟩,?_⟩
  refine zdc 8 (xc0 ZgK) (Zeq (u:=(qn+qo)) (pv:=(cat qn qQ qT)) (ln:=(cat qn xR qK)) (pt:=(cat qn xl qH)) (cnt:=(cat qn qR qE)) (p:=p) w (VAt.cat (hS.rowN 10 rfl) (⟨(hS.rowN 2 rfl),fun k k0 k1=>hS.rowIn 3 rfl k0 k1,fun k k0 k1=>hS.roomIn 3 rfl k0 k1⟩:VAt _ xu qn qQ xR xl qR) (⟨(hS.rowN 7 rfl),fun k k0 k1=>hS.rowIn 8 rfl k0 k1,fun k k0 k1=>hS.roomIn 8 rfl k0 k1⟩:VAt _ xm qo qT qK qH qE) (by omega)) (h.below hS.below)) ?_;rintro _ w ⟨aO,y5,aS,aY,bC,bH,bG,rfl,yj,yl,yk,yh,hS'⟩
  replace hS:=(hS.comp hS').n13;clear hS'
  have al:=fun k (k0:0<=k) (k1:k<y5)=>hS.slhIn 12 rfl k0 k1
  refine⟨⟨fun _=>hS.pk [0,1,2,3,4],hS.pk [0,1,2,3,4]⟩,?_⟩
  refine(zDw 9 xex)<|(zDw 10 xex)<|(zDw 11 xas)<|(zDw 12 xas)<|zdd<|ztn<|zrt<|zf2 ⟨_,rfl,?_⟩
  exact⟨_,_,_,_,_,_,_,rfl,.inr ⟨_,_,_,_,_,_,_,_,(by rw [show(0:Int)=bF by omega];exact yg),zc,xA,(by rw [<-xW];exact qY),yj⟩,yl,yk,yh,hS.pk [11,12]⟩
theorem Zbc{s:Int->Int}{F:Go.Proofs.Gw.Frame}(w0 w:World)(hS:Sat w0 w [.own vd 1 3 n (ints s),.sem F])(hsl:Slh vd n)(hn8:n<=100000000)(a0:0<=a)(m0:0<=m)(ab:a+m<=b)(bn:b+m<=n):
    Calls Tryz.prog 183 [vd,.int .i64 a,.int .i64 b,.int .i64 m,.func (.func 69) #[] #[(.pointer (some ⟨gs,0,none⟩))]].toArray w fun e w=>∃v,e= .returned v/\v= .tuple #[]/\Sat w0 w [.own vd 1 3 n (ints (swr s a b m)),.sem F]:=by
  refine zenF Tryz.func183 Tryz.ntmps183 ?_
  refine zsr<|(zP)<|zx6<|zlp (fun mm M w=>∃(t:Int->Int) (i:Int),mm=((m-i).toNat)/\(0<=i)/\(i<=m)/\(t=swr s a b i)/\M= [(0,vd),(1,.int .i64 a),(2,.int .i64 b),(3,.int .i64 m),(10,.int .i64 i)]/\Sat w0 w [.own vd 1 3 n (ints t),.sem F]) ⟨s,0,rfl,(by omega),(by omega),?_,rfl,hS⟩ ?_
  ·
   exact(Ko s a b).symm
  clear hS w
  rintro mm M w ⟨t,i,rfl,i0,i1,ht,rfl,hS⟩
  refine zx11<|(zP)<|(zP)<|(zP)<|zlt<|Ze ?_ ?_<;>intro hc
  ·
   refine zx38<|zdst [0,1] [1] 21 mx_ hS ?_;clear hS;intro w hS
   refine(zDw 0 xmv)<|(zDw 1 xmv)<|(zDw 2 xmv)<|(zDw 3 (Zf (r:=a+i)))<|(zDw 4 xmv)<|(zDw 5 xmv)<|(zDw 6 xmv)<|(zDw 7 (Zf (r:=b+i)))<|(zDw 8 xmv)<|(zDw 9 xmv)<|(zDw 10 xmv)<|(zDw 11 (Zf (r:=b+i)))<|(zDw 12 (xix (kk:=b+i) Zb hsl))<|zdl 13 (fun w hS=>(xlr (u:= .int .i64 (t (b+i))) pl_3 (hS.rowN 0 rfl))) ?_
   refine(zDw 14 xmv)<|(zDw 15 xmv)<|(zDw 16 xmv)<|(zDw 17 (Zf (r:=a+i)))<|(zDw 18 (xix (kk:=a+i) Zb hsl))<|zdl 19 (fun w hS=>(xlr (u:= .int .i64 (t (a+i))) pl_3 (hS.rowN 0 rfl))) ?_
   refine(zDw 20 (xix (kk:=a+i) Zb hsl))<|zde 21 (xso 0 pl_3 hS rfl) ?_;clear hS;rintro w hS
   refine⟨⟨fun h=>absurd h (by decide),hS.pk [1]⟩,?_⟩
   refine(zDw 22 (xix (kk:=b+i) Zb hsl))<|zde 23 (xso 0 pl_3 hS (Vy t (a+i) (b+i))) ?_;clear hS;rintro w hS
   refine⟨⟨fun h=>absurd h (by decide),hS.pk [1]⟩,?_⟩
   refine zdd<|zbn<|ztn<|zrg ?_
   refine(zP)<|(zV (Zf (r:=i+1)))<|(zP)<|zln<|zlq ⟨swp t (a+i) (b+i),i+1,rfl,(by omega),(by omega),?_,rfl,hS⟩
   ·
    rw [ht];exact Kp i0 (by omega) (by omega) (by omega)
  refine zxt<|ztx<|ztx<|zbh<|Wb ⟨_,rfl,?_⟩
  obtain rfl:i=m:=by omega
  subst ht
  exact⟨rfl,hS⟩
theorem ZiQ{s:Int->Int}{F:Go.Proofs.Gw.Frame}(w0 w:World)(hS:Sat w0 w [.own vd 1 3 n (ints s),.sem F])(hsl:Slh vd n)(hn8:n<=100000000)(a0:0<=a)(am:a<m)(mb:m<b)(bn:b<=n):
    Calls Tryz.prog 167 [vd,.int .i64 a,.int .i64 m,.int .i64 b,.func (.func 69) #[] #[(.pointer (some ⟨gs,0,none⟩))]].toArray w fun e w=>∃v,e= .returned v/\v= .tuple #[]/\Sat w0 w [.own vd 1 3 n (ints (rot s a m b)),.sem F]:=by
  refine zenF Tryz.func167 Tryz.ntmps167 ?_
  refine zsr<|(zP)<|(zP)<|(zV (ZD (r:=m-a)))<|(zP)<|zlz<|(zP)<|(zP)<|(zV (ZD (r:=b-m)))<|(zP)<|zlt<|zsq<|zbk<|zlp (fun mm M w=>∃(t:Int->Int) (i:Int) (j:Int),mm=((i+j).toNat)/\(1<=i)/\(1<=j)/\(a<=m-i)/\(m+j<=b)/\(rot t (m-i) m (m+j)=rot s a m b)/\M= [(0,vd),(2,.int .i64 m),(4,.func (.func 69) #[] #[(.pointer (some ⟨gs,0,none⟩))]),(10,.int .i64 i),(11,.int .i64 j)]/\Sat w0 w [.own vd 1 3 n (ints t),.sem F]) ⟨s,m-a,b-m,rfl,(by omega),(by omega),(by omega),(by omega),?_,rfl,hS⟩ ?_
  ·
   rw [show m-(m-a)=a by omega,show m+(b-m)=b by omega]
  clear hS w
  rintro mm M w ⟨t,i,j,rfl,i0,j0,ia,jb,hr,rfl,hS⟩
  refine zx11<|(zP)<|(zP)<|(zP)<|zlt<|Ze ?_ ?_<;>intro hc
  ·
   refine zsk<|ztn<|zbk<|zsr<|(zP)<|(zP)<|(zP)<|zlt<|Ze ?_ ?_<;>intro hc
   ·
    refine zsr<|(zP)<|(zP)<|(zP)<|(zV (ZD (r:=m-i)))<|(zP)<|(zP)<|(zP)<|zlc (xc0 Za5) (Zbc (s:=t) (a:=m-i) (b:=m) (m:=j) w0 w hS hsl hn8 (by omega) (by omega) (by omega) (by omega)) ?_;rintro _ w ⟨rfl,hS⟩
    refine zlt<|zrg<|(zP)<|(zP)<|(zV (ZD (r:=i-j)))<|(zP)<|zln<|zbn<|zlq ⟨(swr t (m-i) m j),i-j,j,rfl,(by omega),(by omega),(by omega),(by omega),?_,rfl,hS⟩
    ·
     first|(rw [<-hr,show m-(i-j)=m-i+j by omega];exact Vo (by omega) (by omega))|(rw [<-hr,show m+(j-i)=m+j-i by omega];exact WL (by omega) (by omega))
   refine zsr<|(zP)<|(zP)<|(zP)<|(zV (ZD (r:=m-i)))<|(zP)<|(zP)<|(zV (Zf (r:=m+j)))<|(zP)<|(zV (ZD (r:=m+j-i)))<|(zP)<|(zP)<|zlc (xc0 Za5) (Zbc (s:=t) (a:=m-i) (b:=m+j-i) (m:=i) w0 w hS hsl hn8 (by omega) (by omega) (by omega) (by omega)) ?_;rintro _ w ⟨rfl,hS⟩
   refine zlt<|zrg<|(zP)<|(zP)<|(zV (ZD (r:=j-i)))<|(zP)<|zln<|zbn<|zlq ⟨(swr t (m-i) (m+j-i) i),i,j-i,rfl,(by omega),(by omega),(by omega),(by omega),?_,rfl,hS⟩
   ·
    first|(rw [<-hr,show m-(i-j)=m-i+j by omega];exact Vo (by omega) (by omega))|(rw [<-hr,show m+(j-i)=m+j-i by omega];exact WL (by omega) (by omega))
  refine zxt<|ztx<|ztx<|zbh<|ztn<|zrg<|(zP)<|(zP)<|(zP)<|(zV (ZD (r:=m-i)))<|(zP)<|(zP)<|(zP)<|zlc (xc0 Za5) (Zbc (s:=t) (a:=m-i) (b:=m) (m:=i) w0 w hS hsl hn8 (by omega) (by omega) (by omega) (by omega)) ?_;rintro _ w ⟨rfl,hS⟩
  refine zln<|Wb ⟨_,rfl,?_⟩
  have hz:(swr t (m-i) m i)=rot s a m b:=by
    rw [<-hr,show j=i by omega];exact KA (by omega)
  rw [hz] at hS
  exact⟨rfl,hS⟩
theorem ZeU {s:Int->Int} {lt:Int->Int->Prop} {F:Go.Proofs.Gw.Frame} (w0 w:World) (hS:Sat w0 w [.own vd 1 3 n (ints s),.sem F]) (hsl:Slh vd n) (hn8:n<=100000000) (qJ:∀(w:World) (x y:Int),0<=x->x<nm->0<=y->y<nm->Below w0.heap.size w0 w->F.holds w->Calls Tryz.prog 69 [.int .i64 x,.int .i64 y,(.pointer (some ⟨gs,0,none⟩))].toArray w fun e w'=>∃v,e= .returned v/\∃c:Int,v= .int .i64 c/\(c<0↔lt x y)/\Sat w w' []) (hd:∀k,0<=k->k<n->0<=s k/\s k<nm) (hw:Swo lt) (a0:0<=a) (ab:a<=b) (bn:b<=n) (xg:Uv a b s):
    Calls Tryz.prog 148 [vd,.int .i64 a,.int .i64 b,.func (.func 69) #[] #[(.pointer (some ⟨gs,0,none⟩))]].toArray w fun e w=>∃v,e= .returned v/\v= .tuple #[]/\∃t:Int->Int,PermOn a b s t/\Srt (Tie lt) a b t/\Sat w0 w [.own vd 1 3 n (ints t),.sem F]:=by
  refine zenF Tryz.func148 Tryz.ntmps148 ?_
  refine zsr<|(zP)<|(zV (Zf (r:=a+1)))<|(zP)<|zx6<|zlp (fun mm M w=>∃(t:Int->Int) (i:Int),mm=((b-i).toNat)/\(a+1<=i)/\(i<=b\/i=a+1)/\(PermOn a i s t)/\(Srt (Tie lt) a i t)/\(∀k,0<=k->k<n->0<=t k/\t k<nm)/\M= [(0,vd),(1,.int .i64 a),(2,.int .i64 b),(3,.func (.func 69) #[] #[(.pointer (some ⟨gs,0,none⟩))]),(8,.int .i64 i)]/\Sat w0 w [.own vd 1 3 n (ints t),.sem F]) ⟨s,a+1,rfl,(by omega),(by omega),?_,?_,?_,rfl,hS⟩ ?_
  ·
   exact .refl _ _ _
  ·
   intro p q p0 pq q1;omega
  ·
   exact hd
  clear hS w
  rintro mm M w ⟨t,i,rfl,i0,i1,hp,hs,hd1,rfl,hS⟩
  refine zx11<|(zP)<|(zP)<|(zP)<|zlt<|Ze ?_ ?_<;>intro hc
  ·
   refine zx3<|(zP)<|(zP)<|zx6<|zlp (fun mm M w=>∃(t2:Int->Int) (j:Int),mm=((j-a).toNat)/\(a<=j)/\(j<=i)/\(Ins lt a i j t t2)/\(∀k,0<=k->k<n->0<=t2 k/\t2 k<nm)/\M= [(0,vd),(1,.int .i64 a),(2,.int .i64 b),(3,.func (.func 69) #[] #[(.pointer (some ⟨gs,0,none⟩))]),(8,.int .i64 i),(9,.int .i64 j)]/\Sat w0 w [.own vd 1 3 n (ints t2),.sem F]) ⟨t,i,rfl,(by omega),(by omega),?_,?_,rfl,hS⟩ ?_
   ·
    exact Ins.start (by omega) hs (ZbJ hp xg (by omega))
   ·
    exact hd1
   clear hS w
   rintro mm M w ⟨t2,j,rfl,j0,j1,hI,hd2,rfl,hS⟩
   refine zsq<|zsq<|zdst [0,1] [0,1] 1000 mx_ hS ?_;clear hS;intro w hS
   refine(zDw 0 xmv)<|(zDw 1 xmv)<|(zDw 2 Yr)<|(zDw 3 xmv)<|zdb 21 ?_ ?_<;>intro hc
   ·
    refine(zDw 4 xmv)<|(zDw 5 xmv)<|(zDw 6 xmv)<|(zDw 7 (xix (kk:=j) Zb hsl))<|(zDl 8 (fun w hS=>(xlr (u:= .int .i64 (t2 j)) pl_3 (hS.rowN 0 rfl))))<|(zDw 9 xmv)<|(zDw 10 xmv)<|(zDw 11 (ZD (r:=j-1)))<|(zDw 12 (xix (kk:=j-1) Zb hsl))<|(zDl 13 (fun w hS=>(xlr (u:= .int .i64 (t2 (j-1))) pl_3 (hS.rowN 0 rfl))))<|zdc 14 (xcc (vs:= [_,_]) Zb0) (qJ w (t2 j) (t2 (j-1)) (hd2 j (by omega) (by omega)).1 (hd2 j (by omega) (by omega)).2 (hd2 (j-1) (by omega) (by omega)).1 (hd2 (j-1) (by omega) (by omega)).2 hS.below (hS.holds _ (List.mem_of_getElem? (i:=1) rfl))) ?_;rintro _ w ⟨c1,rfl,hc1,hS'⟩
    replace hS:=hS.cmp hS';clear hS'
    refine⟨⟨fun _=>hS,hS⟩,?_⟩
    refine(zDw 15 ZZ)<|(zDw 16 xpt)<|zdd<|ztn ?_
    refine Ze ?_ ?_<;>intro hc
    ·
     refine zx38<|zdst [0,1] [1] 15 mx_ hS ?_;clear hS;intro w hS
     refine(zDw 0 xmv)<|(zDw 1 xmv)<|(zDw 2 xmv)<|(zDw 3 xmv)<|(zDw 4 (ZD (r:=j-1)))<|(zDw 5 xmv)<|(zDw 6 xmv)<|(zDw 7 (ZD (r:=j-1)))<|(zDw 8 (xix (kk:=j-1) Zb hsl))<|zdl 9 (fun w hS=>(xlr (u:= .int .i64 (t2 (j-1))) pl_3 (hS.rowN 0 rfl))) ?_
     refine(zDw 10 xmv)<|(zDw 11 xmv)<|(zDw 12 (xix (kk:=j) Zb hsl))<|zdl 13 (fun w hS=>(xlr (u:= .int .i64 (t2 j)) pl_3 (hS.rowN 0 rfl))) ?_
     refine(zDw 14 (xix (kk:=j) Zb hsl))<|zde 15 (xso 0 pl_3 hS rfl) ?_;clear hS;rintro w hS
     refine⟨⟨fun h=>absurd h (by decide),hS.pk [1]⟩,?_⟩
     refine(zDw 16 (xix (kk:=j-1) Zb hsl))<|zde 17 (xso 0 pl_3 hS (Vy t2 j (j-1))) ?_;clear hS;rintro w hS
     refine⟨⟨fun h=>absurd h (by decide),hS.pk [1]⟩,?_⟩
     refine zdd<|zbn<|ztn<|zrg ?_
     refine(zP)<|(zV (ZD (r:=j-1)))<|(zP)<|zln<|zlq ⟨swp t2 j (j-1),j-1,rfl,(by omega),(by omega),?_,?_,rfl,hS⟩
     ·
      exact hI.step (by omega) (by omega) (hc1.1 ‹c1<0›)
     ·
      exact(UO (lo:=a) (hi:=n) (by omega) (by omega) (by omega) (by omega)).dom a0 (.inl (by omega)) hd2
    refine zx21<|(zP)<|(zV (Zf (r:=i+1)))<|(zP)<|zln<|zlq ⟨t2,i+1,rfl,(by omega),(by omega),?_,?_,?_,rfl,hS⟩
    ·
     exact(hp.mono (by omega) (by omega)).trans hI.perm
    ·
     exact hI.fin hw (by omega) (by omega) (by first|exact .inl (by omega)|exact .inr fun h=>absurd (hc1.2 h) ‹¬c1<0›)
    ·
     exact hd2
   refine(zDo 4)<|(zDo 5)<|(zDo 6)<|(zDo 7)<|(zDo 8)<|(zDo 9)<|(zDo 10)<|(zDo 11)<|(zDo 12)<|(zDo 13)<|(zDo 14)<|(zDo 15)<|(zDw 16 xpf)<|zdd<|ztn<|zcf<|zxt<|ztx<|ztx<|zbh<|zbn<|ztn<|zrg ?_
   refine(zP)<|(zV (Zf (r:=i+1)))<|(zP)<|zln<|zlq ⟨t2,i+1,rfl,(by omega),(by omega),?_,?_,?_,rfl,hS⟩
   ·
    exact(hp.mono (by omega) (by omega)).trans hI.perm
   ·
    exact hI.fin hw (by omega) (by omega) (by first|exact .inl (by omega)|exact .inr fun h=>absurd (hc1.2 h) ‹¬c1<0›)
   ·
    exact hd2
  refine zxt<|ztx<|ztx<|zbh<|Wb ⟨_,rfl,?_⟩
  refine⟨rfl,t,?_,?_,hS⟩
  · by_cases hab:i<=b
    · exact hp.mono (by omega) (by omega)
    · obtain⟨p_,q_,e1,e2,e3⟩:=hp
      exact⟨p_,q_,e1,fun k hk=>by
        by_cases hka:k=a
        · subst hka
          apply Classical.byContradiction;intro hne
          have h5:=e2 (p_ k) (by omega)
          have h6:=congrArg q_ h5
          rw [(e1 _).2,(e1 _).2] at h6;exact hne h6
        · exact e2 k (by omega),e3⟩
  · exact hs.mono (by omega) (by omega)
theorem Zet {lt:Int->Int->Prop} {F:Go.Proofs.Gw.Frame} (hsl:Slh vd n) (hn8:n<=100000000) (hw:Swo lt) (N:Nat):∀{s:Int->Int} {a m b:Int} (w0 w:World) (hS:Sat w0 w [.own vd 1 3 n (ints s),.sem F]) (qJ:∀(w:World) (x y:Int),0<=x->x<nm->0<=y->y<nm->Below w0.heap.size w0 w->F.holds w->Calls Tryz.prog 69 [.int .i64 x,.int .i64 y,(.pointer (some ⟨gs,0,none⟩))].toArray w fun e w'=>∃v,e= .returned v/\∃c:Int,v= .int .i64 c/\(c<0↔lt x y)/\Sat w w' []) (hd:∀k,0<=k->k<n->0<=s k/\s k<nm) (a0:0<=a) (am:a<m) (mb:m<b) (bn:b<=n) (h1:Srt (Tie lt) a m s) (h2:Srt (Tie lt) m b s) (hp:Parted a m b s) (hN:(b-a).toNat<N),
    Calls Tryz.prog 149 [vd,.int .i64 a,.int .i64 m,.int .i64 b,.func (.func 69) #[] #[(.pointer (some ⟨gs,0,none⟩))]].toArray w fun e w=>∃v,e= .returned v/\v= .tuple #[]/\∃t:Int->Int,PermOn a b s t/\Srt (Tie lt) a b t/\Sat w0 w [.own vd 1 3 n (ints t),.sem F]:=by
  induction N with
  |zero=>intros;omega
  | succ N ih=>
    intro s a m b w0 w hS qJ hd a0 am mb bn h1 h2 hp hN
    refine zenF Tryz.func149 Tryz.ntmps149 ?_
    refine zx11<|(zP)<|(zP)<|(zV (ZD (r:=m-a)))<|(zP)<|zlt<|Ze ?_ ?_<;>intro hc
    ·
     refine zsr<|(zP)<|(zP)<|zlz<|(zP)<|(zP)<|zlt<|zsq<|zbk<|zlp (fun mm M w=>∃(i:Int) (j:Int),mm=((j-i).toNat)/\(m<=i)/\(i<=j)/\(j<=b)/\(i=a+1\/lt (s (i-1)) (s a))/\(j=b\/¬lt (s j) (s a))/\M= [(0,vd),(1,.int .i64 a),(2,.int .i64 m),(3,.int .i64 b),(4,.func (.func 69) #[] #[(.pointer (some ⟨gs,0,none⟩))]),(10,.int .i64 i),(11,.int .i64 j)]/\Sat w0 w [.own vd 1 3 n (ints s),.sem F]) ⟨m,b,rfl,(by omega),(by omega),(by omega),?_,?_,rfl,hS⟩ ?_
     ·
      exact .inl (by omega)
     ·
      exact .inl rfl
     clear hS w
     rintro mm M w ⟨i,j,rfl,i0,ij,j1,hi,hj,rfl,hS⟩
     refine zx11<|(zP)<|(zP)<|(zP)<|zlt<|Ze ?_ ?_<;>intro hc
     ·
      refine zsk<|ztn<|zbk<|zsr<|(zP)<|(zP)<|(zV (Zf (r:=i+j)))<|(zV (xcv Ty XV))<|(zV (Uc (r:=((i+j)/2))))<|(zV (xcv We RM))<|(zP)<|zx7<|zdst [0,1] [0,1] 1000 mx_ hS ?_;clear hS;intro w hS
      refine(zDw 0 xmv)<|(zDw 1 xmv)<|(zDw 2 xmv)<|(zDw 3 (xix (kk:=((i+j)/2)) Zb hsl))<|(zDl 4 (fun w hS=>(xlr (u:= .int .i64 (s ((i+j)/2))) pl_3 (hS.rowN 0 rfl))))<|(zDw 5 xmv)<|(zDw 6 xmv)<|(zDw 7 (xix (kk:=a) Zb hsl))<|(zDl 8 (fun w hS=>(xlr (u:= .int .i64 (s a)) pl_3 (hS.rowN 0 rfl))))<|zdc 9 (xcc (vs:= [_,_]) Zb0) (qJ w (s ((i+j)/2)) (s a) (hd ((i+j)/2) (by omega) (by omega)).1 (hd ((i+j)/2) (by omega) (by omega)).2 (hd a (by omega) (by omega)).1 (hd a (by omega) (by omega)).2 hS.below (hS.holds _ (List.mem_of_getElem? (i:=1) rfl))) ?_;rintro _ w ⟨c1,rfl,hc1,hS'⟩
      replace hS:=hS.cmp hS';clear hS'
      refine⟨⟨fun _=>hS,hS⟩,?_⟩
      refine(zDw 10 ZZ)<|zdd<|ztn ?_
      refine Ze ?_ ?_<;>intro hc
      ·
       refine zrg<|(zP)<|(zV (Zf (r:=((i+j)/2)+1)))<|(zP)<|zln<|zbn<|zlq ⟨((i+j)/2)+1,j,rfl,(by omega),(by omega),(by omega),?_,?_,rfl,hS⟩
       ·
        first|exact hi|(right;rw [show(i+j)/2+1-1=(i+j)/2 by omega];exact hc1.1 ‹c1<0›)
       ·
        first|exact hj|exact .inr fun h=>absurd (hc1.2 h) ‹¬c1<0›
      refine zrg<|(zP)<|(zP)<|zln<|zbn<|zlq ⟨i,((i+j)/2),rfl,(by omega),(by omega),(by omega),?_,?_,rfl,hS⟩
      ·
       first|exact hi|(right;rw [show(i+j)/2+1-1=(i+j)/2 by omega];exact hc1.1 ‹c1<0›)
      ·
       first|exact hj|exact .inr fun h=>absurd (hc1.2 h) ‹¬c1<0›
     refine zx18<|(zP)<|(zP)<|zx6<|zlp (fun mm M w=>∃(t:Int->Int) (k:Int),mm=((i-1-k).toNat)/\(a<=k)/\(k<=i-1)/\(t=rot s a (a+1) (k+1))/\M= [(0,vd),(1,.int .i64 a),(2,.int .i64 m),(3,.int .i64 b),(4,.func (.func 69) #[] #[(.pointer (some ⟨gs,0,none⟩))]),(10,.int .i64 i),(13,.int .i64 k)]/\Sat w0 w [.own vd 1 3 n (ints t),.sem F]) ⟨s,a,rfl,(by omega),(by omega),?_,rfl,hS⟩ ?_
     ·
      exact(Kw s a).symm
     clear hS w
     rintro mm M w ⟨t,k,rfl,k0,k1,ht,rfl,hS⟩
     refine zx11<|(zP)<|(zP)<|(zV (ZD (r:=i-1)))<|(zP)<|zlt<|Ze ?_ ?_<;>intro hc
     ·
      refine zx38<|zdst [0,1] [1] 15 mx_ hS ?_;clear hS;intro w hS
      refine(zDw 0 xmv)<|(zDw 1 xmv)<|(zDw 2 xmv)<|(zDw 3 xmv)<|(zDw 4 (Zf (r:=k+1)))<|(zDw 5 xmv)<|(zDw 6 xmv)<|(zDw 7 (Zf (r:=k+1)))<|(zDw 8 (xix (kk:=k+1) Zb hsl))<|zdl 9 (fun w hS=>(xlr (u:= .int .i64 (t (k+1))) pl_3 (hS.rowN 0 rfl))) ?_
      refine(zDw 10 xmv)<|(zDw 11 xmv)<|(zDw 12 (xix (kk:=k) Zb hsl))<|zdl 13 (fun w hS=>(xlr (u:= .int .i64 (t k)) pl_3 (hS.rowN 0 rfl))) ?_
      refine(zDw 14 (xix (kk:=k) Zb hsl))<|zde 15 (xso 0 pl_3 hS rfl) ?_;clear hS;rintro w hS
      refine⟨⟨fun h=>absurd h (by decide),hS.pk [1]⟩,?_⟩
      refine(zDw 16 (xix (kk:=k+1) Zb hsl))<|zde 17 (xso 0 pl_3 hS (Vy t k (k+1))) ?_;clear hS;rintro w hS
      refine⟨⟨fun h=>absurd h (by decide),hS.pk [1]⟩,?_⟩
      refine zdd<|zbn<|ztn<|zrg ?_
      refine(zP)<|(zV (Zf (r:=k+1)))<|(zP)<|zln<|zlq ⟨swp t k (k+1),k+1,rfl,(by omega),(by omega),?_,rfl,hS⟩
      ·
       rw [ht];exact Kx (by omega)
     refine zxt<|ztx<|ztx<|zbh<|ztn<|zrt<|ztr<|zf0 ⟨_,rfl,?_⟩
     have hki:k+1=i:=by omega
     rw [hki] at ht
     refine⟨rfl,t,?_,?_,hS⟩
     · rw [ht];exact(Yz (by omega) (by omega)).mono (by omega) (by omega)
     · rw [ht];obtain rfl:m=a+1:=by omega
       exact TZ hw h2 (fun j j0 j1=>hp a j (by omega) (by omega) j0 j1) (by omega) (by omega) hi (by rw [show i=j by omega];exact hj)
    refine Xb<|(zP)<|(zP)<|(zV (ZD (r:=b-m)))<|(zP)<|zlt<|Ze ?_ ?_<;>intro hc
    ·
     refine zsr<|(zP)<|(zP)<|zlz<|(zP)<|(zP)<|zlt<|zsq<|zbk<|zlp (fun mm M w=>∃(i:Int) (j:Int),mm=((j-i).toNat)/\(a<=i)/\(i<=j)/\(j<=m)/\(i=a\/¬lt (s m) (s (i-1)))/\(j=m\/lt (s m) (s j))/\M= [(0,vd),(1,.int .i64 a),(2,.int .i64 m),(3,.int .i64 b),(4,.func (.func 69) #[] #[(.pointer (some ⟨gs,0,none⟩))]),(14,.int .i64 i),(15,.int .i64 j)]/\Sat w0 w [.own vd 1 3 n (ints s),.sem F]) ⟨a,m,rfl,(by omega),(by omega),(by omega),?_,?_,rfl,hS⟩ ?_
     ·
      exact .inl rfl
     ·
      exact .inl rfl
     clear hS w
     rintro mm M w ⟨i,j,rfl,i0,ij,j1,hi,hj,rfl,hS⟩
     refine zx11<|(zP)<|(zP)<|(zP)<|zlt<|Ze ?_ ?_<;>intro hc
     ·
      refine zsk<|ztn<|zbk<|zsr<|(zP)<|(zP)<|(zV (Zf (r:=i+j)))<|(zV (xcv Ty XV))<|(zV (Uc (r:=((i+j)/2))))<|(zV (xcv We RM))<|(zP)<|zx7<|zdst [0,1] [0,1] 1000 mx_ hS ?_;clear hS;intro w hS
      refine(zDw 0 xmv)<|(zDw 1 xmv)<|(zDw 2 xmv)<|(zDw 3 (xix (kk:=m) Zb hsl))<|(zDl 4 (fun w hS=>(xlr (u:= .int .i64 (s m)) pl_3 (hS.rowN 0 rfl))))<|(zDw 5 xmv)<|(zDw 6 xmv)<|(zDw 7 (xix (kk:=((i+j)/2)) Zb hsl))<|(zDl 8 (fun w hS=>(xlr (u:= .int .i64 (s ((i+j)/2))) pl_3 (hS.rowN 0 rfl))))<|zdc 9 (xcc (vs:= [_,_]) Zb0) (qJ w (s m) (s ((i+j)/2)) (hd m (by omega) (by omega)).1 (hd m (by omega) (by omega)).2 (hd ((i+j)/2) (by omega) (by omega)).1 (hd ((i+j)/2) (by omega) (by omega)).2 hS.below (hS.holds _ (List.mem_of_getElem? (i:=1) rfl))) ?_;rintro _ w ⟨c1,rfl,hc1,hS'⟩
      replace hS:=hS.cmp hS';clear hS'
      refine⟨⟨fun _=>hS,hS⟩,?_⟩
      refine(zDw 10 ZZ)<|(zDw 11 YK)<|zdd<|ztn ?_
      refine Ze ?_ ?_<;>intro hc
      ·
       refine zrg<|(zP)<|(zV (Zf (r:=((i+j)/2)+1)))<|(zP)<|zln<|zbn<|zlq ⟨((i+j)/2)+1,j,rfl,(by omega),(by omega),(by omega),?_,?_,rfl,hS⟩
       ·
        first|exact hi|(right;rw [show(i+j)/2+1-1=(i+j)/2 by omega];exact fun h=>absurd (hc1.2 h) ‹¬c1<0›)
       ·
        first|exact hj|exact .inr (hc1.1 (Classical.not_not.1 ‹_›))
      refine zrg<|(zP)<|(zP)<|zln<|zbn<|zlq ⟨i,((i+j)/2),rfl,(by omega),(by omega),(by omega),?_,?_,rfl,hS⟩
      ·
       first|exact hi|(right;rw [show(i+j)/2+1-1=(i+j)/2 by omega];exact fun h=>absurd (hc1.2 h) ‹¬c1<0›)
      ·
       first|exact hj|exact .inr (hc1.1 (Classical.not_not.1 ‹_›))
     refine zx18<|(zP)<|(zP)<|zx6<|zlp (fun mm M w=>∃(t:Int->Int) (k:Int),mm=((k-i).toNat)/\(i<=k)/\(k<=m)/\(t=rot s k m (m+1))/\M= [(0,vd),(1,.int .i64 a),(2,.int .i64 m),(3,.int .i64 b),(4,.func (.func 69) #[] #[(.pointer (some ⟨gs,0,none⟩))]),(14,.int .i64 i),(17,.int .i64 k)]/\Sat w0 w [.own vd 1 3 n (ints t),.sem F]) ⟨s,m,rfl,(by omega),(by omega),?_,rfl,hS⟩ ?_
     ·
      exact(Ku s m).symm
     clear hS w
     rintro mm M w ⟨t,k,rfl,k0,k1,ht,rfl,hS⟩
     refine zx11<|(zP)<|(zP)<|(zP)<|zlt<|Ze ?_ ?_<;>intro hc
     ·
      refine zx38<|zdst [0,1] [1] 15 mx_ hS ?_;clear hS;intro w hS
      refine(zDw 0 xmv)<|(zDw 1 xmv)<|(zDw 2 xmv)<|(zDw 3 xmv)<|(zDw 4 (ZD (r:=k-1)))<|(zDw 5 xmv)<|(zDw 6 xmv)<|(zDw 7 (ZD (r:=k-1)))<|(zDw 8 (xix (kk:=k-1) Zb hsl))<|zdl 9 (fun w hS=>(xlr (u:= .int .i64 (t (k-1))) pl_3 (hS.rowN 0 rfl))) ?_
      refine(zDw 10 xmv)<|(zDw 11 xmv)<|(zDw 12 (xix (kk:=k) Zb hsl))<|zdl 13 (fun w hS=>(xlr (u:= .int .i64 (t k)) pl_3 (hS.rowN 0 rfl))) ?_
      refine(zDw 14 (xix (kk:=k) Zb hsl))<|zde 15 (xso 0 pl_3 hS rfl) ?_;clear hS;rintro w hS
      refine⟨⟨fun h=>absurd h (by decide),hS.pk [1]⟩,?_⟩
      refine(zDw 16 (xix (kk:=k-1) Zb hsl))<|zde 17 (xso 0 pl_3 hS (Vy t k (k-1))) ?_;clear hS;rintro w hS
      refine⟨⟨fun h=>absurd h (by decide),hS.pk [1]⟩,?_⟩
      refine zdd<|zbn<|ztn<|zrg ?_
      refine(zP)<|(zV (ZD (r:=k-1)))<|(zP)<|zln<|zlq ⟨swp t k (k-1),k-1,rfl,(by omega),(by omega),?_,rfl,hS⟩
      ·
       rw [ht];exact Kv (by omega)
     refine zxt<|ztx<|ztx<|zbh<|ztn<|zrt<|ztr<|zf0 ⟨_,rfl,?_⟩
     have hki:k=i:=by omega
     rw [hki] at ht
     refine⟨rfl,t,?_,?_,hS⟩
     · rw [ht];exact(Yz (by omega) (by omega)).mono (by omega) (by omega)
     · rw [ht];obtain rfl:b=m+1:=by omega
       exact U4 hw h1 (fun i i0 i1=>hp i m i0 i1 (by omega) (by omega)) (by omega) (by omega) hi (by rw [show i=j by omega];exact hj)
    refine Z7<|(zP)<|(zP)<|(zV (Zf (r:=a+b)))<|(zV (xcv Ty XV))<|(zV (Uc (r:=((a+b)/2))))<|(zV (xcv We RM))<|(zP)<|zlz<|(zP)<|(zP)<|(zV (Zf (r:=((a+b)/2)+m)))<|(zP)<|zlz<|(zP)<|(zP)<|zx7 ?_
    refine XX (fun M w=>∃(mid:Int) (s0:Int) (r0:Int),(mid=((a+b)/2))/\((mid<m/\s0=mid+m-b/\r0=mid)\/(m<=mid/\s0=a/\r0=m))/\M= [(0,vd),(1,.int .i64 a),(2,.int .i64 m),(3,.int .i64 b),(4,.func (.func 69) #[] #[(.pointer (some ⟨gs,0,none⟩))]),(25,.int .i64 m),(26,.int .i64 a),(27,.int .i64 (m-a)),(28,B (m-a=1)),(77,.int .i64 b),(78,.int .i64 m),(79,.int .i64 (b-m)),(80,B (b-m=1)),(129,.int .i64 a),(130,.int .i64 b),(131,.int .i64 (a+b)),(132,.int .u64 (a+b)),(133,.int .u64 ((a+b)/2)),(134,.int .i64 ((a+b)/2)),(18,.int .i64 mid),(135,.int .i64 ((a+b)/2)),(136,.int .i64 m),(137,.int .i64 (((a+b)/2)+m)),(19,.int .i64 (mid+m)),(20,.int .i64 s0),(21,.int .i64 r0)]/\Sat w0 w [.own vd 1 3 n (ints s),.sem F]) ?_ ?_
    ·
     refine zsr<|(zP)<|(zP)<|(zP)<|zlt<|Ze ?_ ?_<;>intro hc
     ·
      refine zsr<|(zP)<|(zP)<|(zV (ZD (r:=((a+b)/2)+m-b)))<|(zP)<|zlt<|zrg<|(zP)<|(zP)<|zln<|zgj ⟨((a+b)/2),(((a+b)/2)+m-b),((a+b)/2),rfl,(by omega),rfl,hS⟩
     refine zsr<|(zP)<|(zP)<|zlt<|zrg<|(zP)<|(zP)<|zln<|zgj ⟨((a+b)/2),a,m,rfl,(by omega),rfl,hS⟩
    clear hS w;rintro M w ⟨mid,s0,r0,fD,hq,rfl,hS⟩
    refine ztn<|zsr<|(zP)<|(zV (ZD (r:=mid+m-1)))<|(zP)<|zlt<|zsq<|zbk<|zlp (fun mm M w=>∃(x:Int) (y:Int),mm=((y-x).toNat)/\(s0<=x)/\(x<=y)/\(y<=r0)/\(x=s0\/¬lt (s (mid+m-x)) (s (x-1)))/\(y=r0\/lt (s (mid+m-y-1)) (s y))/\M= [(0,vd),(1,.int .i64 a),(2,.int .i64 m),(3,.int .i64 b),(4,.func (.func 69) #[] #[(.pointer (some ⟨gs,0,none⟩))]),(18,.int .i64 mid),(19,.int .i64 (mid+m)),(20,.int .i64 x),(21,.int .i64 y),(22,.int .i64 (mid+m-1))]/\Sat w0 w [.own vd 1 3 n (ints s),.sem F]) ⟨s0,r0,rfl,(by omega),(by omega),(by omega),?_,?_,rfl,hS⟩ ?_
    ·
     exact .inl rfl
    ·
     exact .inl rfl
    clear hS w
    rintro mm M w ⟨x,y,rfl,x0,xy,y1,hx,hy,rfl,hS⟩
    refine zx11<|(zP)<|(zP)<|(zP)<|zlt<|Ze ?_ ?_<;>intro hc
    ·
     refine zsk<|ztn<|zbk<|zsr<|(zP)<|(zP)<|(zV (Zf (r:=x+y)))<|(zV (xcv Ty XV))<|(zV (Uc (r:=((x+y)/2))))<|(zV (xcv We RM))<|(zP)<|zx7<|zdst [0,1] [0,1] 1000 mx_ hS ?_;clear hS;intro w hS
     refine(zDw 0 xmv)<|(zDw 1 xmv)<|(zDw 2 xmv)<|(zDw 3 xmv)<|(zDw 4 (ZD (r:=mid+m-((x+y)/2)-1)))<|(zDw 5 (xix (kk:=mid+m-((x+y)/2)-1) Zb hsl))<|(zDl 6 (fun w hS=>(xlr (u:= .int .i64 (s (mid+m-((x+y)/2)-1))) pl_3 (hS.rowN 0 rfl))))<|(zDw 7 xmv)<|(zDw 8 xmv)<|(zDw 9 (xix (kk:=((x+y)/2)) Zb hsl))<|(zDl 10 (fun w hS=>(xlr (u:= .int .i64 (s ((x+y)/2))) pl_3 (hS.rowN 0 rfl))))<|zdc 11 (xcc (vs:= [_,_]) Zb0) (qJ w (s (mid+m-((x+y)/2)-1)) (s ((x+y)/2)) (hd (mid+m-((x+y)/2)-1) (by omega) (by omega)).1 (hd (mid+m-((x+y)/2)-1) (by omega) (by omega)).2 (hd ((x+y)/2) (by omega) (by omega)).1 (hd ((x+y)/2) (by omega) (by omega)).2 hS.below (hS.holds _ (List.mem_of_getElem? (i:=1) rfl))) ?_;rintro _ w ⟨c1,rfl,hc1,hS'⟩
     replace hS:=hS.cmp hS';clear hS'
     refine⟨⟨fun _=>hS,hS⟩,?_⟩
     refine(zDw 12 ZZ)<|(zDw 13 YK)<|zdd<|ztn ?_
     refine Ze ?_ ?_<;>intro hc
     ·
      refine zrg<|(zP)<|(zV (Zf (r:=((x+y)/2)+1)))<|(zP)<|zln<|zbn<|zlq ⟨((x+y)/2)+1,y,rfl,(by omega),(by omega),(by omega),?_,?_,rfl,hS⟩
      ·
       first|exact hx|(right;rw [show mid+m-((x+y)/2+1)=mid+m-(x+y)/2-1 by omega,show(x+y)/2+1-1=(x+y)/2 by omega];exact fun h=>absurd (hc1.2 h) ‹¬c1<0›)
      ·
       first|exact hy|exact .inr (hc1.1 (Classical.not_not.1 ‹_›))
     refine zrg<|(zP)<|(zP)<|zln<|zbn<|zlq ⟨x,((x+y)/2),rfl,(by omega),(by omega),(by omega),?_,?_,rfl,hS⟩
     ·
      first|exact hx|(right;rw [show mid+m-((x+y)/2+1)=mid+m-(x+y)/2-1 by omega,show(x+y)/2+1-1=(x+y)/2 by omega];exact fun h=>absurd (hc1.2 h) ‹¬c1<0›)
     ·
      first|exact hy|exact .inr (hc1.1 (Classical.not_not.1 ‹_›))
    refine zx8<|(zP)<|(zP)<|(zV (ZD (r:=mid+m-x)))<|(zP)<|zx7 ?_
    refine XX (fun M w=>∃(t:Int->Int),(t=rot s x m (mid+m-x))/\M= [(0,vd),(1,.int .i64 a),(2,.int .i64 m),(3,.int .i64 b),(4,.func (.func 69) #[] #[(.pointer (some ⟨gs,0,none⟩))]),(18,.int .i64 mid),(19,.int .i64 (mid+m)),(20,.int .i64 x),(21,.int .i64 y),(22,.int .i64 (mid+m-1)),(149,.int .i64 x),(150,.int .i64 y),(151,B (x<y)),(175,.int .i64 (mid+m)),(176,.int .i64 x),(177,.int .i64 (mid+m-x)),(24,.int .i64 (mid+m-x))]/\Sat w0 w [.own vd 1 3 n (ints t),.sem F]) ?_ ?_
    ·
     refine zsr<|zs4 ?_
     refine zlb 181 ?_ ?_<;>intro hc
     ·
      refine zs4 ?_
      refine zlt<|Ze ?_ ?_<;>intro hc
      ·
       refine zrg<|zs5 ?_
       refine zlc (xc0 ZhU) (ZiQ (s:=s) (a:=x) (m:=m) (b:=mid+m-x) w0 w hS hsl hn8 (by omega) (by omega) (by omega) (by omega)) ?_;rintro _ w ⟨rfl,hS⟩
       refine zln<|zgj ⟨(rot s x m (mid+m-x)),rfl,rfl,hS⟩
      refine zsk<|zgj ⟨s,(Vn (by omega) (by omega) (by omega)).symm,rfl,hS⟩
     iterate 3 refine zlo ?_
     refine(zP)<|zlt<|zcf<|zsk<|zgj ⟨s,(Vn (by omega) (by omega) (by omega)).symm,rfl,hS⟩
    clear hS w;rintro M w ⟨t,ht,rfl,hS⟩
    have hdt:=(Yz (a:=s) (lo:=x) (c:=m) (hi:=mid+m-x) (by omega) (by omega)).dom (n:=n) (N:=nm) (by omega) (.inl (by omega)) hd
    rw [<-ht] at hdt
    have hH:=Vv hw h1 h2 hp (s:=x) (mid:=mid) (e:=mid+m-x) (by omega) (by omega) (by omega) (by omega) (by omega) (by rcases hq with hq|hq<;>rcases hx with hx|hx<;>first|exact .inl (by omega)|exact .inr (.inl (by omega))|exact .inr (.inr hx)) (by rcases hq with hq|hq<;>rcases hy with hy|hy<;>first|exact .inl (by omega)|exact .inr (.inl (by omega))|(refine .inr (.inr ?_);rw [show x=y by omega];exact hy))
    rw [<-ht] at hH
    refine ztn<|zsq<| ?_
    refine XX (fun M w=>∃(t1:Int->Int),(PermOn a mid t t1)/\(Srt (Tie lt) a mid t1)/\(∀k,0<=k->k<n->0<=t1 k/\t1 k<nm)/\M= [(0,vd),(1,.int .i64 a),(2,.int .i64 m),(3,.int .i64 b),(4,.func (.func 69) #[] #[(.pointer (some ⟨gs,0,none⟩))]),(18,.int .i64 mid),(19,.int .i64 (mid+m)),(20,.int .i64 x),(21,.int .i64 y),(22,.int .i64 (mid+m-1)),(149,.int .i64 x),(150,.int .i64 y),(151,B (x<y)),(175,.int .i64 (mid+m)),(176,.int .i64 x),(177,.int .i64 (mid+m-x)),(24,.int .i64 (mid+m-x))]/\Sat w0 w [.own vd 1 3 n (ints t1),.sem F]) ?_ ?_
    ·
     refine zsr<|zs4 ?_
     refine zlb 195 ?_ ?_<;>intro hc
     ·
      refine zs4 ?_
      refine zlt<|Ze ?_ ?_<;>intro hc
      ·
       refine zrg<|zs5 ?_
       refine zlc (xc0 R4) (ih (s:=t) (a:=a) (m:=x) (b:=mid) w0 w hS qJ hdt (by omega) (by omega) (by omega) (by omega) (hH.l1) (hH.l2) (hH.pl) (by omega)) ?_;rintro _ w ⟨rfl,u1,qG,xN,hS⟩
       have yM:=qG.dom (by omega) (.inl (by omega)) hdt
       refine zln<|zgj ⟨u1,qG,xN,yM,rfl,hS⟩
      refine zsk<|zgj ⟨t,(.refl _ _ _),(hH.left (by first|omega|(rintro⟨h3,h4⟩;omega)) (by omega) (by omega)),hdt,rfl,hS⟩
     iterate 3 refine zlo ?_
     refine(zP)<|zlt<|zcf<|zsk<|zgj ⟨t,(.refl _ _ _),(hH.left (by first|omega|(rintro⟨h3,h4⟩;omega)) (by omega) (by omega)),hdt,rfl,hS⟩
    clear hS w;rintro M w ⟨t1,hq1,hq2,bu,rfl,hS⟩
    have hH2:Halves lt a a mid (mid+m-x) b t1:=Halves.after hH hq1 hq2 (by omega) (by omega)
    refine ztn<|zsr<|zs4 ?_
    refine zlb 209 ?_ ?_<;>intro hc
    ·
     refine zs4 ?_
     refine zlt<|Ze ?_ ?_<;>intro hc
     ·
      refine zrg<|zs5 ?_
      refine zlc (xc0 R4) (ih (s:=t1) (a:=mid) (m:=mid+m-x) (b:=b) w0 w hS qJ bu (by omega) (by omega) (by omega) (by omega) (hH2.r1) (hH2.r2) (hH2.pr) (by omega)) ?_;rintro _ w ⟨rfl,u1,qG,xN,hS⟩
      have yM:=qG.dom (by omega) (.inl (by omega)) bu
      refine zln<|Wb ⟨_,rfl,?_⟩
      refine⟨rfl,u1,((((Yz (a:=s) (lo:=x) (c:=m) (hi:=mid+m-x) (by omega) (by omega)).mono (by omega) (by omega):PermOn a b s _)).trans (ht▸hq1.mono (by omega) (by omega))).trans (qG.mono (by omega) (by omega)),?_,hS⟩
      exact hH.join hw (by omega) (by omega) hq1 hq2 qG xN
     refine zsk<|Wb ⟨_,rfl,?_⟩
     refine⟨rfl,t1,(((Yz (a:=s) (lo:=x) (c:=m) (hi:=mid+m-x) (by omega) (by omega)).mono (by omega) (by omega):PermOn a b s _)).trans (ht▸hq1.mono (by omega) (by omega)),?_,hS⟩
     exact hH.join hw (by omega) (by omega) hq1 hq2 (.refl _ _ _) (hH2.right (by first|omega|(rintro⟨h3,h4⟩;omega)) (by omega) (by omega))
    iterate 3 refine zlo ?_
    refine(zP)<|zlt<|zcf<|zsk<|Wb ⟨_,rfl,?_⟩
    refine⟨rfl,t1,(((Yz (a:=s) (lo:=x) (c:=m) (hi:=mid+m-x) (by omega) (by omega)).mono (by omega) (by omega):PermOn a b s _)).trans (ht▸hq1.mono (by omega) (by omega)),?_,hS⟩
    exact hH.join hw (by omega) (by omega) hq1 hq2 (.refl _ _ _) (hH2.right (by first|omega|(rintro⟨h3,h4⟩;omega)) (by omega) (by omega))
theorem ZcF{s:Int->Int}{lt:Int->Int->Prop}{F:Go.Proofs.Gw.Frame}(w0 w:World)(hS:Sat w0 w [.own vd 1 3 n (ints s),.sem F])(hsl:Slh vd n)(hn8:n<=100000000)(qJ:∀(w:World) (x y:Int),0<=x->x<nm->0<=y->y<nm->Below w0.heap.size w0 w->F.holds w->Calls Tryz.prog 69 [.int .i64 x,.int .i64 y,(.pointer (some ⟨gs,0,none⟩))].toArray w fun e w'=>∃v,e= .returned v/\∃c:Int,v= .int .i64 c/\(c<0↔lt x y)/\Sat w w' [])(hd:∀k,0<=k->k<n->0<=s k/\s k<nm)(hw:Swo lt)(xg:Uv 0 n s):
    Calls Tryz.prog 107 [vd,.int .i64 n,.func (.func 69) #[] #[(.pointer (some ⟨gs,0,none⟩))]].toArray w fun e w=>∃v,e= .returned v/\v= .tuple #[]/\∃t:Int->Int,PermOn 0 n s t/\Srt (Tie lt) 0 n t/\Sat w0 w [.own vd 1 3 n (ints t),.sem F]:=by
  have hn0:=hsl.n0
  refine zenF Tryz.func107 Tryz.ntmps107 ?_
  refine zsr<|(zP)<|zlz<|(zP)<|(zP)<|(zP)<|zlt<|zsq<|zbk<|zlp (fun mm M w=>∃(t:Int->Int) (a:Int) (b:Int),mm=((n-a).toNat)/\(0<=a)/\(a<=n)/\(b=a+20)/\((20:Int)∣a)/\(PermOn 0 a s t)/\(Runs_ lt 20 n 0 a t)/\(∀k,0<=k->k<n->0<=t k/\t k<nm)/\M= [(0,vd),(1,.int .i64 n),(2,.func (.func 69) #[] #[(.pointer (some ⟨gs,0,none⟩))]),(6,.int .i64 20),(7,.int .i64 a),(8,.int .i64 b)]/\Sat w0 w [.own vd 1 3 n (ints t),.sem F]) ⟨s,0,20,rfl,(by omega),(by omega),(by omega),?_,?_,?_,?_,rfl,hS⟩ ?_
  ·
   exact Int.dvd_zero 20
  ·
   exact .refl _ _ _
  ·
   intro c c0 c1;omega
  ·
   exact hd
  clear hS w
  rintro mm M w ⟨t,a,b,rfl,a0,a1,hb,hda,hp,hr,hd1,rfl,hS⟩
  refine zx11<|(zP)<|(zP)<|(zP)<|zlt<|Ze ?_ ?_<;>intro hc
  ·
   refine zsk<|ztn<|zbk<|zsr<|zs4 ?_
   refine zlc (xc0 Zed) (ZeU (s:=t) (a:=a) (b:=b) w0 w hS hsl hn8 qJ hd1 hw (by omega) (by omega) (by omega) (WR hp xg (by omega) (by omega) (by omega))) ?_;rintro _ w ⟨rfl,u1,qG,xN,hS⟩
   have yM:=qG.dom (by omega) (.inl (by omega)) hd1
   refine zlz<|(zP)<|(zP)<|zlt<|zrg<|(zP)<|(zP)<|(zV (Zf (r:=b+20)))<|(zP)<|zln<|zbn<|zlq ⟨u1,b,b+20,rfl,(by omega),(by omega),(by omega),?_,?_,?_,?_,rfl,hS⟩
   ·
    rw [hb];exact Int.dvd_add hda (Int.dvd_refl 20)
   ·
    exact(hp.mono (by omega) (by omega)).trans (qG.mono (by omega) (by omega))
   ·
    exact Wf (by omega) xg hr a0 hda hp qG xN (.inl ⟨hb,by omega⟩) (by omega)
   ·
    exact yM
  refine zx8<|zs4 ?_
  refine zlc (xc0 Zed) (ZeU (s:=t) (a:=a) (b:=n) w0 w hS hsl hn8 qJ hd1 hw (by omega) (by omega) (by omega) (WR hp xg (by omega) (by omega) (by omega))) ?_;rintro _ w ⟨rfl,u1,qG,xN,hS⟩
  have yM:=qG.dom (by omega) (.inl (by omega)) hd1
  refine zx6<|zlp (fun mm M w=>∃(t2:Int->Int) (z:Int),mm=((n-z).toNat)/\(20<=z)/\(z<=2*n+20)/\(PermOn 0 n s t2)/\(Runs_ lt z n 0 n t2)/\(∀k,0<=k->k<n->0<=t2 k/\t2 k<nm)/\M= [(0,vd),(1,.int .i64 n),(2,.func (.func 69) #[] #[(.pointer (some ⟨gs,0,none⟩))]),(6,.int .i64 z)]/\Sat w0 w [.own vd 1 3 n (ints t2),.sem F]) ⟨u1,20,rfl,(by omega),(by omega),?_,?_,?_,rfl,hS⟩ ?_
  ·
   exact(hp.mono (by omega) (by omega)).trans (qG.mono (by omega) (by omega))
  ·
   exact Wf (by omega) xg hr a0 hda hp qG xN (.inr ⟨rfl,by omega⟩) (by omega)
  ·
   exact yM
  clear hS w
  rintro mm M w ⟨t2,z,rfl,z0,z1,hp2,hr2,hd2,rfl,hS⟩
  refine zx11<|(zP)<|(zP)<|(zP)<|zlt<|Ze ?_ ?_<;>intro hc
  ·
   refine zsk<|ztn<|zbk<|zsr<|(zP)<|(zV (Z4 (r:=2*z)))<|(zP)<|(zP)<|zlt<|zsq<|zbk<|zlp (fun mm M w=>∃(t3:Int->Int) (a3:Int) (b3:Int),mm=((n-a3).toNat)/\(0<=a3)/\(a3<=n)/\(b3=a3+2*z)/\(2*z∣a3)/\(PermOn 0 n s t3)/\(Runs_ lt (2*z) n 0 a3 t3)/\(Runs_ lt z n a3 n t3)/\(∀k,0<=k->k<n->0<=t3 k/\t3 k<nm)/\M= [(0,vd),(1,.int .i64 n),(2,.func (.func 69) #[] #[(.pointer (some ⟨gs,0,none⟩))]),(6,.int .i64 z),(7,.int .i64 a3),(8,.int .i64 b3)]/\Sat w0 w [.own vd 1 3 n (ints t3),.sem F]) ⟨t2,0,2*z,rfl,(by omega),(by omega),(by omega),?_,?_,?_,?_,?_,rfl,hS⟩ ?_
   ·
    exact Int.dvd_zero _
   ·
    exact hp2
   ·
    intro c c0 c1;omega
   ·
    exact hr2
   ·
    exact hd2
   clear hS w
   rintro mm M w ⟨t3,a3,b3,rfl,a30,a31,hb3,xP,hp3,hA,hB,hd3,rfl,hS⟩
   refine zx11<|(zP)<|(zP)<|(zP)<|zlt<|Ze ?_ ?_<;>intro hc
   ·
    refine zsk<|ztn<|zbk<|zsr<|zs4 ?_
    refine(zV (Zf (r:=a3+z)))<|zs2 ?_
    have hk:=Vk (lt:=lt) (z:=z) (n:=n) (a:=a3) (b:=b3) (t:=t3) (by omega) a30 (Int.dvd_trans (Int.dvd_mul_left 2 z) xP) hB (by omega) (by omega) (by omega)
    refine zlc (xc0 R4) (Zet (nm:=nm) (lt:=lt) hsl hn8 hw _ (s:=t3) (a:=a3) (m:=a3+z) (b:=b3) w0 w hS qJ hd3 (by omega) (by omega) (by omega) (by omega) hk.1 hk.2.1 hk.2.2 (Nat.lt_succ_self _)) ?_;rintro _ w ⟨rfl,u2,xp,y7,hS⟩
    have zG:=xp.dom (by omega) (.inl (by omega)) hd3
    refine zlz<|(zP)<|(zP)<|zlt<|zrg<|(zP)<|(zP)<|(zV (Z4 (r:=2*z)))<|(zV (Zf (r:=b3+2*z)))<|(zP)<|zln<|zbn<|zlq ⟨u2,b3,b3+2*z,rfl,(by omega),(by omega),(by omega),?_,?_,?_,?_,?_,rfl,hS⟩
    ·
     rw [hb3];exact Int.dvd_add xP (Int.dvd_refl _)
    ·
     exact hp3.trans (xp.mono (by omega) (by omega))
    ·
     exact(Yv (by omega) a30 xP hA hB xp y7 (.inl ⟨hb3,by omega⟩) (by omega)).1
    ·
     exact(Yv (by omega) a30 xP hA hB xp y7 (.inl ⟨hb3,by omega⟩) (by omega)).2
    ·
     exact zG
   refine zx18<|(zP)<|(zP)<|(zV (Zf (r:=a3+z)))<|(zP)<|zlz<|(zP)<|(zP)<|(zP)<|zlt<|Ze ?_ ?_<;>intro hc
   ·
    refine zrg<|zs5 ?_
    have hk:=Vk (lt:=lt) (z:=z) (n:=n) (a:=a3) (b:=n) (t:=t3) (by omega) a30 (Int.dvd_trans (Int.dvd_mul_left 2 z) xP) hB (by omega) (by omega) (by omega)
    refine zlc (xc0 R4) (Zet (nm:=nm) (lt:=lt) hsl hn8 hw _ (s:=t3) (a:=a3) (m:=a3+z) (b:=n) w0 w hS qJ hd3 (by omega) (by omega) (by omega) (by omega) hk.1 hk.2.1 hk.2.2 (Nat.lt_succ_self _)) ?_;rintro _ w ⟨rfl,u2,xp,y7,hS⟩
    have zG:=xp.dom (by omega) (.inl (by omega)) hd3
    refine zlt<|zrg<|(zP)<|(zV (Z4 (r:=2*z)))<|(zP)<|zln<|zbn<|zlq ⟨u2,2*z,rfl,(by omega),(by omega),?_,?_,?_,rfl,hS⟩
    ·
     first|exact hp3.trans (xp.mono (by omega) (by omega))|exact hp3
    ·
     first|exact(Yv (by omega) a30 xP hA hB xp y7 (.inr ⟨rfl,by omega⟩) (by omega)).1|exact Vl (by omega) a30 xP hA hB (by omega) (by omega)
    ·
     first|exact zG|exact hd3
   refine zsk<|ztn<|zrg<|(zP)<|(zV (Z4 (r:=2*z)))<|(zP)<|zln<|zbn<|zlq ⟨t3,2*z,rfl,(by omega),(by omega),?_,?_,?_,rfl,hS⟩
   ·
    first|exact hp3.trans (xp.mono (by omega) (by omega))|exact hp3
   ·
    first|exact(Yv (by omega) a30 xP hA hB xp y7 (.inr ⟨rfl,by omega⟩) (by omega)).1|exact Vl (by omega) a30 xP hA hB (by omega) (by omega)
   ·
    first|exact zG|exact hd3
  refine zxt<|ztx<|ztx<|zbh<|Wb ⟨_,rfl,?_⟩
  exact⟨rfl,t2,hp2,Kz hr2 (by omega),hS⟩
theorem Zev{s:Int->Int}{lt:Int->Int->Prop}{F:Go.Proofs.Gw.Frame}(w0 w:World)(hS:Sat w0 w [.own vd 1 3 n (ints s),.sem F])(hsl:Slh vd n)(hn8:n<=100000000)(qJ:∀(w:World) (x y:Int),0<=x->x<nm->0<=y->y<nm->Below w0.heap.size w0 w->F.holds w->Calls Tryz.prog 69 [.int .i64 x,.int .i64 y,(.pointer (some ⟨gs,0,none⟩))].toArray w fun e w'=>∃v,e= .returned v/\∃c:Int,v= .int .i64 c/\(c<0↔lt x y)/\Sat w w' [])(hd:∀k,0<=k->k<n->0<=s k/\s k<nm)(hw:Swo lt)(xg:Uv 0 n s):
    Calls Tryz.prog 68 [vd,.func (.func 69) #[] #[(.pointer (some ⟨gs,0,none⟩))]].toArray w fun e w=>∃v,e= .returned v/\v= .tuple #[]/\∃t:Int->Int,PermOn 0 n s t/\Srt (Tie lt) 0 n t/\Sat w0 w [.own vd 1 3 n (ints t),.sem F]:=by
  refine zenF Tryz.func68 Tryz.ntmps68 ?_
  refine zrg<|(zP)<|(zP)<|(zV (xln Zb hsl))<|(zP)<|zlc (xc0 ZiC) (ZcF (s:=s) w0 w hS hsl hn8 qJ hd hw xg) ?_;rintro _ w ⟨rfl,u1,qG,xN,hS⟩
  refine zln<|Wb ⟨_,rfl,?_⟩
  exact⟨rfl,u1,qG,xN,hS⟩
theorem ZfX{x y:Int}(w0:World)(hG:(Ent.blk gs [vX,vY,.int .i64 s.val,.int .i64 s.den]).holds w0)(hX:Row w0 vX 1 s.n (ints s.X))(hY:Row w0 vY 1 s.m (ints s.Y))(hsd:ZT s)(x0:0<=x)(x1:x<s.n)(y0:0<=y)(y1:y<s.n):
    Calls Tryz.prog 69 [.int .i64 x,.int .i64 y,.pointer (some ⟨gs,0,none⟩)].toArray w0 fun e w=>∃v,e= .returned v/\∃c:Int,v= .int .i64 c/\(c<0↔(s.X y).tmod s.den<(s.X x).tmod s.den)/\Sat w0 w []:=by
  obtain⟨⟨d1,d2⟩,⟨d3,d4⟩,d5⟩:=id hsd
  have hxx:=d5 x x0 x1;have hxy:=d5 y y0 y1
  have hq1:=Vf (a:=s.X x) (d:=s.den) hxx.1 (by omega);have hq2:=Vf (a:=s.X y) (d:=s.den) hxy.1 (by omega)
  refine Zm Tryz.func69 Tryz.ntmps69 fun w hS=> ?_
  refine zsr<|(zP)<|zx7<|zdst [] [] 1000 mx_ hS ?_;clear hS;intro w hS
  refine(zDw 0 (xfb 0 fd_29_0))<|(zDl 1 (fun w hS=>(xlf pl_22 (Ent.holds.cell hG (o:=0) rfl) hS)))<|(zDw 2 xmv)<|(zDw 3 (xix (kk:=y) Zb hX.slh))<|(zDl 4 (fun w hS=>(xlr (u:= .int .i64 (s.X y)) pl_3 (hX.below hS.below))))<|(zDw 5 (xfb 3 fd_29_3))<|(zDl 6 (fun w hS=>(xlf pl_3 (Ent.holds.cell hG (o:=3) rfl) hS)))<|(zDw 7 (Rq (r:=(Int.tmod (s.X y) s.den))))<|(zDw 8 (xfb 0 fd_29_0))<|(zDl 9 (fun w hS=>(xlf pl_22 (Ent.holds.cell hG (o:=0) rfl) hS)))<|(zDw 10 xmv)<|(zDw 11 (xix (kk:=x) Zb hX.slh))<|(zDl 12 (fun w hS=>(xlr (u:= .int .i64 (s.X x)) pl_3 (hX.below hS.below))))<|(zDw 13 (xfb 3 fd_29_3))<|zdla 14 (fun w hS=>(xlf pl_3 (Ent.holds.cell hG (o:=3) rfl) hS)) ?_
  refine(zDw 15 (Rq (r:=(Int.tmod (s.X x) s.den))))<|(zDw 16 (ZD (r:=(Int.tmod (s.X y) s.den)-(Int.tmod (s.X x) s.den))))<|(zDw 17 xas)<|zdd<|ztn<|zrt<|zf1 ⟨_,rfl,?_⟩
  exact⟨_,rfl,by omega,hS⟩
def frN(s:So):Nat->Int
  |0=>0
  |k+1=>if(s.X k).tmod s.den=0 then frN s k else frN s k+1
def frF(s:So):Nat->Int->Int
  |0=>fun _=>0
  |k+1=>if(s.X k).tmod s.den=0 then frF s k else snoc (frF s k) (frN s k) k
theorem Zab(s:So)(h:0<=i):frN s (i+1).toNat=if(s.X i).tmod s.den=0 then frN s i.toNat else frN s i.toNat+1:=by
  obtain⟨k,rfl⟩:=Int.eq_ofNat_of_zero_le h;rw [show((k:Int)+1).toNat=k+1 by omega,Int.toNat_natCast];rfl
theorem Zac(s:So)(h:0<=i):frF s (i+1).toNat=if(s.X i).tmod s.den=0 then frF s i.toNat else snoc (frF s i.toNat) (frN s i.toNat) i:=by
  obtain⟨k,rfl⟩:=Int.eq_ofNat_of_zero_le h;rw [show((k:Int)+1).toNat=k+1 by omega,Int.toNat_natCast];rfl
theorem V2 (s:So):∀n:Nat,0<=frN s n/\frN s n<=n/\(∀k,0<=k->k<frN s n->0<=frF s n k/\frF s n k<n/\(s.X (frF s n k)).tmod s.den≠0)/\Uv 0 (frN s n) (frF s n)/\∀q,0<=q->q<(n:Int)->(s.X q).tmod s.den≠0->∃k,0<=k/\k<frN s n/\frF s n k=q
  |0=>⟨by simp [frN],by simp [frN],fun k k0 k1=>by simp [frN] at k1;omega,fun i j i0 ij j1=>by simp [frN] at j1;omega,fun q q0 q1=>by omega⟩
  | n + 1 =>by
    obtain⟨h1,h2,h3,h4,h5⟩:=V2 s n
    simp only [frN,frF]
    by_cases h:(s.X n).tmod s.den=0
    · rw [if_pos h,if_pos h]
      refine⟨h1,by omega,fun k k0 k1=> ?_,h4,fun q q0 q1 hq=> ?_⟩
      · have:=h3 k k0 k1;exact⟨this.1,by omega,this.2.2⟩
      · by_cases e:q=n
        · rw [e] at hq;exact absurd h hq
        · exact h5 q q0 (by omega) hq
    · rw [if_neg h,if_neg h]
      refine⟨by omega,by omega,fun k k0 k1=> ?_,fun i j i0 ij j1=> ?_,fun q q0 q1 hq=> ?_⟩
      · by_cases e:k<frN s n
        · rw [Zl e];have:=h3 k k0 e;exact⟨this.1,by omega,this.2.2⟩
        · rw [Zk e];exact⟨by omega,by omega,h⟩
      · by_cases e:j<frN s n
        · rw [Zl e,Zl (show i<frN s n by omega)];exact h4 i j i0 ij e
        · rw [Zk e,Zl (show i<frN s n by omega)];have:=h3 i i0 (by omega);omega
      · by_cases e:q=n
        · exact⟨frN s n,h1,by omega,by rw [Zk (by omega),e]⟩
        · obtain⟨k,k0,k1,hk⟩:=h5 q q0 (by omega) hq
          exact⟨k,k0,by omega,by rw [Zl k1];exact hk⟩
def Zbr(a r:List Int):Bool:=(List.zipWith (fun x y=>if 0<x/\0<y then(1:Int) else 0) a r).any fun x=>decide (0<x)
def Xr(m:Int)(mf:Int->Int->Int)(st:List Int×Us)(k:Int):List Int×Us:=
  if Zbr (lst m (mf k)) st.1 then(List.zipWith (fun x y=>max 0 (y-x)) (lst m (mf k)) st.1,st.2++ [(lst m (mf k),1)]) else st
def WX(m:Int)(mf:Int->Int->Int)(r0:List Int)(L0:Us)(h:List Int):List Int×Us:=h.foldl (Xr m mf) (r0,L0)
theorem KQ{f:Int->Int}(n0:0<=n):lst (n+1) f=lst n f++ [f n]:=by
  unfold lst
  rw [show(n+1).toNat=n.toNat+1 by omega,List.range_succ,List.map_append,List.map_singleton,Int.toNat_of_nonneg n0]
theorem TH(m:Int)(mf:Int->Int->Int)(r0:List Int)(L0:Us)(j0:0<=j):WX m mf r0 L0 (lst (j+1) t)=Xr m mf (WX m mf r0 L0 (lst j t)) (t j):=by
  rw [KQ j0];simp [WX]
theorem VP{f g:Int->Int}:Zbr (lst m f) (lst m g)=true↔∃i,0<=i/\i<m/\0<f i/\0<g i:=by
  unfold Zbr
  rw [YI,Wr]
  constructor
  · rintro⟨k,k0,k1,h⟩
    refine⟨k,k0,k1,?_⟩
    by_cases hh:0<f k/\0<g k
    · exact hh
    · rw [if_neg hh] at h;omega
  · rintro⟨k,k0,k1,h⟩
    exact⟨k,k0,k1,by rw [if_pos h];omega⟩
theorem uNo{r0:List Int}{L0:Us}{g:Int->Int}(j0:0<=j)(h:(lst m g,plL n ln pt cnt)=WX m mf r0 L0 (lst j t))(hn:¬∃i,0<=i/\i<m/\0<mf (t j) i/\0<g i):(lst m g,plL n ln pt cnt)=WX m mf r0 L0 (lst (j+1) t):=by
  rw [TH _ _ _ _ j0,<-h]
  unfold Xr
  rw [if_neg fun hh=>hn (VP.1 hh)]
theorem ZgW{r0:List Int}{L0:Us}{g g2 cnt2:Int->Int}(j0:0<=j)(n0:0<=n)(h:(lst m g,plL n ln pt cnt)=WX m mf r0 L0 (lst j t))(hn:∃i,0<=i/\i<m/\0<mf (t j) i/\0<g i)(hg:∀k,0<=k->k<m->g2 k=max 0 (g k-mf (t j) k))
    (h1:∀k,0<=k->k<n->ln2 k=ln k/\cnt2 k=cnt k/\pt2 k=pt k) (h2:ln2 n=m) (h3:cnt2 n=1) (h4:pt2 n=mf (t j)):(lst m g2,plL (n+1) ln2 pt2 cnt2)=WX m mf r0 L0 (lst (j+1) t):=by
  rw [TH _ _ _ _ j0,<-h]
  unfold Xr
  dsimp only
  rw [if_pos (VP.2 hn),YI,Vs n0 h1 h2 h3 h4,ZI (f:=g2) (g:=fun k=>max 0 (g k-mf (t j) k)) hg]
def UpR (p:Prob) (u:Int) (ml:Int->Int) (mf:Int->Int->Int) (s:So) (out:Us) (e:Int):Prop:=
  (e≠0/\out= []/\∃n ln pt cnt,WholeR p u ml mf s n ln pt cnt e)\/(∃n1 ln1 pt1 q6 t n ln pt cnt,WholeR p u ml mf s n1 ln1 pt1 q6 0/\0<=n1/\0<=n/\PermOn 0 (frN s u.toNat) (frF s u.toNat) t/\Srt (Tie fun x y=>(s.X y).tmod s.den<(s.X x).tmod s.den) 0 (frN s u.toNat) t/\
    plL n ln pt cnt=(WX p.m mf (lst p.m (leftF p (Zo n1 pt1 q6))) (plL n1 ln1 pt1 q6) (lst (frN s u.toNat) t)).2/\TrimR p n ln pt cnt out e)
theorem Ru{mf g:Int->Int}{us us2:Prop}(i0:0<=i)(h:us↔∃q,0<=q/\q<i/\0<mf q/\0<g q)(h2:us2↔(us\/(0<mf i/\0<g i))):us2↔∃q,0<=q/\q<i+1/\0<mf q/\0<g q:=by
  rw [h2,h]
  constructor
  · rintro(⟨q,q0,q1,q2⟩|hh)
    · exact⟨q,q0,by omega,q2⟩
    · exact⟨i,i0,by omega,hh⟩
  · rintro⟨q,q0,q1,q2⟩
    by_cases e:q=i
    · subst e;exact .inr q2
    · exact .inl ⟨q,q0,by omega,q2⟩
theorem Zc5(s:So):Swo (fun x y=>(s.X y).tmod s.den<(s.X x).tmod s.den):=
  ⟨fun x y h=>by omega,fun x y z h k=>by omega,fun x y z h k=>by omega⟩
theorem Zkz{p:Prob}(w0:World)(h:PAt w0 vL vD p)(hM:MAt w0 vM u mv ml mf)(hX:Row w0 vX 1 s.n (ints s.X))(hY:Row w0 vY 1 s.m (ints s.Y))(xV:s.n<=1000):
    Calls Tryz.prog 35 [.agg #[vL,vD,.int .i64 p.stock,.int .i64 p.kerf],.agg #[vM,vX,vY,.int .i64 s.val,.int .i64 s.den]].toArray w0 fun e w=>∃v,e= .returned v/\∃r n pv ln pt cnt e,v= .tuple #[r,.int .i64 e]/\UpR p u ml mf s (plL n ln pt cnt) e/\(∀k,0<=k->k<n->1<=cnt k/\cnt k<=1000000000)/\n<=1000000/\Slh r n/\Sat w0 w [.own r 2 111 n (Zd pv cnt),.sem (Frame.rows 3 n pv ln pt)]:=by
  have hm:=h.L.slh.n0;have hm1:=h.L.slh.n1;have hd:=h.D.slh.n0;have hd1:=h.D.slh.n1;have hs:=h.is;have hk:=h.ik
  have hu:=hM.row.slh.n0;have hu1:=hM.row.slh.n1;have hn:=hX.slh.n0;have hn1:=hX.slh.n1
  refine Zm Tryz.func35 Tryz.ntmps35 fun w hS=> ?_
  refine zsr<|zla (xbx (cs:= [_,_,_,_]) hS) ?_;rintro _ w ⟨g1,rfl,hS⟩
  refine zla (xbx (cs:= [_,_,_,_,_]) hS) ?_;rintro _ w ⟨g2,rfl,hS⟩
  refine(zP)<|(zP)<|zlz<|(zV (xls 0 st_35 hS))<|(zV (xls 1 Ws hS))<|zlc (xc0 ZgL) (Zb5 (p:=p) (u:=u) (ml:=ml) (mf:=mf) (s:=s) w (h.below hS.below) (hM.below hS.below) (hX.below hS.below) (hY.below hS.below) xV) ?_;rintro _ w ⟨xu,qn,qQ,xR,xl,qR,bF,rfl,yg,af,hS'⟩
  replace hS:=(hS.comp hS').n4;clear hS'
  have bl:=fun k (k0:0<=k) (k1:k<qn)=>hS.slhIn 3 rfl k0 k1
  refine zs5 ?_
  refine zx5<|(zP)<|(zP)<|zlt<|Ze ?_ ?_<;>intro hc
  ·
   refine zsr<|(zP)<|(zP)<|(zP)<|zx14<|zf2 ⟨_,rfl,?_⟩
   exact⟨_,0,fun _=>undef,fun _=>0,fun _ _=>0,fun _=>0,_,rfl,.inl ⟨by omega,rfl,_,_,_,_,yg⟩,fun k k0 k1=>by omega,by omega,slh_nil,((hS.sub (.cons _ (.cons _ (.cons _ (.cons _ .slnil))))).addnil 2 111 (Zd (fun _=>undef) (fun _=>0))).addrows 3 (fun _=>undef) (fun _=>0) (fun _ _=>0)⟩
  refine Z7<|zlv (xls 0 st_35 hS) ?_
  obtain⟨qg,qq,zB,br,zb,zc⟩:=yg.ok (by omega) hu
  have qs:=qg
  have hsd:=qq.1
  obtain⟨⟨d1,d2⟩,⟨d3,d4⟩,d5⟩:=id hsd
  have hun:=qq.2.1
  have hu6:=qq.2.2.1
  have yy:=qg.m1;have xc:=qg.m2;have hpd:=qg.d
  refine(zP)<|zlc (xc0 Zaq) (VK (u:=qn) (pv:=qQ) (ln:=xR) (pt:=xl) (cnt:=qR) (p:=p) w (⟨(hS.rowN 2 rfl),fun k k0 k1=>hS.rowIn 3 rfl k0 k1,fun k k0 k1=>hS.roomIn 3 rfl k0 k1⟩:VAt _ xu qn qQ xR xl qR) (h.below hS.below)) ?_;rintro _ w ⟨qh,qd,qb,xT,rfl,qm,qe,hS'⟩
  replace hS:=(hS.comp hS').n5;clear hS'
  obtain⟨zY,xW⟩:qd=p.m/\qb=Zo qn xl qR:=by rcases qm with⟨g1,_⟩|⟨_,g2,g3,_⟩;exact absurd zb g1;exact⟨g2,g3⟩
  have yI:∀k,0<=k->k<p.m->0<=qb k/\qb k<=2000000000:=fun k k0 k1=>by rw [xW];have h9:=Yj zb.2.2 zc (Int.le_refl _) k0 k1;omega
  have yA:=fun k (k0:0<=k) (k1:k<p.m)=>(yI k k0 k1).1
  have htl:=WQ qg yA p.m.toNat (by have:=qg.m1;omega)
  refine zs5 ?_
  refine zlz<|(zV (xls 0 st_35 hS))<|(zP)<|zlc (xc0 Zd0) (Zbh (p:=p) (f:=qb) w (h.below hS.below) qg (zY▸(hS.rowN 4 rfl)) yI) ?_;rintro _ w ⟨xQ,qP,rfl,x4,qU,hS'⟩
  replace hS:=(hS.comp hS').n7;clear hS'
  refine(zV (xany (v:=qP)))<|(zP)<|zlz<|(zV (xfb 1 fd_31_1))<|(zV (xlp 1 (ds:= [vX,vY,.int .i64 s.val,.int .i64 s.den]) Z3 hS))<|zla (xal (cs:= [_,_,_,_]) VG hS) ?_;rintro _ w ⟨g3,rfl,hS⟩
  refine zle (xsw 7 Z3 hS (hd:=(Za hX.slh.one (Za hY.slh.one (Za rfl (Za rfl Zg)))))) ?_;clear hS;rintro w hS
  refine zlz<|(zP)<|zx5<|(zV (xfb 0 fd_29_0))<|(zV (xlb 7 pl_22 hS))<|(zV (xln Zb hX.slh))<|(zP)<|zx6 ?_
  replace hS:=hS.addnil 1 3 (ints (fun _=>0))
  refine zlp (fun mm M w=>∃(nO:Int) (fO:Int->Int) (i:Int) (vO:Value),mm=((s.n-i).toNat)/\(0<=i)/\(i<=s.n)/\(nO=frN s i.toNat)/\(fO=frF s i.toNat)/\(0<=nO/\nO<=i)/\(Slh vO nO)/\M= [(2,.pointer (some ⟨g1,0,none⟩)),(3,.pointer (some ⟨g2,0,none⟩)),(4,.slice none 0 0),(5,.int .i64 0),(6,xu),(10,qP),(11,.pointer (some ⟨g3,0,none⟩)),(12,vO),(45,vX),(46,.int .i64 s.n),(47,.int .i64 i)]/\Sat w0 w [.blk g1 [vL,vD,.int .i64 p.stock,.int .i64 p.kerf],.blk g2 [vM,vX,vY,.int .i64 s.val,.int .i64 s.den],.own xu 2 111 qn (Zd qQ qR),.sem (Frame.rows 3 qn qQ xR xl),.own qh 1 3 qd (ints qb),.own xQ 1 3 p.m (ints p.L),.own qP 1 3 p.d (ints (leftF p qb)),.blk g3 [vX,vY,.int .i64 s.val,.int .i64 s.den],.own vO 1 3 nO (ints fO)]) ⟨0,(fun _=>0),0,(.slice none 0 0),rfl,(by omega),(by omega),?_,?_,(by omega),?_,rfl,hS⟩ ?_
  ·
   rfl
  ·
   rfl
  ·
   exact slh_nil
  clear hS w
  rintro mm M w ⟨nO,fO,i,vO,rfl,h0,h1,hfN,hfF,hnO,hvO,rfl,hS⟩
  refine zsr<|(zP)<|zx7<|Ze ?_ ?_<;>intro hc
  ·
   refine zx3<|(zP)<|(zV (xix (kk:=i) Zb hX.slh))<|zlv (xlr (u:= .int .i64 (s.X i)) pl_3 (hX.below hS.below)) ?_
   have hXi:=d5 i h0 (by omega)
   have hti:=Vf hXi.1 d1
   refine(zP)<|(zP)<|zlz<|(zP)<|(zV (xfb 3 fd_29_3))<|(zV (xlb 7 pl_3 hS))<|(zV (Rq (r:=(Int.tmod (s.X i) s.den))))<|(zP)<|zlt<|Ze ?_ ?_<;>intro hc
   ·
    refine zrg<|(zP)<|(zP)<|zla (xli (n:=1) (len:=1) (pv:= [(0,.int .i64 i)]) (cs:= [.int .i64 i]) (c:=ints (fun _=>i)) Zb Zn hS) ?_;rintro v1 w ⟨hS,hv1⟩
    refine zla (xap 8 (r:=nO+1) Zb Zn hS (hS.rowN 9 rfl) (Z1 _ _ _)) ?_;rintro v2 w ⟨hS,hv2⟩
    refine(zP)<|zx10<|(zV (Zf (r:=i+1)))<|(zP)<|zln<|zlq ⟨nO+1,(snoc fO nO i),i+1,v2,rfl,(by omega),(by omega),?_,?_,(by omega),?_,rfl,hS.pk [0,1,2,3,4,5,6,7,8]⟩
    ·
     rw [Zab s h0,<-hfN];first|rw [if_pos (by omega)]|rw [if_neg (by omega)]
    ·
     rw [Zac s h0,<-hfN,<-hfF];first|rw [if_pos (by omega)]|rw [if_neg (by omega)]
    ·
     exact hv2
   refine zx4<|(zV (Zf (r:=i+1)))<|(zP)<|zln<|zlq ⟨nO,fO,i+1,vO,rfl,(by omega),(by omega),?_,?_,(by omega),?_,rfl,hS⟩
   ·
    rw [Zab s h0,<-hfN];first|rw [if_pos (by omega)]|rw [if_neg (by omega)]
   ·
    rw [Zac s h0,<-hfN,<-hfF];first|rw [if_pos (by omega)]|rw [if_neg (by omega)]
   ·
    exact hvO
  refine zx8<|zlv xmv ?_
  have hiN:i=u:=by omega
  rw [hiN] at hfN hfF
  obtain⟨hr1,hr2,hr3,hr4,hr5⟩:=V2 s u.toNat
  have hdO:∀k,0<=k->k<nO->0<=fO k/\fO k<s.n:=fun k k0 k1=>by rw [hfF];have:=hr3 k k0 (by omega);omega
  have hIO:Uv 0 nO fO:=by rw [hfN,hfF];exact hr4
  refine(zV xmf)<|zlc (xc0 ZjU) (Zev (gs:=g3) (vd:=vO) (n:=nO) (nm:=s.n) (s:=fO) (lt:=fun x y=>(s.X y).tmod s.den<(s.X x).tmod s.den) (F:=Frame.bun [.blk g1 [vL,vD,.int .i64 p.stock,.int .i64 p.kerf],.blk g2 [vM,vX,vY,.int .i64 s.val,.int .i64 s.den],.own xu 2 111 qn (Zd qQ qR),.sem (Frame.rows 3 qn qQ xR xl),.own qh 1 3 qd (ints qb),.own xQ 1 3 p.m (ints p.L),.own qP 1 3 p.d (ints (leftF p qb)),.blk g3 [vX,vY,.int .i64 s.val,.int .i64 s.den]]) w0 w (Sat.bundle (l1:= [_]) (hS.pk [8,0,1,2,3,4,5,6,7])) hvO (by omega) (fun w x y x0 x1 y0 y1 hb hF=>ZfX w (hF.1 _ (List.mem_of_getElem? (i:=7) rfl)) (hX.below hb) (hY.below hb) hsd x0 x1 y0 y1) hdO (Zc5 s) hIO) ?_;rintro _ w ⟨rfl,t1,aK,cQ,hS⟩
  replace hS:=Sat.unbundle (l1:= [_]) (l3:= []) hS
  refine zx5<|zlv xmv ?_
  have htd:∀k,0<=k->k<nO->0<=t1 k/\t1 k<s.n:=fun k k0 k1=>by obtain⟨q,q0,q1,q2⟩:=aK.fr k0 k1;rw [show t1 k=fO q from q2];exact hdO q q0 q1
  have hlf:∀k,0<=k->k<p.m->0<=leftF p qb k/\leftF p qb k<=1000:=fun k k0 k1=>by have h9:=X2 qg k0 k1;have h8:=yA k k0 k1;unfold leftF;rw [if_pos ⟨k0,k1⟩];omega
  refine(zV (xln Zb hvO))<|(zP)<|zx6<|zlp (fun mm M w=>∃(nC:Int) (wv:Int->Value) (lC:Int->Int) (gC:Int->Int->Int) (cC:Int->Int) (gR:Int->Int) (j:Int) (wC:Value),mm=((nO-j).toNat)/\(0<=j)/\(j<=nO)/\(0<=nC)/\(nC<=60+j)/\((lst p.m gR,plL nC lC gC cC)=WX p.m mf (lst p.m (leftF p qb)) (plL qn xR xl qR) (lst j t1))/\(∀k,0<=k->k<p.m->0<=gR k/\gR k<=1000)/\(Slh wC nC)/\M= [(2,.pointer (some ⟨g1,0,none⟩)),(3,.pointer (some ⟨g2,0,none⟩)),(4,.slice none 0 0),(5,.int .i64 0),(6,wC),(10,qP),(65,vO),(66,.int .i64 nO),(67,.int .i64 j)]/\Sat w0 w [.own vO 1 3 nO (ints t1),.blk g1 [vL,vD,.int .i64 p.stock,.int .i64 p.kerf],.blk g2 [vM,vX,vY,.int .i64 s.val,.int .i64 s.den],.own wC 2 111 nC (Zd wv cC),.sem (Frame.rows 3 nC wv lC gC),.own qh 1 3 qd (ints qb),.own xQ 1 3 p.m (ints p.L),.own qP 1 3 p.d (ints gR),.blk g3 [vX,vY,.int .i64 s.val,.int .i64 s.den]]) ⟨qn,qQ,xR,xl,qR,(leftF p qb),0,xu,rfl,(by omega),(by omega),(by omega),(by omega),?_,?_,?_,rfl,hS⟩ ?_
  ·
   rfl
  ·
   exact hlf
  ·
   exact af
  clear hS w
  rintro mm M w ⟨nC,wv,lC,gC,cC,gR,j,wC,rfl,j0,j1,zo,gZ,hUr,hGR,hwC,rfl,hS⟩
  have qN:=fun k (k0:0<=k) (k1:k<nC)=>hS.slhIn 4 rfl k0 k1
  refine zsr<|(zP)<|zx7<|Ze ?_ ?_<;>intro hc
  ·
   refine zx3<|(zV (xix (kk:=j) Zb hvO))<|zlv (xlr (u:= .int .i64 (t1 j)) pl_3 (hS.rowN 0 rfl)) ?_
   have htj:=htd j j0 (by omega)
   obtain⟨hmk,hak⟩:=YA (qq.2.2.2.1 (t1 j) htj.1 (by omega)).1
   refine(zP)<|zlz<|(zV (xfb 0 UA))<|(zV (xlb 2 Zu hS))<|(zP)<|(zV (xix (kk:=(t1 j)) Zi hM.row.slh))<|(zV (xlr (u:=(mv (t1 j))) pl_22 (hM.row.below hS.below)))<|(zP)<|zlz<|(zP)<|zx5<|(zP)<|(zV (xln Zb (hM.p (t1 j) (by omega) (by omega)).slh))<|(zP)<|zx6<|zlp (fun mm M w=>∃(useful:Prop) (i2:Int),mm=((ml (t1 j)-i2).toNat)/\(0<=i2)/\(i2<=ml (t1 j))/\(useful↔∃q,0<=q/\q<i2/\0<mf (t1 j) q/\0<gR q)/\M= [(2,.pointer (some ⟨g1,0,none⟩)),(3,.pointer (some ⟨g2,0,none⟩)),(4,.slice none 0 0),(5,.int .i64 0),(6,wC),(10,qP),(17,(mv (t1 j))),(18,B (useful)),(65,vO),(66,.int .i64 nO),(67,.int .i64 j),(76,(mv (t1 j))),(77,.int .i64 (ml (t1 j))),(78,.int .i64 i2)]/\Sat w0 w [.own vO 1 3 nO (ints t1),.blk g1 [vL,vD,.int .i64 p.stock,.int .i64 p.kerf],.blk g2 [vM,vX,vY,.int .i64 s.val,.int .i64 s.den],.own wC 2 111 nC (Zd wv cC),.sem (Frame.rows 3 nC wv lC gC),.own qh 1 3 qd (ints qb),.own xQ 1 3 p.m (ints p.L),.own qP 1 3 p.d (ints gR),.blk g3 [vX,vY,.int .i64 s.val,.int .i64 s.den]]) ⟨False,0,rfl,(by omega),(by omega),?_,rfl,hS⟩ ?_ (hM:=by repeat' first|exact UH|refine zpk rfl ?_|refine zpk (congrArg some (B_false not_false).symm) ?_|refine zpk (congrArg some (YM trivial).symm) ?_)
   ·
    exact⟨fun h=>h.elim,fun⟨q,q0,q1,_⟩=>by omega⟩
   clear hS w
   rintro mm M w ⟨useful,i2,rfl,i20,i21,hus,rfl,hS⟩
   refine zsr<|(zP)<|zx7<|Ze ?_ ?_<;>intro hc
   ·
    refine zx3<|(zP)<|(zV (xix (kk:=i2) Zb (hM.p (t1 j) (by omega) (by omega)).slh))<|zlv (xlr (u:= .int .i64 ((mf (t1 j)) i2)) pl_3 ((hM.p (t1 j) (by omega) (by omega)).below hS.below)) ?_
    have haq:=hak i2 i20 (by omega)
    refine(zP)<|(zP)<|zlt<|zrg<|(zP)<|(zP)<|zlb 84 ?_ ?_<;>intro hc
    ·
     iterate 9 refine zlo ?_
     refine(zP)<|(zP)<|zx10<|(zV (Zf (r:=i2+1)))<|(zP)<|zln<|zlq ⟨True,i2+1,rfl,(by omega),(by omega),?_,rfl,hS⟩ (hM:=by repeat' first|exact UH|refine zpk rfl ?_|refine zpk (congrArg some (B_false not_false).symm) ?_|refine zpk (congrArg some (YM trivial).symm) ?_)
     ·
      refine Ru i20 hus ?_
      first
      |exact⟨fun _=> .inl ‹useful›,fun _=>trivial⟩
      |exact⟨fun h9=> .inr ⟨‹0<mf (t1 j) i2›,h9⟩,fun h9=>h9.elim (fun h8=>absurd h8 ‹¬useful›) (·.2)⟩
      |exact⟨fun h9=>h9.elim,fun h9=>h9.elim (fun h8=>absurd h8 ‹¬useful›) (fun h8=>absurd h8.1 ‹¬0<mf (t1 j) i2›)⟩
    refine(zP)<|(zP)<|(zP)<|zlb 87 ?_ ?_<;>intro hc
    ·
     refine(zP)<|(zP)<|(zV (xix (kk:=i2) Zb qU))<|(zV (xlr (u:= .int .i64 (gR i2)) pl_3 (hS.rowN 7 rfl)))<|zs4 ?_
     refine zx10<|(zV (Zf (r:=i2+1)))<|(zP)<|zln<|zlq ⟨0<gR i2,i2+1,rfl,(by omega),(by omega),?_,rfl,hS⟩
     ·
      refine Ru i20 hus ?_
      first
      |exact⟨fun _=> .inl ‹useful›,fun _=>trivial⟩
      |exact⟨fun h9=> .inr ⟨‹0<mf (t1 j) i2›,h9⟩,fun h9=>h9.elim (fun h8=>absurd h8 ‹¬useful›) (·.2)⟩
      |exact⟨fun h9=>h9.elim,fun h9=>h9.elim (fun h8=>absurd h8 ‹¬useful›) (fun h8=>absurd h8.1 ‹¬0<mf (t1 j) i2›)⟩
    iterate 5 refine zlo ?_
    refine(zP)<|(zP)<|(zP)<|zx10<|(zV (Zf (r:=i2+1)))<|(zP)<|zln<|zlq ⟨False,i2+1,rfl,(by omega),(by omega),?_,rfl,hS⟩ (hM:=by repeat' first|exact UH|refine zpk rfl ?_|refine zpk (congrArg some (B_false not_false).symm) ?_|refine zpk (congrArg some (YM trivial).symm) ?_)
    ·
     refine Ru i20 hus ?_
     first
     |exact⟨fun _=> .inl ‹useful›,fun _=>trivial⟩
     |exact⟨fun h9=> .inr ⟨‹0<mf (t1 j) i2›,h9⟩,fun h9=>h9.elim (fun h8=>absurd h8 ‹¬useful›) (·.2)⟩
     |exact⟨fun h9=>h9.elim,fun h9=>h9.elim (fun h8=>absurd h8 ‹¬useful›) (fun h8=>absurd h8.1 ‹¬0<mf (t1 j) i2›)⟩
   refine zx18<|(zP)<|(zP)<|zlt<|Ze ?_ ?_<;>intro hc
   ·
    refine zxt<|ztx<|zbh<|ztn<|zrg<|(zV (Zf (r:=j+1)))<|(zP)<|zln<|zlq ⟨nC,wv,lC,gC,cC,gR,j+1,wC,rfl,(by omega),(by omega),(by omega),(by omega),?_,?_,?_,rfl,hS⟩
    ·
     first|exact uNo j0 hUr (fun⟨q,q0,q1,q2⟩=>absurd (hus.2 ⟨q,q0,by omega,q2⟩) ‹_›)|exact ZgW j0 zo hUr (by obtain⟨q,q0,q1,q2⟩:=hus.1 (by first|assumption|exact Classical.not_not.1 ‹_›);exact⟨q,q0,by omega,q2⟩) (fun k k0 k1=>(hg4 k k0 k1).trans (if_pos (by omega))) (fun k k0 k1=>⟨Zs k1,Zl k1,Zs k1⟩) ((Zr (by omega)).trans hmk) (Zk (by omega)) (Zr (by omega))
    ·
     first|exact hGR|(intro k k0 k1;have h9:=hg4 k k0 k1;rw [if_pos (by omega)] at h9;have h8:=hGR k k0 k1;have h7:=hak k k0 k1;omega)
    ·
     exact hwC
   refine Z7<|(zP)<|(zP)<|zlc (xc0 cl_70) (c_clone (n:=(ml (t1 j))) (f:=(mf (t1 j))) w ((hM.p (t1 j) (by omega) (by omega)).below hS.below) (by omega)) ?_;rintro vq1 w ⟨_,rfl,qc,hS'⟩
   replace hS:=(hS.comp hS').n10;clear hS'
   refine zlv (xany (v:= .agg #[vq1,.int .i64 1]) (hr:=by obtain⟨_,_,_,_,rfl,_⟩:=qc;kernel_rfl)) ?_
   refine zla (xli (n:=1) (len:=1) (pv:= [(0,.agg #[vq1,.int .i64 1])]) (cs:= [vq1,.int .i64 1]) (c:=Zd (fun _=>vq1) (fun _=>1)) ZV Yw hS (hf:=by obtain⟨_,_,_,_,rfl,_⟩:=qc;kernel_rfl)) ?_;rintro v3 w ⟨hS,hv3⟩
   refine zla (xap 3 (r:=nC+1) ZV Yw hS (hS.rowN 10 rfl) (Yb _ _ _ _ _) (h1:=fun k _ _=>ZG (fun _=>qc.one) k)) ?_;rintro v4 w ⟨hS,hv4⟩
   replace hS:=Sat.merge (l1:= [_,_,_,_]) (l2:= [_,_,_,_]) (l3:= [_]) hS (by omega)
   have xe:=fun k (k0:0<=k) (k1:k<nC+1)=>hS.slhIn 4 rfl k0 k1
   refine(zP)<|zlz<|(zP)<|(zV (xln Zb (hM.p (t1 j) (by omega) (by omega)).slh))<|(zP)<|zx6<|zlp (fun mm M w=>∃(g4:Int->Int) (i4:Int),mm=((ml (t1 j)-i4).toNat)/\(0<=i4)/\(i4<=ml (t1 j))/\(∀k,0<=k->k<p.m->g4 k=if k<i4 then max 0 (gR k-mf (t1 j) k) else gR k)/\M= [(2,.pointer (some ⟨g1,0,none⟩)),(3,.pointer (some ⟨g2,0,none⟩)),(4,.slice none 0 0),(5,.int .i64 0),(6,v4),(10,qP),(65,vO),(66,.int .i64 nO),(67,.int .i64 j),(104,(mv (t1 j))),(105,.int .i64 (ml (t1 j))),(106,.int .i64 i4)]/\Sat w0 w [.own vO 1 3 nO (ints t1),.blk g1 [vL,vD,.int .i64 p.stock,.int .i64 p.kerf],.blk g2 [vM,vX,vY,.int .i64 s.val,.int .i64 s.den],.own v4 2 111 (nC+1) (Zd (gsn wv nC vq1) (snoc cC nC 1)),.sem (Frame.rows 3 (nC+1) (gsn wv nC vq1) (gsn lC nC (ml (t1 j))) (gsn gC nC (mf (t1 j)))),.own qh 1 3 qd (ints qb),.own xQ 1 3 p.m (ints p.L),.own qP 1 3 p.d (ints g4),.blk g3 [vX,vY,.int .i64 s.val,.int .i64 s.den],.own v3 2 111 1 (Zd (fun _=>vq1) (fun _=>1))]) ⟨gR,0,rfl,(by omega),(by omega),?_,rfl,hS⟩ ?_
   ·
    intro k k0 k1;rw [if_neg (by omega)]
   clear hS w
   rintro mm M w ⟨g4,i4,rfl,i40,i41,hg4,rfl,hS⟩
   refine zsr<|(zP)<|zx7<|Ze ?_ ?_<;>intro hc
   ·
    refine zx3<|(zP)<|(zV (xix (kk:=i4) Zb (hM.p (t1 j) (by omega) (by omega)).slh))<|zlv (xlr (u:= .int .i64 ((mf (t1 j)) i4)) pl_3 ((hM.p (t1 j) (by omega) (by omega)).below hS.below)) ?_
    have haq:=hak i4 i40 (by omega)
    have hgq:=hGR i4 i40 (by omega)
    have hgi:=hg4 i4 i40 (by omega)
    rw [if_neg (by omega)] at hgi
    refine(zP)<|(zP)<|zlt<|zrg<|zs4 ?_
    refine(zV (xix (kk:=i4) Zb qU))<|(zV (xlr (u:= .int .i64 (g4 i4)) pl_3 (hS.rowN 7 rfl)))<|(zP)<|(zV (ZD (r:=g4 i4-((mf (t1 j)) i4))))<|(zV (ZaI (r:=(max 0 (g4 i4-((mf (t1 j)) i4))))))<|(zV (xix (kk:=i4) Zb qU))<|zle (xso 7 pl_3 hS (ZE _ _ _)) ?_;clear hS;rintro w hS
    refine zx10<|(zV (Zf (r:=i4+1)))<|(zP)<|zln<|zlq ⟨(upd g4 i4 (max 0 (g4 i4-((mf (t1 j)) i4)))),i4+1,rfl,(by omega),(by omega),?_,rfl,hS⟩
    ·
     intro k k0 k1;unfold upd;by_cases e:k=i4
     · rw [if_pos e,if_pos (by omega),e];omega
     · rw [if_neg e,hg4 k k0 k1];by_cases e2:k<i4
       · rw [if_pos e2,if_pos (by omega)]
       · rw [if_neg e2,if_neg (by omega)]
   refine zx21<|(zV (Zf (r:=j+1)))<|(zP)<|zln<|zlq ⟨nC+1,gsn wv nC vq1,gsn lC nC (ml (t1 j)),gsn gC nC (mf (t1 j)),(snoc cC nC 1),g4,j+1,v4,rfl,(by omega),(by omega),(by omega),(by omega),?_,?_,?_,rfl,hS.pk [0,1,2,3,4,5,6,7,8]⟩
   ·
    first|exact uNo j0 hUr (fun⟨q,q0,q1,q2⟩=>absurd (hus.2 ⟨q,q0,by omega,q2⟩) ‹_›)|exact ZgW j0 zo hUr (by obtain⟨q,q0,q1,q2⟩:=hus.1 (by first|assumption|exact Classical.not_not.1 ‹_›);exact⟨q,q0,by omega,q2⟩) (fun k k0 k1=>(hg4 k k0 k1).trans (if_pos (by omega))) (fun k k0 k1=>⟨Zs k1,Zl k1,Zs k1⟩) ((Zr (by omega)).trans hmk) (Zk (by omega)) (Zr (by omega))
   ·
    first|exact hGR|(intro k k0 k1;have h9:=hg4 k k0 k1;rw [if_pos (by omega)] at h9;have h8:=hGR k k0 k1;have h7:=hak k k0 k1;omega)
   ·
    exact hv4
  refine zx8<|(zV (xls 1 st_35 hS))<|(zP)<|zlc (xc0 ZgK) (Zeq (u:=nC) (pv:=wv) (ln:=lC) (pt:=gC) (cnt:=cC) (p:=p) w (⟨(hS.rowN 3 rfl),fun k k0 k1=>hS.rowIn 4 rfl k0 k1,fun k k0 k1=>hS.roomIn 4 rfl k0 k1⟩:VAt _ wC nC wv lC gC cC) (h.below hS.below)) ?_;rintro _ w ⟨aO,y5,aS,aY,bC,bH,bG,rfl,yj,yl,yk,yh,hS'⟩
  replace hS:=(hS.comp hS').n11;clear hS'
  have al:=fun k (k0:0<=k) (k1:k<y5)=>hS.slhIn 10 rfl k0 k1
  refine zs4 ?_
  refine zx1<|zf2 ⟨_,rfl,?_⟩
  have hjN:j=frN s u.toNat:=by omega
  rw [hjN] at hUr
  exact⟨_,_,_,_,_,_,_,rfl,.inr ⟨_,_,_,_,_,_,_,_,_,(by rw [show(0:Int)=bF by omega];exact yg),zc,zo,(by rw [<-hfN,<-hfF];exact aK),(by rw [<-hfN];exact cQ),(by rw [<-xW,<-hUr]),yj⟩,yl,yk,yh,hS.pk [9,10]⟩
theorem Zas{p:Prob}(w0:World)(h:PAt w0 vL vD p)(hM:MAt w0 vM u mv ml mf)(hX:Row w0 vX 1 s.n (ints s.X))(hY:Row w0 vY 1 s.m (ints s.Y))(xV:s.n<=1000):
    Calls Tryz.prog 109 [.agg #[vL,vD,.int .i64 p.stock,.int .i64 p.kerf],.agg #[vM,vX,vY,.int .i64 s.val,.int .i64 s.den]].toArray w0 fun e w=>∃v,e= .returned v/\v=B (p.Ok/\WZ p u ml mf s)/\Sat w0 w []:=by
  have hm:=h.L.slh.n0;have hm1:=h.L.slh.n1;have hd:=h.D.slh.n0;have hd1:=h.D.slh.n1;have hs:=h.is;have hk:=h.ik
  have hu:=hM.row.slh.n0;have hu1:=hM.row.slh.n1;have hn:=hX.slh.n0;have hn1:=hX.slh.n1
  refine Zm Tryz.func109 Tryz.ntmps109 fun w hS=> ?_
  refine zsr<|zla (xbx (cs:= [_,_,_,_]) hS) ?_;rintro _ w ⟨g1,rfl,hS⟩
  refine zla (xbx (cs:= [_,_,_,_,_]) hS) ?_;rintro _ w ⟨g2,rfl,hS⟩
  refine(zP)<|zlz<|(zV (xfb 1 RO))<|(zV (xlp 1 (ds:= [vX,vY,.int .i64 s.val,.int .i64 s.den]) st_36 hS))<|zla (xal (cs:= [_,_,_,_]) WA hS) ?_;rintro _ w ⟨g3,rfl,hS⟩
  refine zle (xsw 2 st_36 hS (hd:=(Za hX.slh.one (Za hY.slh.one (Za rfl (Za rfl Zg)))))) ?_;clear hS;rintro w hS
  refine zx5<|(zV (xls 0 ZC hS))<|zlc (xc0 Uo) (YH (p:=p) w (h.below hS.below)) ?_;rintro _ w ⟨rfl,hS'⟩
  replace hS:=hS.cmp hS';clear hS'
  refine(zP)<|(zP)<|zlb 15 ?_ ?_<;>intro hc;rotate_left
  refine(zV (xls 2 st_36 hS))<|zlc (xc0 ZgJ) (Tr (s:=s) w (hX.below hS.below) (hY.below hS.below)) ?_;rintro _ w ⟨rfl,hS'⟩
  replace hS:=hS.cmp hS';clear hS'
  refine(zP)<|(zP)<|(zP)<|zlb 20 ?_ ?_<;>intro hc;rotate_left
  refine(zV (xfb 0 fd_38_0))<|(zV (xlb 1 Zu hS))<|(zV (xln Zi hM.row.slh))<|(zV (xfb 0 fd_36_0))<|(zV (xlb 2 pl_22 hS))<|(zV (xln Zb hX.slh))<|(zP)<|(zP)<|(zP)<|zlb 29 ?_ ?_<;>intro hc;rotate_left
  refine(zV (xfb 0 fd_36_0))<|(zV (xlb 2 pl_22 hS))<|(zV (xln Zb hX.slh))<|(zP)<|(zP)<|zlt<|Ze ?_ ?_<;>intro hc
  ·
   refine zsr<|(zP)<|zx14<|zf1 ⟨_,rfl,?_⟩
   refine⟨false_B ?_,hS.nl⟩
   rintro⟨g0,g1,g2,g3,g4,g5⟩
   first
   |exact absurd g0 ‹¬p.Ok›
   |exact absurd g1 ‹¬ZT s›
   |omega
   |(have h9:=g4 i hi0 (by omega);first|exact absurd h9.1 ‹_›|(have:=h9.2;omega))
   |(have h9:=g5 k hk0 (by omega);rw [hn9,show q=u by omega] at*;omega)
  refine Xb<|(zP)<|zx6 ?_
  have hp:p.Ok:=by first|assumption|exact Classical.not_not.1 ‹_›
  have hsd:ZT s:=by first|assumption|exact Classical.not_not.1 ‹_›
  obtain⟨⟨d1,d2⟩,⟨d3,d4⟩,d5⟩:=id hsd
  have yy:=hp.m1;have xc:=hp.m2;have hpd:=hp.d
  refine zlp (fun mm M w=>∃(i:Int),mm=((s.n-i).toNat)/\(0<=i)/\(i<=s.n)/\(∀k,0<=k->k<i->ZN p (ml k) (mf k)/\(s.X k).tdiv s.den<=1000)/\M= [(2,.pointer (some ⟨g1,0,none⟩)),(3,.pointer (some ⟨g2,0,none⟩)),(5,.pointer (some ⟨g3,0,none⟩)),(6,.int .i64 i)]/\Sat w0 w [.blk g1 [vL,vD,.int .i64 p.stock,.int .i64 p.kerf],.blk g2 [vM,vX,vY,.int .i64 s.val,.int .i64 s.den],.blk g3 [vX,vY,.int .i64 s.val,.int .i64 s.den]]) ⟨0,rfl,(by omega),(by omega),?_,rfl,hS⟩ ?_
  ·
   intro k k0 k1;omega
  clear hS w
  rintro mm M w ⟨i,rfl,hi0,hi1,qa,rfl,hS⟩
  have jq:i<s.n-> -1073741824<=(s.X i).tdiv s.den/\(s.X i).tdiv s.den<=1073741824:=fun hh=>Yx (a:=s.X i) (d:=s.den) (A:=1073741824) (by omega) (by have:=d5 i hi0 hh;omega)
  refine zx11<|(zP)<|(zV (xfb 0 fd_36_0))<|(zV (xlb 2 pl_22 hS))<|(zV (xln Zb hX.slh))<|(zP)<|zlt<|Ze ?_ ?_<;>intro hc
  ·
   refine zx27<|zdst [0,1,2] [0,1,2] 1000 mx_ hS ?_;clear hS;intro w hS
   refine(zDl 0 (fun w hS=>(xls 0 ZC hS)))<|(zDw 1 (xfb 0 fd_38_0))<|(zDl 2 (fun w hS=>(xlb 1 Zu hS)))<|(zDw 3 xmv)<|(zDw 4 (xix (kk:=i) Zi hM.row.slh))<|(zDl 5 (fun w hS=>(xlr (u:=(mv i)) pl_22 (hM.row.below hS.below))))<|zdc 6 (xc0 ZgI) (Uq (p:=p) w (h.below hS.below) ((hM.p i (by omega) (by omega)).below hS.below)) ?_;rintro _ w ⟨rfl,hS'⟩
   replace hS:=hS.cmp hS';clear hS'
   refine⟨⟨fun _=>hS,hS⟩,?_⟩
   refine(zDw 7 YK)<|(zDw 8 xmv)<|zdb 50 ?_ ?_<;>intro hc
   ·
    refine(zDo 9)<|(zDo 10)<|(zDo 11)<|(zDo 12)<|(zDo 13)<|(zDo 14)<|(zDo 15)<|(zDo 16)<|(zDo 17)<|(zDw 18 xpt)<|zdd<|ztn<|zct<|zsr ?_
    refine(zP)<|zx2<|zf1 ⟨_,rfl,?_⟩
    refine⟨false_B ?_,hS.nl⟩
    rintro⟨g0,g1,g2,g3,g4,g5⟩
    first
    |exact absurd g0 ‹¬p.Ok›
    |exact absurd g1 ‹¬ZT s›
    |omega
    |(have h9:=g4 i hi0 (by omega);first|exact absurd h9.1 ‹_›|(have:=h9.2;omega))
    |(have h9:=g5 k hk0 (by omega);rw [hn9,show q=u by omega] at*;omega)
   refine(zDw 9 (xfb 0 fd_36_0))<|(zDl 10 (fun w hS=>(xlb 2 pl_22 hS)))<|(zDw 11 xmv)<|(zDw 12 (xix (kk:=i) Zb hX.slh))<|(zDl 13 (fun w hS=>(xlr (u:= .int .i64 (s.X i)) pl_3 (hX.below hS.below))))<|(zDw 14 (xfb 3 fd_36_3))<|(zDl 15 (fun w hS=>(xlb 2 pl_3 hS)))<|(zDw 16 (Ut (r:=(Int.tdiv (s.X i) s.den))))<|(zDw 17 Yr)<|(zDw 18 xpf)<|zdd<|ztn ?_
   refine Ze ?_ ?_<;>intro hc
   ·
    refine zsr<|(zP)<|zx2<|zf1 ⟨_,rfl,?_⟩
    refine⟨false_B ?_,hS.nl⟩
    rintro⟨g0,g1,g2,g3,g4,g5⟩
    first
    |exact absurd g0 ‹¬p.Ok›
    |exact absurd g1 ‹¬ZT s›
    |omega
    |(have h9:=g4 i hi0 (by omega);first|exact absurd h9.1 ‹_›|(have:=h9.2;omega))
    |(have h9:=g5 k hk0 (by omega);rw [hn9,show q=u by omega] at*;omega)
   refine zx4<|(zP)<|(zV (Zf (r:=i+1)))<|(zP)<|zln<|zlq ⟨i+1,rfl,(by omega),(by omega),?_,rfl,hS⟩
   ·
    intro k k0 k1;rcases Int.lt_or_eq_of_le (show k<=i by omega) with h9|h9
    · exact qa k k0 h9
    · rw [h9];exact⟨by first|assumption|exact Classical.not_not.1 ‹_›,by omega⟩
  refine zx18<|(zP)<|zx6<|zlp (fun mm M w=>∃(k:Int),mm=((p.m-k).toNat)/\(0<=k)/\(k<=p.m)/\(∀j,0<=j->j<k->p.D j*s.den<=Zo u mf s.X j)/\M= [(2,.pointer (some ⟨g1,0,none⟩)),(3,.pointer (some ⟨g2,0,none⟩)),(5,.pointer (some ⟨g3,0,none⟩)),(7,.int .i64 k)]/\Sat w0 w [.blk g1 [vL,vD,.int .i64 p.stock,.int .i64 p.kerf],.blk g2 [vM,vX,vY,.int .i64 s.val,.int .i64 s.den],.blk g3 [vX,vY,.int .i64 s.val,.int .i64 s.den]]) ⟨0,rfl,(by omega),(by omega),?_,rfl,hS⟩ ?_
  ·
   intro j j0 j1;omega
  clear hS w
  rintro mm M w ⟨k,rfl,hk0,hk1,hge,rfl,hS⟩
  have ji:k<p.m->0<=p.D k*s.den/\p.D k*s.den<=1000*1073741824:=fun hh=>Xl (X2 hp hk0 hh).1 (X2 hp hk0 hh).2 (show 0<=s.den by omega) d2
  refine zx11<|(zP)<|(zV (xfb 0 fd_24_0))<|(zV (xlb 0 pl_22 hS))<|(zV (xln Zb h.L.slh))<|(zP)<|zlt<|Ze ?_ ?_<;>intro hc
  ·
   refine zx3<|(zP)<|zx5<|(zP)<|zx6<|zlp (fun mm M w=>∃(n:Int) (q:Int),mm=((s.n-q).toNat)/\(0<=q)/\(q<=s.n)/\(n=Zo q mf s.X k)/\(0<=n/\n<=1073741824000*q)/\M= [(2,.pointer (some ⟨g1,0,none⟩)),(3,.pointer (some ⟨g2,0,none⟩)),(5,.pointer (some ⟨g3,0,none⟩)),(7,.int .i64 k),(8,.int .i64 n),(9,.int .i64 q)]/\Sat w0 w [.blk g1 [vL,vD,.int .i64 p.stock,.int .i64 p.kerf],.blk g2 [vM,vX,vY,.int .i64 s.val,.int .i64 s.den],.blk g3 [vX,vY,.int .i64 s.val,.int .i64 s.den]]) ⟨0,0,rfl,(by omega),(by omega),?_,(by omega),rfl,hS⟩ ?_
   ·
    rfl
   clear hS w
   rintro mm M w ⟨n,q,rfl,hq0,hq1,hn9,hnb,rfl,hS⟩
   have gP:q<s.n->0<=s.X q*mf q k/\s.X q*mf q k<=1073741824*1000:=fun hh=>Xl (d5 q hq0 hh).1 (d5 q hq0 hh).2 ((YA (qa q hq0 (by omega)).1).2 k hk0 (by omega)).1 ((YA (qa q hq0 (by omega)).1).2 k hk0 (by omega)).2
   have ja:q<s.n->ml q=p.m:=fun hh=>(YA (qa q hq0 (by omega)).1).1
   refine zx11<|(zP)<|(zV (xfb 0 fd_36_0))<|(zV (xlb 2 pl_22 hS))<|(zV (xln Zb hX.slh))<|(zP)<|zlt<|Ze ?_ ?_<;>intro hc
   ·
    refine zx38<|zdst [0,1,2] [0,1,2] 1000 mx_ hS ?_;clear hS;intro w hS
    refine(zDw 0 xmv)<|(zDw 1 (xfb 0 fd_36_0))<|(zDl 2 (fun w hS=>(xlb 2 pl_22 hS)))<|(zDw 3 xmv)<|(zDw 4 (xix (kk:=q) Zb hX.slh))<|(zDl 5 (fun w hS=>(xlr (u:= .int .i64 (s.X q)) pl_3 (hX.below hS.below))))<|(zDw 6 (xfb 0 fd_38_0))<|(zDl 7 (fun w hS=>(xlb 1 Zu hS)))<|(zDw 8 xmv)<|(zDw 9 (xix (kk:=q) Zi hM.row.slh))<|(zDl 10 (fun w hS=>(xlr (u:=(mv q)) pl_22 (hM.row.below hS.below))))<|(zDw 11 xmv)<|(zDw 12 (xix (kk:=k) Zb (hM.p q (by omega) (by omega)).slh))<|(zDl 13 (fun w hS=>(xlr (u:= .int .i64 ((mf q) k)) pl_3 ((hM.p q (by omega) (by omega)).below hS.below))))<|zdv 14 (fun _=>(Z4 (r:=((s.X q)*((mf q) k))) (e:=rfl))) ?_
    refine(zDw 15 (Zf (r:=n+((s.X q)*((mf q) k)))))<|(zDw 16 xas)<|zdd<|zbn<|ztn<|zrg ?_
    refine(zP)<|(zV (Zf (r:=q+1)))<|(zP)<|zln<|zlq ⟨n+((s.X q)*((mf q) k)),q+1,rfl,(by omega),(by omega),?_,(by omega),rfl,hS⟩
    ·
     rw [YU hq0,<-hn9,Int.mul_comm (mf q k)]
   refine zxt<|ztx<|ztx<|zbh<|ztn<|zsq<|zdst [0,1,2] [0,1,2] 1000 mx_ hS ?_;clear hS;intro w hS
   refine(zDw 0 xmv)<|(zDw 1 (xfb 1 fd_24_1))<|(zDl 2 (fun w hS=>(xlb 0 pl_22 hS)))<|(zDw 3 xmv)<|(zDw 4 (xix (kk:=k) Zb h.D.slh))<|zdla 5 (fun w hS=>(xlr (u:= .int .i64 (p.D k)) pl_3 (h.D.below hS.below))) ?_
   have hbv:=h.iD k
   refine(zDw 6 (xfb 3 fd_36_3))<|(zDl 7 (fun w hS=>(xlb 2 pl_3 hS)))<|(zDw 8 (Z4 (r:=((p.D k)*s.den)) (e:=rfl)))<|(zDw 9 ZZ)<|zdd<|ztn ?_
   refine Ze ?_ ?_<;>intro hc
   ·
    refine zsr<|(zP)<|zx2<|zf1 ⟨_,rfl,?_⟩
    refine⟨false_B ?_,hS.nl⟩
    rintro⟨g0,g1,g2,g3,g4,g5⟩
    first
    |exact absurd g0 ‹¬p.Ok›
    |exact absurd g1 ‹¬ZT s›
    |omega
    |(have h9:=g4 i hi0 (by omega);first|exact absurd h9.1 ‹_›|(have:=h9.2;omega))
    |(have h9:=g5 k hk0 (by omega);rw [hn9,show q=u by omega] at*;omega)
   refine zx4<|(zP)<|(zV (Zf (r:=k+1)))<|(zP)<|zln<|zlq ⟨k+1,rfl,(by omega),(by omega),?_,rfl,hS⟩
   ·
    intro j j0 j1;rcases Int.lt_or_eq_of_le (show j<=k by omega) with h9|h9
    · exact hge j j0 h9
    · rw [h9];rw [show q=u by omega] at hn9;omega
  refine zx8<|(zP)<|zx1<|zf1 ⟨_,rfl,?_⟩
  exact⟨ZU ⟨hp,hsd,by omega,by omega,fun k k0 k1=>qa k k0 (by omega),fun j j0 j1=>hge j j0 (by omega)⟩,hS.nl⟩
  all_goals
   refine zOps ?_
   refine zlt<|zct<|zsr ?_
   refine zOps ?_
   refine zx14<|zf1 ⟨_,rfl,?_⟩
   refine⟨false_B ?_,hS.nl⟩
   rintro⟨g0,g1,g2,g3,g4,g5⟩
   first
   |exact absurd g0 ‹¬p.Ok›
   |exact absurd g1 ‹¬ZT s›
   |omega
   |(have h9:=g4 i hi0 (by omega);first|exact absurd h9.1 ‹_›|(have:=h9.2;omega))
   |(have h9:=g5 k hk0 (by omega);rw [hn9,show q=u by omega] at*;omega)
theorem XD{F G c d:Int->Int}:∀{m:Nat},(∀k:Nat,k<m->F k=G k/\c k=d k)->psum F c m=psum G d m
  |0,_=>rfl
  |m+1,h=>by simp only [psum];rw [XD fun k hk=>h k (by omega),(h m (by omega)).1,(h m (by omega)).2]
theorem YZ{f:Int->Int}(j0:0<=j)(j1:j<n):(lst n f).getD j.toNat 0=f j:=by
  rw [List.getD_eq_getElem?_getD,lst_get,Int.toNat_of_nonneg j0,if_pos j1];rfl
theorem KR{l:List Int}(h:l.length=m.toNat):l=lst m fun k=>l.getD k.toNat 0:=by
  apply List.ext_getElem?
  intro k
  rw [lst_get]
  by_cases hk:(k:Int)<m
  · rw [if_pos hk,List.getD_eq_getElem?_getD,Int.toNat_natCast,List.getElem?_eq_getElem (by omega)];rfl
  · rw [if_neg hk];simp;omega
def mkU(j:Int)(L:Us):Int:=wsum (fun l=>l.getD j.toNat 0) L
theorem Zfs(n0:0<=n)(j0:0<=j)(hl:∀k,0<=k->k<n->j<ln k):Zo n pt cnt j=mkU j (plL n ln pt cnt):=by
  unfold mkU Zo
  rw [Zt _ n0]
  exact XD fun k hk=>⟨(YZ j0 (hl k (by omega) (by omega))).symm,rfl⟩
theorem UN:∀(h:List (List Int)) (s:List Int×Us),wsum (fun _=>1) (h.foldl Xk s).2<=wsum (fun _=>1) s.2+h.length
  | [],s=>by simp
  | a ::h,s=>by
    have h1:=UN h (Xk s a)
    have h2:wsum (fun _=>1) (Xk s a).2<=wsum (fun _=>1) s.2+1:=by
      unfold Xk
      dsimp only
      split
      · rw [YF];simp [wsum]
      · omega
    rw [List.foldl_cons,List.length_cons];push_cast;omega
theorem Zau:∀{N:Us},(∀x∈N,0<=x.2)->((WD N).length:Int)=wsum (fun _=>1) N
  | [],_=>rfl
  | u::N,h=>by
    have h1:=Zau (N:=N) fun x hx=>h x (by simp [hx])
    have h2:=h u (by simp)
    unfold WD at h1⊢
    rw [List.reverse_cons,List.flatMap_append,List.length_append]
    simp only [List.flatMap_cons,List.flatMap_nil,List.append_nil,List.length_replicate,wsum]
    push_cast
    rw [h1,Int.toNat_of_nonneg h2];omega
theorem KB{p:Prob}(h:PlanOk p u ln pt cnt):∀x∈plL u ln pt cnt,1<=x.2:=fun x hx=>by
  obtain⟨j,hj⟩:=List.mem_iff_getElem?.1 hx
  rw [plL_get] at hj
  split at hj
  · injection hj with hj;rw [<-hj];exact(h.2.2 j (by omega) (by assumption)).1
  · cases hj
theorem TrimR.bars{p:Prob}{out:Us}(h:TrimR p u ln pt cnt out e)(he:e=0):wsum (fun _=>1) out<=wsum (fun _=>1) (plL u ln pt cnt):=by
  rcases h with⟨_,_,h⟩|⟨_,_,_,h⟩|⟨h1,_,_,N,hN,hO⟩
  · omega
  · omega
  · have hp:∀x∈N,0<=x.2:=fun x hx=>by have:=hN.pos (KB h1) x hx;omega
    have h6:=Zau hp
    have h5:=UN (WD N) (lst p.m fun j=>Zo u pt cnt j-p.D j, [])
    have h7:=hN.wsum fun _=>1
    have h8:=hO.wsum fun _=>1
    have h9:wsum (fun _=>1) (([]:Us))=0:=rfl
    dsimp only at h5
    unfold XQ at h8
    rw [h9] at h5
    omega
theorem TrimR.ok{p:Prob}{out:Us}(h:TrimR p u ln pt cnt out e)(h1:PlanOk p u ln pt cnt)(h2:∀j,0<=j->j<p.m->p.D j<=Zo u pt cnt j):e=0:=by
  rcases h with⟨h,_⟩|⟨_,h,_⟩|⟨_,_,h,_⟩
  · exact absurd h1 h
  · exact absurd h2 h
  · exact h
def Kl(p:Prob)(l:List Int):Prop:=∃f,FitsP p p.m f/\l=lst p.m f
theorem XP{p:Prob}{f g:Int->Int}(h:FitsP p n f)(hn:n=m)(he:∀k,0<=k->k<p.m->g k=f k):FitsP p m g:=by
  subst hn
  refine⟨h.ok,h.eq,fun i i0 i1=>by rw [he i i0 i1];exact h.all i i0 i1,?_⟩
  have hm:=h.ok.m1
  have e:Z8 p g p.m.toNat=Z8 p f p.m.toNat:=Zj fun i i0 i1=>by rw [he i i0 (by omega)]
  rw [e];exact h.used
theorem KC{p:Prob}(hok:p.Ok)(hn:n<=1000)(hl:∀k,0<=k->k<n->0<=ln k)(hL:∀x∈plL n ln pt cnt,(1<=x.2/\x.2<=1000)/\Kl p x.1):PlanOk p n ln pt cnt:=by
  refine⟨hok,hn,fun k k0 k1=> ?_⟩
  have hm:(lst (ln k) (pt k),cnt k)∈plL n ln pt cnt:=List.mem_iff_getElem?.2 ⟨k.toNat,by rw [plL_get,Int.toNat_of_nonneg k0,if_pos k1]⟩
  obtain⟨⟨h1,h2⟩,f,h3,h4⟩:=hL _ hm
  have hm1:=hok.m1
  obtain⟨q1,q2⟩:=(Wx (hl k k0 k1) (by omega)).1 h4
  exact⟨h1,h2,XP h3 q1.symm fun i i0 i1=>q2 i i0 (by omega)⟩
theorem W8{p:Prob}(h:PlanOk p n ln pt cnt):∀x∈plL n ln pt cnt,(1<=x.2/\x.2<=1000)/\Kl p x.1:=fun x hx=>by
  obtain⟨j,hj⟩:=List.mem_iff_getElem?.1 hx
  rw [plL_get] at hj
  split at hj
  · injection hj with hj
    obtain⟨h1,h2,h3⟩:=h.2.2 j (by omega) (by assumption)
    rw [<-hj]
    exact⟨⟨h1,h2⟩,pt j,XP h3 h3.eq fun _ _ _=>rfl,by have:=h3.eq;dsimp only;rw [this]⟩
  · cases hj
theorem UL {m:Int} {mf:Int->Int->Int} {D:Int->Int}:∀(h:List Int) (L0:Us),(∀k∈h,∀j,0<=j->j<m->0<=mf k j)->
    (h.foldl (Xr m mf) (lst m (fun j=>max 0 (D j-mkU j L0)),L0)).1=lst m (fun j=>max 0 (D j-mkU j (h.foldl (Xr m mf) (lst m (fun j=>max 0 (D j-mkU j L0)),L0)).2))/\
    (∀j,0<=j->j<m->mkU j L0<=mkU j (h.foldl (Xr m mf) (lst m (fun j=>max 0 (D j-mkU j L0)),L0)).2/\(D j<=mkU j (h.foldl (Xr m mf) (lst m (fun j=>max 0 (D j-mkU j L0)),L0)).2\/mkU j L0+(h.map fun k=>mf k j).sum<=mkU j (h.foldl (Xr m mf) (lst m (fun j=>max 0 (D j-mkU j L0)),L0)).2))/\
    wsum (fun _=>1) (h.foldl (Xr m mf) (lst m (fun j=>max 0 (D j-mkU j L0)),L0)).2<=wsum (fun _=>1) L0+h.length/\
    (h.foldl (Xr m mf) (lst m (fun j=>max 0 (D j-mkU j L0)),L0)).2.length<=L0.length+h.length/\
    ∀x∈(h.foldl (Xr m mf) (lst m (fun j=>max 0 (D j-mkU j L0)),L0)).2,x∈L0\/∃k∈h,x=(lst m (mf k),1)
  | [],L0,_=>⟨rfl,fun j _ _=>⟨Int.le_refl _,.inr (by simp)⟩,by simp,by simp,fun x hx=> .inl hx⟩
  | k ::h,L0,hp=>by
    rw [List.foldl_cons]
    have hk:=hp k (by simp)
    by_cases hn:Zbr (lst m (mf k)) (lst m (fun j=>max 0 (D j-mkU j L0)))=true
    · have e:Xr m mf (lst m (fun j=>max 0 (D j-mkU j L0)),L0) k=(lst m (fun j=>max 0 (D j-mkU j (L0++ [(lst m (mf k),1)]))),L0++ [(lst m (mf k),1)]):=by
        unfold Xr
        dsimp only
        rw [if_pos hn,YI]
        congr 1
        apply ZI;intro j j0 j1
        have h1:mkU j (L0++ [(lst m (mf k),1)])=mkU j L0+mf k j:=by
          unfold mkU;rw [YF];simp only [wsum];rw [YZ j0 j1];omega
        have h2:=hk j j0 j1
        rw [h1];omega
      rw [e]
      obtain⟨i1,i2,i3,i4,i5⟩:=UL (D:=D) h (L0++ [(lst m (mf k),1)]) fun q hq=>hp q (by simp [hq])
      refine⟨i1,fun j j0 j1=> ?_,?_,?_,fun x hx=> ?_⟩
      · have h1:mkU j (L0++ [(lst m (mf k),1)])=mkU j L0+mf k j:=by
          unfold mkU;rw [YF];simp only [wsum];rw [YZ j0 j1];omega
        have h2:=hk j j0 j1
        obtain⟨g1,g2⟩:=i2 j j0 j1
        rw [h1] at g1 g2
        refine⟨by omega,?_⟩
        rcases g2 with g2|g2
        · exact .inl g2
        · right;rw [List.map_cons,List.sum_cons];omega
      · rw [YF] at i3;simp only [wsum] at i3;rw [List.length_cons];push_cast;omega
      · rw [List.length_append] at i4;simp at i4⊢;omega
      · rcases i5 x hx with h1|⟨q,hq,h1⟩
        · rcases List.mem_append.1 h1 with h1|h1
          · exact .inl h1
          · exact .inr ⟨k,by simp,by simpa using h1⟩
        · exact .inr ⟨q,by simp [hq],h1⟩
    · have e:Xr m mf (lst m (fun j=>max 0 (D j-mkU j L0)),L0) k=(lst m (fun j=>max 0 (D j-mkU j L0)),L0):=by
        unfold Xr;rw [if_neg hn]
      rw [e]
      obtain⟨i1,i2,i3,i4,i5⟩:=UL (D:=D) h L0 fun q hq=>hp q (by simp [hq])
      refine⟨i1,fun j j0 j1=> ?_,by rw [List.length_cons];push_cast;omega,by rw [List.length_cons];omega,fun x hx=> ?_⟩
      · have h2:=hk j j0 j1
        obtain⟨g1,g2⟩:=i2 j j0 j1
        refine⟨g1,?_⟩
        by_cases hz:mf k j=0
        · rcases g2 with g2|g2
          · exact .inl g2
          · right;rw [List.map_cons,List.sum_cons];omega
        · left
          by_cases hD:D j<=mkU j L0
          · omega
          · exact absurd (VP.2 ⟨j,j0,j1,by omega,by omega⟩) hn
      · rcases i5 x hx with h1|⟨q,hq,h1⟩
        · exact .inl h1
        · exact .inr ⟨q,by simp [hq],h1⟩
theorem Zc7{a b:List Int}(h:a.Perm b):a.sum=b.sum:=by
  induction h with
  |nil=>rfl
  |cons x _ ih=>simp only [List.sum_cons,ih]
  |swap x y l=>simp only [List.sum_cons];omega
  |trans _ _ i1 i2=>rw [i1,i2]
theorem Zdl{f:Int->Int}(n0:0<=n)(h:PermOn 0 n f t):(lst n t).Perm (lst n f):=by
  obtain⟨a,b,e1,e2,e3⟩:=h
  have h1:=U3 (t:=a) n0 ⟨a,b,e1,e2,fun k=>rfl⟩ f
  have h2:lst n t=(List.range n.toNat).map fun(i:Nat)=>f (a (i:Int)):=by
    unfold lst;exact List.map_congr_left fun i _=>e3 i
  rw [h2];exact h1
theorem Zdw(s:So)(G:Int->Int):∀n:Nat,((lst (frN s n) (frF s n)).map G).sum=psum (fun q=>if(s.X q).tmod s.den=0 then 0 else G q) (fun _=>1) n
  |0=>rfl
  | n +1=>by
    have h0:=(V2 s n).1
    have ih:=Zdw s G n
    simp only [frN,frF,psum]
    by_cases h:(s.X n).tmod s.den=0
    · rw [if_pos h,if_pos h,if_pos h,ih];omega
    · rw [if_neg h,if_neg h,if_neg h,KQ h0,List.map_append,List.sum_append,ZI (f:=snoc (frF s n) (frN s n) n) (g:=frF s n) fun k k0 k1=>Zl k1,ih,Zk (by omega)]
      simp
theorem Zaa {s:So} {f:Int->Int} (hd:1<=s.den) {N:Int} (hX:∀k:Nat,(k:Int)<N->0<=s.X k) (hf:∀k:Nat,(k:Int)<N->0<=f k):∀n:Nat,(n:Int)<=N->psum f s.X n<=s.den*(psum f (fun q=>(s.X q).tdiv s.den) n+psum (fun q=>if(s.X q).tmod s.den=0 then 0 else f q) (fun _=>1) n)
  |0,_=>by simp [psum]
  | n + 1,hn=>by
    have ih:=Zaa hd hX hf n (by omega)
    have h1:=hX n (by omega)
    have h2:=hf n (by omega)
    have h3:=Int.tmod_add_mul_tdiv (s.X n) s.den
    have h4:=Vf h1 hd
    simp only [psum]
    have key:f n*s.X n<=s.den*(f n*(s.X n).tdiv s.den+(if(s.X n).tmod s.den=0 then 0 else f n)):=by
      by_cases h:(s.X n).tmod s.den=0
      · rw [if_pos h,Int.add_zero,Int.mul_left_comm]
        exact Int.mul_le_mul_of_nonneg_left (by omega) h2
      · rw [if_neg h]
        have e:s.den*(f n*(s.X n).tdiv s.den+f n)=f n*(s.den*((s.X n).tdiv s.den+1)):=by
          rw [Int.mul_left_comm (f n),Int.mul_add (f n),Int.mul_one]
        rw [e]
        refine Int.mul_le_mul_of_nonneg_left ?_ h2
        rw [Int.mul_add,Int.mul_one];omega
    rw [Int.mul_add] at ih key⊢
    rw [Int.mul_add,Int.mul_add,Int.mul_one]
    omega
theorem Rm{p:Prob}{qv:List Int}{s:Us}(hok:p.Ok)(h:FFOk p.m (p.stock+p.kerf) (szP p) qv s){b:List Int×Int}(hb:b∈s)(j0:0<=j)(j1:j<p.m):0<=b.1.getD j.toNat 0/\b.1.getD j.toNat 0<=p.stock+p.kerf:=by
  obtain⟨h2,h3,h4⟩:=h.ok _ hb
  have h5:=h.nn _ hb
  have h6:=RF h5 (sz:=szP p) (fun k hk=>(ZaM hok (by omega) (by omega)).1) (j:=j.toNat) (by omega)
  refine⟨?_,by omega⟩
  rw [List.getD_eq_getElem?_getD,List.getElem?_eq_getElem (by omega)]
  exact h5 _ (List.getElem_mem _)
theorem TQ(p:Prob)(d:Int->Int):∀n:Nat,psum (szP p) d n=Z8 p d n
  |0=>rfl
  | n +1=>by
    have h1:Z8 p d (n+1)=Z8 p d n+d n*(p.L n+p.kerf):=by
      have:=Z2 (fun i=>d i*(p.L i+p.kerf)) (i:=(n:Int)) (by omega)
      rw [show((n:Int)+1).toNat=n+1 by omega,Int.toNat_natCast] at this
      exact this
    rw [h1,psum,TQ p d n,Int.mul_comm]
theorem XN{A B:Int}(a0:0<=a)(a1:a<=A)(b0:0<=b)(b1:b<=B):0<=a*b/\a*b<=A*B:=
  ⟨Int.mul_nonneg a0 b0,Int.mul_le_mul a1 b1 b0 (by omega)⟩
theorem Uz{p:Prob}(hok:p.Ok)(hf:XH p):psum (fun _=>1) p.D p.m.toNat<=180:=by
  obtain⟨h1,h2,_⟩:=hf.2.2 hok
  have hd:=hok.d
  have hm:=hok.m1
  have hb:∀n:Nat,(n:Int)<=p.m->psum (fun _=>1) p.D n<=30*n:=by
    intro n
    induction n with
    |zero=>intro _;simp [psum]
    |succ n ih=>intro hn;have:=ih (by omega);have:=h1 n (by omega) (by omega);simp only [psum];push_cast;omega
  have:=hb p.m.toNat (by omega)
  omega
theorem UD{p:Prob}(hok:p.Ok)(hf:XH p)(h:ChkR p e):e=0:=by
  have h1:=Uz hok hf
  rcases h with⟨h,_⟩|⟨_,h,_⟩|⟨_,_,h⟩
  · exact absurd hok h
  · omega
  · exact h
theorem Zck{p:Prob}(hok:p.Ok)(hf:XH p)(qA:WZ p u ml mf s)(h:WholeR p u ml mf s n ln pt cnt e):e=0:=by
  rcases h with⟨h,_⟩|⟨_,_,h,_⟩|⟨_,_,_,h,_⟩
  · exact absurd ⟨hok,qA⟩ h
  · exact UD hok hf h
  · exact h
theorem Wh{p:Prob}(hok:p.Ok)(hn:n<=1000)(hL:∀x∈plL n ln pt cnt,(1<=x.2/\x.2<=1000)/\Kl p x.1):PlanOk p n ln pt cnt:=by
  refine KC hok hn (fun k k0 k1=> ?_) hL
  obtain⟨_,f,h3,h4⟩:=hL (lst (ln k) (pt k),cnt k) (List.mem_iff_getElem?.2 ⟨k.toNat,by rw [plL_get,Int.toNat_of_nonneg k0,if_pos k1]⟩)
  have h5:=congrArg List.length h4
  dsimp only at h5
  rw [YJ,YJ] at h5
  have:=hok.m1
  omega
theorem PlanOk.mk{p:Prob}(h:PlanOk p n ln pt cnt)(n0:0<=n)(j0:0<=j)(j1:j<p.m):Zo n pt cnt j=mkU j (plL n ln pt cnt):=
  Zfs n0 j0 fun k k0 k1=>by have:=(h.2.2 k k0 k1).2.2.eq;omega
theorem Zbq{f g:List Int->Int}:∀{L:Us},(∀x∈L,0<=x.2)->(∀x∈L,f x.1<=g x.1)->wsum f L<=wsum g L
  | [],_,_=>Int.le_refl _
  | x::L,h,k=>by
    have h1:=Zbq (f:=f) (g:=g) (L:=L) (fun y hy=>h y (by simp [hy])) fun y hy=>k y (by simp [hy])
    have h2:=Int.mul_le_mul_of_nonneg_right (k x (by simp)) (h x (by simp))
    simp only [wsum];omega
theorem ZdU:∀{L:Us},(∀x∈L,1<=x.2)->(L.length:Int)<=wsum (fun _=>1) L/\∀x∈L,x.2<=wsum (fun _=>1) L
  | [],_=>⟨by simp [wsum],by simp⟩
  | y ::L,h=>by
    obtain⟨h1,h2⟩:=ZdU (L:=L) fun x hx=>h x (by simp [hx])
    have h3:=h y (by simp)
    simp only [wsum]
    refine⟨by rw [List.length_cons];push_cast;omega,fun x hx=> ?_⟩
    rcases List.mem_cons.1 hx with e|e
    · rw [e];have:(0:Int)<=L.length:=by omega
      omega
    · have:=h2 x e;omega
theorem UJ{p:Prob}(h:WholeR p u ml mf s n ln pt cnt 0)(u0:0<=u):
    (∀j,Zo n pt cnt j=psum (fun q=>mf q j) (fun q=>(s.X q).tdiv s.den) u.toNat)/\wsum (fun _=>1) (plL n ln pt cnt)=psum (fun _=>1) (fun q=>(s.X q).tdiv s.den) u.toNat:=by
  rcases h with⟨_,_,h⟩|⟨_,_,_,h,_⟩|⟨h1,h2,h3,_,h4,h5,h6,h7⟩
  · omega
  · exact absurd rfl h
  · obtain⟨hs,hn,hu6,qa,_⟩:=h2
    have hX:∀k:Nat,(k:Int)<u->0<=s.X k:=fun k hk=>(hs.2.2 k (by omega) (by omega)).1
    have hr:=Wl s u.toNat
    subst h4 h5 h6 h7
    refine⟨fun j=>ZaW s mf j u hX hs.1.1 u.toNat (by omega),?_⟩
    rw [Zt _ hr.1]
    have h8:=ZaW s (fun _ _=>1) 0 u hX hs.1.1 u.toNat (by omega)
    rw [<-h8]
    refine XD fun k hk=>⟨?_,rfl⟩
    obtain⟨q,_,_,_,q4,_⟩:=ZbQ s ml (fun _ _=>1) u.toNat k (by omega) (by omega)
    rw [q4]
theorem ZaP{p:Prob}(qA:WZ p u ml mf s)(h:WholeR p u ml mf s n ln pt cnt 0)(u0:0<=u)(j0:0<=j)(j1:j<p.m):
    p.D j<=Zo n pt cnt j+psum (fun q=>if(s.X q).tmod s.den=0 then 0 else mf q j) (fun _=>1) u.toNat:=by
  obtain⟨hs,hn,hu6,qa,hge⟩:=qA
  have hX:∀k:Nat,(k:Int)<u->0<=s.X k:=fun k hk=>(hs.2.2 k (by omega) (by omega)).1
  have hF:∀k:Nat,(k:Int)<u->0<=mf k j:=fun k hk=>((YA (qa k (by omega) hk).1).2 j j0 j1).1
  have h1:=Zaa (s:=s) (f:=fun q=>mf q j) hs.1.1 hX hF u.toNat (by omega)
  have h2:=hge j j0 j1
  rw [(UJ h u0).1 j]
  have h3:s.den*p.D j<=s.den*(psum (fun q=>mf q j) (fun q=>(s.X q).tdiv s.den) u.toNat+psum (fun q=>if(s.X q).tmod s.den=0 then 0 else mf q j) (fun _=>1) u.toNat):=by
    rw [Int.mul_comm s.den (p.D j)];exact Int.le_trans h2 h1
  exact Int.le_of_mul_le_mul_left h3 (by have:=hs.1.1;omega)
theorem ZgV {p:Prob} {out:Us} (hok:p.Ok) (hf:XH p) (qA:WZ p u ml mf s) (u0:0<=u) (h:UpR p u ml mf s out e):
    e=0/\wsum (fun _=>1) out<=psum (fun _=>1) (fun q=>(s.X q).tdiv s.den) u.toNat+frN s u.toNat:=by
  rcases h with⟨h,_,_,_,_,_,h2⟩|⟨n1,ln1,pt1,q6,t,n,ln,pt,cnt,hw,n10,n0,hp,_,hU,hT⟩
  · exact absurd (Zck hok hf qA h2) h
  · obtain⟨_,_,_,xV,hP1,_⟩:=hw.ok rfl u0
    have hw2:=UJ hw u0
    have hu6:=qA.2.2.1
    obtain⟨f0,f1,f2,f3,f4⟩:=V2 s u.toNat
    have ht:∀k,0<=k->k<frN s u.toNat->0<=t k/\t k<u:=fun k k0 k1=>by
      obtain⟨q,q0,q1,q2⟩:=hp.fr k0 k1
      rw [q2];have:=f2 q q0 q1;omega
    have htm:∀k∈lst (frN s u.toNat) t,0<=k/\k<u:=fun k hk=>by
      unfold lst at hk
      obtain⟨i,hi,rfl⟩:=List.mem_map.1 hk
      have:=List.mem_range.1 hi
      exact ht i (by omega) (by omega)
    have hL:lst p.m (leftF p (Zo n1 pt1 q6))=lst p.m fun j=>max 0 (p.D j-mkU j (plL n1 ln1 pt1 q6)):=ZI fun k k0 k1=>by
      unfold leftF;rw [if_pos ⟨k0,k1⟩,hP1.mk n10 k0 k1]
    obtain⟨i1,i2,i3,i4,i5⟩:=UL (m:=p.m) (mf:=mf) (D:=p.D) (lst (frN s u.toNat) t) (plL n1 ln1 pt1 q6) fun k hk j j0 j1=>((YA (qA.2.2.2.1 k (htm k hk).1 (htm k hk).2).1).2 j j0 j1).1
    rw [<-hL] at i2 i3 i4 i5
    unfold WX at hU
    rw [<-hU] at i2 i3 i4 i5
    rw [plL_len,plL_len,YJ] at i4
    rw [YJ] at i3
    have hPO:PlanOk p n ln pt cnt:=Wh hok (by omega) fun x hx=>by
      rcases i5 x hx with h1|⟨k,hk,h1⟩
      · exact W8 hP1 x h1
      · have hk2:=htm k hk
        have h3:=(qA.2.2.2.1 k hk2.1 hk2.2).1.1
        rw [h1]
        exact⟨⟨Int.le_refl 1,show(1:Int)<=1000 by omega⟩,mf k,XP h3 h3.eq fun _ _ _=>rfl,rfl⟩
    have he:e=0:=hT.ok hPO fun j j0 j1=>by
      rw [hPO.mk n0 j0 j1]
      rcases(i2 j j0 j1).2 with g|g
      · exact g
      · have h1:=ZaP qA hw u0 j0 j1
        rw [hP1.mk n10 j0 j1] at h1
        have h2:=Zdw s (fun k=>mf k j) u.toNat
        have h3:=Zc7 ((Zdl f0 hp).map fun k=>mf k j)
        omega
    refine⟨he,?_⟩
    have h4:=hT.bars he
    rw [hw2.2] at i3
    omega
theorem Zby{n1 n2:Int}{ln1 q6 cnt2:Int->Int}{pt1:Int->Int->Int}(n10:0<=n1)(n20:0<=n2):plL (n1+n2) (cat n1 ln1 ln2) (cat n1 pt1 pt2) (cat n1 q6 cnt2)=plL n1 ln1 pt1 q6++plL n2 ln2 pt2 cnt2:=by
  apply List.ext_getElem?
  intro k
  rw [List.getElem?_append,plL_len,plL_get,plL_get,plL_get]
  unfold Gw.cat
  by_cases h:(k:Int)<n1
  · rw [if_pos (by omega:(k:Int)<n1+n2),if_pos (by omega:k<n1.toNat)];simp only [if_pos h]
  · rw [if_neg (by omega:¬k<n1.toNat)]
    simp only [if_neg h]
    by_cases h2:(k:Int)<n1+n2
    · rw [if_pos h2,if_pos (by omega),show((k-n1.toNat:Nat):Int)=(k:Int)-n1 by omega]
    · rw [if_neg h2,if_neg (by omega)]
theorem Zhd{p:Prob}{qv:List Int}{s:Us}(hok:p.Ok)(h:FFOk p.m (p.stock+p.kerf) (szP p) qv s){b:List Int×Int}(hb:b∈s):Kl p b.1:=by
  obtain⟨h2,h3,h4⟩:=h.ok _ hb
  have h5:=h.nn _ hb
  have hm:=hok.m1
  have hl:=KR (m:=p.m) h2
  have e:Wg (szP p) b.1=Z8 p (fun k=>b.1.getD k.toNat 0) p.m.toNat:=by
    rw [hl,TP _ _ (by omega),TQ]
    refine Zj fun i i0 i1=> ?_
    dsimp only
    rw [<-hl]
  refine⟨fun k=>b.1.getD k.toNat 0,⟨hok,rfl,fun i i0 i1=> ?_,by omega⟩,hl⟩
  obtain⟨g1,g2⟩:=Rm hok h hb i0 i1
  refine⟨g1,?_⟩
  have h6:(b.1.getD i.toNat 0)*(1+p.kerf)<=p.stock+p.kerf:=by
    have hs:=hok.all i i0 i1
    unfold Prob.each at hs
    have h7:(b.1.getD i.toNat 0)*(p.L i+p.kerf)<=Z8 p (fun k=>b.1.getD k.toNat 0) p.m.toNat:=XY (f:=fun i=>b.1.getD i.toNat 0*(p.L i+p.kerf)) i0 (by omega) fun k k0 k1=>by
      have hk:=hok.all k k0 (by omega)
      unfold Prob.each at hk
      exact Int.mul_nonneg (Rm hok h hb k0 (by omega)).1 (by have:=hok.k1;omega)
    have h8:=Int.mul_le_mul_of_nonneg_left (show 1+p.kerf<=p.L i+p.kerf by omega) g1
    omega
  have hk1:=hok.k1
  have hs2:=hok.s2
  refine Classical.byContradiction fun hc=> ?_
  have h9:=Int.mul_le_mul_of_nonneg_right (show(2001:Int)<=b.1.getD i.toNat 0 by omega) (show 0<=1+p.kerf by omega)
  omega
def ZaV(j:Int):Int->Int:=fun k=>if k=j then 1 else 0
theorem UX{d:Int->Int}{j:Int}(j0:0<=j):∀n:Nat,psum (ZaV j) d n=if j<(n:Int) then d j else 0
  |0=>by rw [if_neg (by omega)];rfl
  | n +1=>by
    simp only [psum]
    rw [UX j0 n]
    unfold ZaV
    by_cases h:(n:Int)=j
    · rw [if_neg (by omega),if_pos h,if_pos (by omega),h];omega
    · rw [if_neg h]
      by_cases h2:j<(n:Int)
      · rw [if_pos h2,if_pos (by omega)];omega
      · rw [if_neg h2,if_neg (by omega)];omega
theorem Zdj{l:List Int}(hl:l.length=m.toNat)(j0:0<=j)(j1:j<m):Wg (ZaV j) l=l.getD j.toNat 0:=by
  have h:=KR (m:=m) hl
  have h1:Wg (ZaV j) l=Wg (ZaV j) (lst m fun k=>l.getD k.toNat 0):=by rw [<-h]
  rw [h1,TP _ _ (by omega),UX j0,if_pos (by omega)]
theorem Zdx{p:Prob}(hok:p.Ok)(hd:∀k,0<=k->k<p.m->0<=d k){N:Us}(hN:NormR (VZ (Yh p.m (p.stock+p.kerf) (szP p) (pcsTo d p.m 0))) N):
    (∀x∈N,1<=x.2/\Kl p x.1)/\wsum (fun _=>1) N<=psum (fun _=>1) d p.m.toNat/\∀j,0<=j->j<p.m->mkU j N=d j:=by
  have hm:=hok.m1
  obtain⟨hp1,hp2⟩:=Vt (d:=d) (m:=p.m) (i:=p.m) (c:=0) hd (by omega) (by omega) (by omega) (fun h=>by omega) fun _=>rfl
  have hF:=ZbU hok hp1
  have qk:∀x∈VZ (Yh p.m (p.stock+p.kerf) (szP p) (pcsTo d p.m 0)),∃b∈Yh p.m (p.stock+p.kerf) (szP p) (pcsTo d p.m 0),x=(b.1,1):=fun x hx=>by
    unfold VZ at hx
    obtain⟨b,hb,rfl⟩:=List.mem_map.1 hx
    exact⟨b,hb,rfl⟩
  refine⟨fun x hx=>⟨hN.pos (fun y hy=>by obtain⟨b,_,rfl⟩:=qk y hy;exact Int.le_refl _) x hx,?_⟩,?_,fun j j0 j1=> ?_⟩
  · obtain⟨y,hy,e⟩:=hN.keys x hx
    obtain⟨b,hb,rfl⟩:=qk y hy
    rw [<-e];exact Zhd (b:=b) hok hF hb
  · rw [hN.wsum,VO]
    have h1:=hF.ln
    have h2:((Yh p.m (p.stock+p.kerf) (szP p) (pcsTo d p.m 0)).map fun _=>(1:Int)).sum=(Yh p.m (p.stock+p.kerf) (szP p) (pcsTo d p.m 0)).length:=by
      generalize Yh p.m (p.stock+p.kerf) (szP p) (pcsTo d p.m 0)=l
      induction l with
      |nil=>rfl
      |cons a l ih=>rw [List.map_cons,List.sum_cons,ih,List.length_cons];push_cast;omega
    omega
  · unfold mkU
    rw [hN.wsum,VO]
    have h1:=hF.ct (ZaV j)
    rw [TU _ _ (by omega) (by omega) hd,UX j0,if_pos (by omega)] at h1
    have h2:((Yh p.m (p.stock+p.kerf) (szP p) (pcsTo d p.m 0)).map fun b=>b.1.getD j.toNat 0)=(Yh p.m (p.stock+p.kerf) (szP p) (pcsTo d p.m 0)).map fun b=>Wg (ZaV j) b.1:=
      List.map_congr_left fun b hb=>(Zdj (hF.ok b hb).1 j0 j1).symm
    rw [h2,h1];omega
end Go.Proofs.YtopmifmfecfaaaaGreat
namespace Go.Proofs.YtopmifmfecfaaaaGreat
open Go Go.RowKit Go.Proofs.Gw
theorem Zd6:Zc Tryz.prog 30=true:=by kernel_rfl
theorem Zd2:Zc Tryz.prog 44=true:=by kernel_rfl
theorem ZjW:Zc Tryz.prog 62=true:=by kernel_rfl
theorem ZjR:Zc Tryz.prog 78=true:=by kernel_rfl
theorem Tq{vV:Value}{n:Int}{pv:Int->Value}{ln:Int->Int}{pt:Int->Int->Int}{cnt:Int->Int}{vV2:Value}{n2:Int}{pv2:Int->Value}{ln2:Int->Int}{pt2:Int->Int->Int}{cnt2:Int->Int}(w0:World)(hV:VAt w0 vV n pv ln pt cnt)(hV2:VAt w0 vV2 n2 pv2 ln2 pt2 cnt2)(hnn:n<=100000):
    Calls Tryz.prog 44 [vV,vV2].toArray w0 fun e w=>∃v,e= .returned v/\v=B (SameP n n2 ln ln2 pt pt2 cnt cnt2)/\Sat w0 w []:=by
  have hn5:=hnn
  refine Zm Tryz.func44 Tryz.ntmps44 fun w hS=> ?_
  refine zsr<|(zP)<|zlz<|(zP)<|zlc (xc0 ZjW) (Zer (n:=n) (pv:=pv) (ln:=ln) (pt:=pt) (cnt:=cnt) w (hV.below hS.below) (by omega)) ?_;rintro xh w ⟨_,rfl,yC,hS'⟩
  replace hS:=(hS.comp hS').n1;clear hS'
  refine(zP)<|zlc (xc0 ZjR) (Zf2 (n:=n) (pv:=pv) (ln:=ln) (pt:=pt) (cnt:=cnt) (n2:=n2) (pv2:=pv2) (ln2:=ln2) (pt2:=pt2) (cnt2:=cnt2) w (⟨(hS.rowN 0 rfl),fun k k0 k1=>(hV.p k k0 k1).below hS.below,hV.room⟩:VAt _ xh n pv ln pt cnt) (hV2.below hS.below)) ?_;rintro _ w ⟨rfl,hS'⟩
  replace hS:=hS.cmp hS';clear hS'
  refine(zP)<|zx1<|zf1 ⟨_,rfl,?_⟩
  exact⟨rfl,hS.nl⟩
theorem Zg1{w:World}{v a b c:Value}{f g h:Int->Int}(hr:Row w v 2 3 (fun k=>([a,.int .i64 1,b,.int .i64 1,c,.int .i64 1]:List Value).getD k.toNat undef))(ha:Row w a 1 2 (ints f))(hb:Row w b 1 2 (ints g))(hc:Row w c 1 2 (ints h))(ra:Gw.Y9 a)(rb:Gw.Y9 b)(rc:Gw.Y9 c):
    VAt w v 3 (fun k=> [a,b,c].getD k.toNat undef) (fun _=>2) (fun k=> [f,g,h].getD k.toNat (fun _=>0)) (fun _=>1):=by
  have e:∀k:Int,0<=k->k<3->k=0\/k=1\/k=2:=fun k k0 k1=>by omega
  refine⟨⟨hr.1,fun k hk=> ?_⟩,fun i i0 i1=> ?_,fun i i0 i1=> ?_⟩
  · have:=hr.2 k hk
    rcases k with _|_|_|_|_|_|k
    · exact this
    · exact this
    · exact this
    · exact this
    · exact this
    · exact this
    · simp at hk;omega
  · rcases e i i0 i1 with rfl|rfl|rfl
    · exact ha
    · exact hb
    · exact hc
  · rcases e i i0 i1 with rfl|rfl|rfl
    · exact ra
    · exact rb
    · exact rc
theorem V9(w0:World):
    Calls Tryz.prog 28 [].toArray w0 fun e w=>∃v,e= .returned v/\v= .bool true/\Sat w0 w []:=by
  refine Zm Tryz.func28 Tryz.ntmps28 fun w hS=> ?_
  refine zsr<|(zP)<|zlz<|zla (xli (n:=2) (len:=2) (pv:= [(0,.int .i64 5),(1,.int .i64 3)]) (cs:= [.int .i64 5,.int .i64 3]) (c:=ints (fun k=> [5,3].getD k.toNat 0)) Zb Zn hS) ?_;rintro v1 w ⟨hS,hv1⟩
  refine zla (xli (n:=2) (len:=2) (pv:= [(0,.int .i64 3),(1,.int .i64 4)]) (cs:= [.int .i64 3,.int .i64 4]) (c:=ints (fun k=> [3,4].getD k.toNat 0)) Zb Zn hS) ?_;rintro v2 w ⟨hS,hv2⟩
  refine zlv (xany (v:= .agg #[v1,v2,.int .i64 11,.int .i64 1]) (hr:=by obtain⟨_,_,_,_,rfl,_⟩:=hv1;obtain⟨_,_,_,_,rfl,_⟩:=hv2;kernel_rfl)) ?_
  refine zlc (xc0 Zd6) (Zbj (p:=(⟨2,(fun k=> [5,3].getD k.toNat 0),2,(fun k=> [3,4].getD k.toNat 0),11,1⟩:Prob)) w (⟨(hS.rowN 0 rfl),(hS.rowN 1 rfl),(Zjs _ (by decide)),(Zjs _ (by decide)),(by(try dsimp only);omega),(by(try dsimp only);omega)⟩:PAt _ _ _ (⟨2,(fun k=> [5,3].getD k.toNat 0),2,(fun k=> [3,4].getD k.toNat 0),11,1⟩:Prob))) ?_;rintro _ w ⟨xi,qB,q8,qX,qZ,qS,xE,rfl,qC,ya,zF,qV,hS'⟩
  replace hS:=(hS.comp hS').n4;clear hS'
  have ym:=fun k (k0:0<=k) (k1:k<qB)=>hS.slhIn 3 rfl k0 k1
  obtain⟨he0,hl0⟩:=Zhc qC
  refine zs5 ?_
  refine zlz<|(zP)<|(zP)<|(zP)<|zlb 12 ?_ ?_<;>intro hc
  ·
   refine(zP)<|zla (xli (n:=2) (len:=2) (pv:= [(0,.int .i64 2),(1,.int .i64 0)]) (cs:= [.int .i64 2,.int .i64 0]) (c:=ints (fun k=> [2,0].getD k.toNat 0)) Zb Zn hS) ?_;rintro v3 w ⟨hS,hv3⟩
   refine zlv (xany (v:= .agg #[v3,.int .i64 1]) (hr:=by obtain⟨_,_,_,_,rfl,_⟩:=hv3;kernel_rfl)) ?_
   refine zla (xli (n:=2) (len:=2) (pv:= [(0,.int .i64 1),(1,.int .i64 1)]) (cs:= [.int .i64 1,.int .i64 1]) (c:=ints (fun k=> [1,1].getD k.toNat 0)) Zb Zn hS) ?_;rintro v4 w ⟨hS,hv4⟩
   refine zlv (xany (v:= .agg #[v4,.int .i64 1]) (hr:=by obtain⟨_,_,_,_,rfl,_⟩:=hv4;kernel_rfl)) ?_
   refine zla (xli (n:=2) (len:=2) (pv:= [(0,.int .i64 0),(1,.int .i64 3)]) (cs:= [.int .i64 0,.int .i64 3]) (c:=ints (fun k=> [0,3].getD k.toNat 0)) Zb Zn hS) ?_;rintro v5 w ⟨hS,hv5⟩
   refine zlv (xany (v:= .agg #[v5,.int .i64 1]) (hr:=by obtain⟨_,_,_,_,rfl,_⟩:=hv5;kernel_rfl)) ?_
   refine zla (xli (n:=3) (len:=3) (pv:= [(0,.agg #[v3,.int .i64 1]),(1,.agg #[v4,.int .i64 1]),(2,.agg #[v5,.int .i64 1])]) (cs:= [v3,.int .i64 1,v4,.int .i64 1,v5,.int .i64 1]) (c:=fun k=>([(v3:Value),(.int .i64 1:Value),(v4:Value),(.int .i64 1:Value),(v5:Value),(.int .i64 1:Value)]).getD k.toNat undef) Zv Yq hS (hf:=by obtain⟨_,_,_,_,rfl,_⟩:=hv3;obtain⟨_,_,_,_,rfl,_⟩:=hv4;obtain⟨_,_,_,_,rfl,_⟩:=hv5;kernel_rfl)) ?_;rintro v6 w ⟨hS,hv6⟩
   have hsm:SameP qB 3 qX (fun _=>2) qZ (fun k=> [(fun k=> [2,0].getD k.toNat 0),(fun k=> [1,1].getD k.toNat 0),(fun k=> [0,3].getD k.toNat 0)].getD k.toNat (fun _=>0)) qS (fun _=>1):=SameP.of_plL qV.n0 (by omega) (fun k k0 k1=>(ym k k0 k1).n0) (fun _ _ _=>by omega) (hl0.trans (by decide+kernel))
   refine zlc (xc0 Zd2) (Tq (n:=qB) (pv:=q8) (ln:=qX) (pt:=qZ) (cnt:=qS) (n2:=3) (ln2:=fun _=>2) (pt2:=(fun k=> [(fun k=> [2,0].getD k.toNat 0),(fun k=> [1,1].getD k.toNat 0),(fun k=> [0,3].getD k.toNat 0)].getD k.toNat (fun _=>0))) (cnt2:=fun _=>1) w (⟨(hS.rowN 2 rfl),fun k k0 k1=>hS.rowIn 3 rfl k0 k1,fun k k0 k1=>hS.roomIn 3 rfl k0 k1⟩:VAt _ xi qB q8 qX qZ qS) (Zg1 (hS.rowN 7 rfl) (hS.rowN 4 rfl) (hS.rowN 5 rfl) (hS.rowN 6 rfl) (Ent.holds.roomy (hS.holds _ (List.mem_of_getElem? (i:=4) rfl))) (Ent.holds.roomy (hS.holds _ (List.mem_of_getElem? (i:=5) rfl))) (Ent.holds.roomy (hS.holds _ (List.mem_of_getElem? (i:=6) rfl)))) (by omega)) ?_;rintro _ w ⟨rfl,hS'⟩
   replace hS:=hS.cmp hS';clear hS'
   refine(zP)<|(zP)<|zx1<|zf1 ⟨_,rfl,?_⟩
   exact⟨(ZU hsm).symm,hS.nl⟩
  iterate 9 refine zlo ?_
  refine(zP)<|(zP)<|zx1<|zf1 ⟨_,rfl,?_⟩
  exfalso
  first|omega|exact absurd hsm ‹_›
end Go.Proofs.YtopmifmfecfaaaaGreat
namespace Go.Proofs.YtopmifmfecfaaaaGreat
open Go Go.RowKit Go.Proofs.Gw
variable {e n u:Int} {cnt ln ml:Int->Int} {mf pt:Int->Int->Int} {s:So}
structure ExU (p:Prob) (N:Us):Prop where
  pat:∀x∈N,1<=x.2/\Kl p x.1
  few:wsum (fun _=>1) N<=psum (fun _=>1) p.D p.m.toNat
  mks:∀j,0<=j->j<p.m->mkU j N=p.D j
theorem FFitR.ex{p:Prob}{N:Us}(hok:p.Ok)(h:FFitR p N e)(he:e=0):ExU p N:=by
  obtain⟨h1,h2,h3⟩:=Zdx hok (fun k k0 k1=>(X2 hok k0 k1).1) (h.2.1 he)
  exact⟨h1,h2,h3⟩
theorem Zat(f:List Int->Int):∀{N:Us},(∀x∈N,0<=x.2)->((WD N).map f).sum=wsum f N
  | [],_=>rfl
  | u ::N,h=>by
    have h1:=Zat f (N:=N) fun x hx=>h x (by simp [hx])
    have h2:=h u (by simp)
    unfold WD at h1⊢
    rw [List.reverse_cons,List.flatMap_append,List.map_append,List.sum_append,h1]
    simp only [List.flatMap_cons,List.flatMap_nil,List.append_nil,List.map_replicate,wsum]
    have h3:∀n:Nat,(List.replicate n (f u.1)).sum=f u.1*n:=fun n=>by
      induction n with
      |zero=>simp
      |succ n ih=>rw [List.replicate_succ,List.sum_cons,ih];push_cast;rw [Int.mul_add];omega
    rw [h3,Int.toNat_of_nonneg h2];omega
theorem Ze1{N:Us}:∀a∈WD N,∃x∈N,a=x.1:=fun a ha=>by
  unfold WD at ha
  obtain⟨x,hx,h⟩:=List.mem_flatMap.1 ha
  exact⟨x,List.mem_reverse.1 hx,(List.mem_replicate.1 h).2⟩
theorem Za3{m:Int}{j:Int}(j0:0<=j)(j1:j<m):∀(h:List (List Int)),(∀a∈h,∃f:Int->Int,(∀k,0<=k->k<m->0<=f k)/\a=lst m f)->0<=(h.map fun a=>a.getD j.toNat 0).sum
  | [],_=>by simp
  | a::h,ha=>by
    have h1:=Za3 j0 j1 h fun b hb=>ha b (by simp [hb])
    obtain⟨f,hf,rfl⟩:=ha a (by simp)
    have:=hf j j0 j1
    rw [List.map_cons,List.sum_cons,YZ j0 j1];omega
theorem UM {m:Int}:∀(h:List (List Int)) (M:Int->Int) (L:Us),(∀a∈h,∃f:Int->Int,(∀k,0<=k->k<m->0<=f k)/\a=lst m f)->(∀k,0<=k->k<m->0<=M k)->
    (∃M':Int->Int,(h.foldl Xk (lst m M,L)).1=lst m M'/\∀j,0<=j->j<m->M' j=max 0 (M j-(h.map fun a=>a.getD j.toNat 0).sum)/\mkU j (h.foldl Xk (lst m M,L)).2=mkU j L+(h.map fun a=>a.getD j.toNat 0).sum-(M j-M' j))/\
    ∀x∈(h.foldl Xk (lst m M,L)).2,x∈L\/∃(f g:Int->Int),lst m f∈h/\x=(lst m g,1)/\(∀k,0<=k->k<m->0<=g k/\g k<=f k)/\∃k,0<=k/\k<m/\0<g k
  | [],M,L,_,hM=>⟨⟨M,rfl,fun j j0 j1=>by have:=hM j j0 j1;simp only [List.foldl_nil,List.map_nil,List.sum_nil];omega⟩,fun x hx=> .inl hx⟩
  | a :: h, M,L,ha,hM=>by
    obtain⟨f,hf,rfl⟩:=ha a (by simp)
    have e1:tM (lst m f) (lst m M)=lst m fun k=>M k-min (f k) (M k):=YI _ _ _ _
    have e2:tA (lst m f) (lst m M)=lst m fun k=>f k-min (f k) (M k):=YI _ _ _ _
    have hM1:∀k,0<=k->k<m->0<=M k-min (f k) (M k):=fun k k0 k1=>by omega
    have ha1:∀a∈h,∃f:Int->Int,(∀k,0<=k->k<m->0<=f k)/\a=lst m f:=fun b hb=>ha b (by simp [hb])
    rw [List.foldl_cons]
    by_cases hn:(lst m fun k=>f k-min (f k) (M k)).any (fun x=>decide (0<x))=true
    · have e:Xk (lst m M,L) (lst m f)=(lst m fun k=>M k-min (f k) (M k),L++ [(lst m fun k=>f k-min (f k) (M k),1)]):=by
        unfold Xk;dsimp only;rw [e1,e2,if_pos hn]
      rw [e]
      obtain⟨⟨M',h1,h2⟩,h3⟩:=UM h (fun k=>M k-min (f k) (M k)) (L++ [(lst m fun k=>f k-min (f k) (M k),1)]) ha1 hM1
      refine⟨⟨M',h1,fun j j0 j1=> ?_⟩,fun x hx=> ?_⟩
      · obtain⟨g1,g2⟩:=h2 j j0 j1
        rw [List.map_cons,List.sum_cons,YZ j0 j1]
        have g3:mkU j (L++ [(lst m fun k=>f k-min (f k) (M k),1)])=mkU j L+(f j-min (f j) (M j)):=by
          unfold mkU;rw [YF];simp only [wsum];rw [YZ j0 j1];omega
        rw [g3] at g2
        have:=hf j j0 j1;have:=hM j j0 j1;have:=Za3 j0 j1 h ha1
        omega
      · rcases h3 x hx with h4|⟨f',g,h4,h5⟩
        · rcases List.mem_append.1 h4 with h4|h4
          · exact .inl h4
          · obtain⟨k,k0,k1,hk⟩:=Wr.1 hn
            exact .inr ⟨f,_,by simp,by simpa using h4,fun k k0 k1=>by have:=hf k k0 k1;have:=hM k k0 k1;omega,k,k0,k1,hk⟩
        · exact .inr ⟨f',g,by simp [h4],h5⟩
    · have e:Xk (lst m M,L) (lst m f)=(lst m fun k=>M k-min (f k) (M k),L):=by
        unfold Xk;dsimp only;rw [e1,e2,if_neg hn]
      rw [e]
      obtain⟨⟨M',h1,h2⟩,h3⟩:=UM h (fun k=>M k-min (f k) (M k)) L ha1 hM1
      refine⟨⟨M',h1,fun j j0 j1=> ?_⟩,fun x hx=> ?_⟩
      · obtain⟨g1,g2⟩:=h2 j j0 j1
        rw [List.map_cons,List.sum_cons,YZ j0 j1]
        have hz:¬0<f j-min (f j) (M j):=fun hh=>hn (Wr.2 ⟨j,j0,j1,hh⟩)
        have:=hf j j0 j1;have:=hM j j0 j1;have:=Za3 j0 j1 h ha1
        omega
      · rcases h3 x hx with h4|⟨f',g,h4,h5⟩
        · exact .inl h4
        · exact .inr ⟨f',g,by simp [h4],h5⟩
theorem TR(d:Int->Int):∀n:Nat,psum (fun k=>d k) (fun _=>1) n=psum (fun _=>1) d n
  |0=>rfl
  |n+1=>by simp only [psum];rw [TR d n];omega
theorem Km(f g:List Int->Int):∀L:Us,wsum (fun l=>f l+g l) L=wsum f L+wsum g L
  | []=>rfl
  |x::L=>by simp only [wsum];rw [Km f g L,Int.add_mul];omega
theorem TB:∀L:Us,wsum (fun _=>0) L=0
  | []=>rfl
  |x::L=>by simp only [wsum];rw [TB L];omega
theorem Zbp(L:Us):∀n:Nat,wsum (fun l=>psum (fun k=>l.getD k.toNat 0) (fun _=>1) n) L=psum (fun k=>mkU k L) (fun _=>1) n
  |0=>TB L
  | n +1=>by
    have h:=Km (fun l=>psum (fun k=>l.getD k.toNat 0) (fun _=>1) n) (fun l=>l.getD n 0) L
    simp only [psum]
    rw [Zbp L n] at h
    have e:(fun l:List Int=>psum (fun k=>l.getD k.toNat 0) (fun _=>1) n+l.getD (n:Int).toNat 0*1)=fun l=>psum (fun k=>l.getD k.toNat 0) (fun _=>1) n+l.getD n 0:=by
      funext l;rw [Int.toNat_natCast];omega
    rw [e,h]
    unfold mkU
    rw [Int.toNat_natCast];omega
theorem Zdy{p:Prob}{f g:Int->Int}(h:FitsP p n f)(hn:n=p.m)(hg:∀k,0<=k->k<p.m->0<=g k/\g k<=f k):FitsP p p.m g:=by
  refine⟨h.ok,rfl,fun i i0 i1=>by have:=h.all i i0 i1;have:=hg i i0 i1;omega,Int.le_trans (Yy fun i i0 i1=> ?_) h.used⟩
  have hm:=h.ok.m1
  have h1:=hg i i0 (by omega)
  have h2:=h.ok.all i i0 (by omega)
  unfold Prob.each at h2
  exact Int.mul_le_mul_of_nonneg_right h1.2 (by have:=h.ok.k1;omega)
theorem TrimR.ex {p:Prob} {out:Us} (h:TrimR p u ln pt cnt out e) (he:e=0) (u0:0<=u):ExU p out:=by
  rcases h with⟨_,_,h⟩|⟨_,_,_,h⟩|⟨h1,h2,_,N,hN,hO⟩
  · omega
  · omega
  · have hok:=h1.1
    have hm:=hok.m1
    have fj:=fun x hx=>hN.pos (KB h1) x hx
    have eC:∀x∈N,Kl p x.1:=fun x hx=>by
      obtain⟨y,hy,ey⟩:=hN.keys x hx
      rw [<-ey];exact(W8 h1 y hy).2
    have eK:∀a∈WD N,Kl p a:=fun a ha=>by
      obtain⟨x,hx,rfl⟩:=Ze1 a ha
      exact eC x hx
    have ee:∀j,0<=j->j<p.m->Zo u pt cnt j=((WD N).map fun a=>a.getD j.toNat 0).sum:=fun j j0 j1=>by
      rw [Zat _ fun x hx=>by have:=fj x hx;omega,h1.mk u0 j0 j1]
      exact(hN.wsum _).symm
    obtain⟨⟨M',_,hc⟩,an⟩:=UM (m:=p.m) (WD N) (fun j=>Zo u pt cnt j-p.D j) [] (fun a ha=>by
      obtain⟨f,hf,rfl⟩:=eK a ha
      exact⟨f,fun k k0 k1=>(hf.all k k0 k1).1,rfl⟩) fun k k0 k1=>by have:=h2 k k0 k1;omega
    have hT:∀x∈(XQ (lst p.m fun j=>Zo u pt cnt j-p.D j) (WD N)).2,1<=x.2/\Kl p x.1/\(∀k,0<=k->k<p.m->0<=x.1.getD k.toNat 0)/\∃k,0<=k/\k<p.m/\0<x.1.getD k.toNat 0:=fun x hx=>by
      rcases an x hx with h|⟨f,g,hf,rfl,hg,k,k0,k1,hk⟩
      · cases h
      · obtain⟨f',hf',ef⟩:=eK _ hf
        have e1:=((Wx (by omega) (by omega)).1 ef).2
        refine⟨Int.le_refl _,⟨g,Zdy hf' rfl fun k k0 k1=>by have:=hg k k0 k1;rw [<-e1 k k0 k1];exact this,rfl⟩,fun k k0 k1=> ?_,k,k0,k1,?_⟩
        · dsimp only;rw [YZ k0 k1];exact(hg k k0 k1).1
        · dsimp only;rw [YZ k0 k1];exact hk
    have hmk:∀j,0<=j->j<p.m->mkU j (XQ (lst p.m fun j=>Zo u pt cnt j-p.D j) (WD N)).2=p.D j:=fun j j0 j1=>by
      obtain⟨g1,g2⟩:=hc j j0 j1
      rw [<-ee j j0 j1] at g1 g2
      have g3:mkU j ([]:Us)=0:=rfl
      have hd:=(X2 hok j0 j1).1
      unfold XQ
      have:=h2 j j0 j1
      omega
    refine⟨fun x hx=>⟨hO.pos (fun y hy=>(hT y hy).1) x hx,?_⟩,?_,fun j j0 j1=> ?_⟩
    · obtain⟨y,hy,ey⟩:=hO.keys x hx
      rw [<-ey];exact(hT y hy).2.1
    · rw [hO.wsum]
      refine Int.le_trans (Zbq (g:=fun l=>psum (fun k=>l.getD k.toNat 0) (fun _=>1) p.m.toNat) (fun x hx=>by have:=(hT x hx).1;omega) fun x hx=> ?_) ?_
      · obtain⟨_,_,h3,k,k0,k1,hk⟩:=hT x hx
        have h4:=X0 (d:=fun _=>1) (f:=fun k=>x.1.getD k.toNat 0) (i:=(k+1).toNat) (n:=p.m.toNat) (by omega) fun q hq=>by have:=h3 q (by omega) (by omega);omega
        rw [YC _ _ k0] at h4
        have h5:=X0 (d:=fun _=>1) (f:=fun k=>x.1.getD k.toNat 0) (i:=0) (n:=k.toNat) (by omega) fun q hq=>by have:=h3 q (by omega) (by omega);omega
        have h6:psum (fun k=>x.1.getD k.toNat 0) (fun _=>1) 0=0:=rfl
        omega
      · rw [Zbp,<-TR]
        refine Int.le_of_eq (XD fun k hk=>⟨hmk k (by omega) (by omega),rfl⟩)
    · unfold mkU;rw [hO.wsum];exact hmk j j0 j1
theorem RK(pt:Int->Int->Int)(cnt:Int->Int)(j:Int):∀n:Nat,MadeTo pt cnt n j=psum (fun k=>pt k j) cnt n
  |0=>rfl
  | n+1=>by
    have:=Z2 (fun i=>pt i j*cnt i) (i:=(n:Int)) (by omega)
    rw [show((n:Int)+1).toNat=n+1 by omega,Int.toNat_natCast] at this
    unfold MadeTo
    rw [this]
    have h:=RK pt cnt j n
    unfold MadeTo at h
    rw [h];rfl
theorem ExU.sound{p:Prob}(h:ExU p (plL n ln pt cnt))(hok:p.Ok)(ht:psum (fun _=>1) p.D p.m.toNat<=1000)(n0:0<=n):SoundP p n ln pt cnt/\∀j,0<=j->j<p.m->MadeTo pt cnt n.toNat j=p.D j:=by
  obtain⟨h1,h2⟩:=ZdU (L:=plL n ln pt cnt) fun x hx=>(h.pat x hx).1
  have h3:=h.few
  rw [plL_len] at h1
  have hP:PlanOk p n ln pt cnt:=Wh hok (by omega) fun x hx=>⟨⟨(h.pat x hx).1,by have:=h2 x hx;omega⟩,(h.pat x hx).2⟩
  refine⟨⟨hok,by omega,fun i i0 i1=> ?_⟩,fun j j0 j1=> ?_⟩
  · obtain⟨g1,g2,g3⟩:=hP.2.2 i i0 i1
    exact⟨g3,g1,g2⟩
  · rw [RK]
    have:=hP.mk n0 j0 j1
    unfold Zo at this
    rw [this];exact h.mks j j0 j1
theorem DownR.ex{p:Prob}{u:Int}{ml:Int->Int}{mf:Int->Int->Int}{s:So}{out:Us}{e:Int}(h:DownR p u ml mf s out e)(he:e=0):ExU p out:=by
  rcases h with⟨h,_⟩|⟨n1,ln1,pt1,q6,n2,ln2,pt2,cnt2,hw,n10,n20,hN,hT⟩
  · exact absurd he h
  · exact hT.ex he (by omega)
theorem UpR.ex{p:Prob}{u:Int}{ml:Int->Int}{mf:Int->Int->Int}{s:So}{out:Us}{e:Int}(h:UpR p u ml mf s out e)(he:e=0):ExU p out:=by
  rcases h with⟨h,_⟩|⟨n1,ln1,pt1,q6,t,n,ln,pt,cnt,hw,n10,n0,hp,_,hU,hT⟩
  · exact absurd he h
  · exact hT.ex he n0
theorem WholeR.bad{p:Prob}(h:WholeR p u ml mf s n ln pt cnt e)(hn:¬WZ p u ml mf s):e=1:=by
  rcases h with⟨_,_,h⟩|⟨_,h,_⟩|⟨_,h,_⟩
  · exact h
  · exact absurd h hn
  · exact absurd h hn
theorem DownR.bad{p:Prob}{u:Int}{ml:Int->Int}{mf:Int->Int->Int}{s:So}{out:Us}{e:Int}(h:DownR p u ml mf s out e)(hn:¬WZ p u ml mf s):e=1/\out= []:=by
  rcases h with⟨_,h1,_,_,_,_,h2⟩|⟨n1,ln1,pt1,q6,n2,ln2,pt2,cnt2,hw,_⟩
  · exact⟨h2.bad hn,h1⟩
  · have:=hw.bad hn;omega
theorem UpR.bad{p:Prob}{u:Int}{ml:Int->Int}{mf:Int->Int->Int}{s:So}{out:Us}{e:Int}(h:UpR p u ml mf s out e)(hn:¬WZ p u ml mf s):e=1/\out= []:=by
  rcases h with⟨_,h1,_,_,_,_,h2⟩|⟨n1,ln1,pt1,q6,t,n,ln,pt,cnt,hw,_⟩
  · exact⟨h2.bad hn,h1⟩
  · have:=hw.bad hn;omega
end Go.Proofs.YtopmifmfecfaaaaGreat
namespace Go.Proofs.YtopmifmfecfaaaaGreat
open Go Go.RowKit Go.Proofs.Gw
variable {u:Int} {ml:Int->Int} {mf:Int->Int->Int} {s:So}
theorem ZgP:Zc Tryz.prog 36=true:=by kernel_rfl
theorem Zjz:Z0 Tryz.prog 64=some (.nilFunc,1,8):=by kernel_rfl
theorem Zjn:Z6 Tryz.prog 64=true:=by kernel_rfl
theorem ZaN:ZJ Tryz.prog 104=some (64,1):=by kernel_rfl
def Yg(b x:Us)(e:Int):Us:=if e=0/\wsum (fun _=>1) x<wsum (fun _=>1) b then x else b
def Ze7(i:Int)(p:Prob)(u:Int)(ml:Int->Int)(mf:Int->Int->Int)(s:So)(out:Us)(e:Int):Prop:=if i=0 then DownR p u ml mf s out e else UpR p u ml mf s out e
def BRun(p:Prob)(u:Int)(ml:Int->Int)(mf:Int->Int->Int)(s:So)(l:Us)(i:Int)(cur:Us):Prop:=
  (i=0/\cur=l)\/(i=1/\∃x e,DownR p u ml mf s x e/\cur=Yg l x e)\/(i=2/\∃x e y f,DownR p u ml mf s x e/\UpR p u ml mf s y f/\cur=Yg (Yg l x e) y f)
theorem BRun.next{p:Prob}{l cur x:Us}{i e:Int}(h:BRun p u ml mf s l i cur)(i2:i<2)(hx:Ze7 i p u ml mf s x e):BRun p u ml mf s l (i+1) (Yg cur x e):=by
  unfold Ze7 at hx
  rcases h with⟨rfl,rfl⟩|⟨rfl,y,f,h1,rfl⟩|⟨h,_⟩
  · exact .inr (.inl ⟨rfl,x,e,by simpa using hx,rfl⟩)
  · exact .inr (.inr ⟨rfl,y,f,x,e,h1,by simpa using hx,rfl⟩)
  · omega
def BestR(p:Prob)(out:Us)(e:Int):Prop:=
  (e≠0/\FFitR p [] e/\out= [])\/(e=0/\∃l,FFitR p l 0/\∃u ml mf s ec,0<=u/\ColR p u ml mf s ec/\((ec≠0/\out=l)\/(ec=0/\BRun p u ml mf s l 2 out)))
theorem ColR.n60{p:Prob}{e:Int}(h:ColR p u ml mf s e)(he:e=0)(u0:0<=u):u<=60/\s.n<=60:=by
  have hk:=(h.okS u0 he).1.n
  rcases h with⟨_,_,_,h⟩|⟨_,h,_⟩|⟨_,_,_,h1,_⟩
  · omega
  · exact absurd he h
  · have:=h1.few.2.1;omega
theorem ZhC(i:Int):Zc Tryz.prog (if i=0 then 33 else 35)=true:=by split<;>kernel_rfl
theorem Zkb(i:Int){vL vD:Value}{p:Prob}{vM:Value}{mv:Int->Value}{vX vY:Value}(w0:World)(h:PAt w0 vL vD p)(hM:MAt w0 vM u mv ml mf)(hX:Row w0 vX 1 s.n (ints s.X))(hY:Row w0 vY 1 s.m (ints s.Y))(xV:s.n<=1000):
    Calls Tryz.prog (if i=0 then 33 else 35) [.agg #[vL,vD,.int .i64 p.stock,.int .i64 p.kerf],.agg #[vM,vX,vY,.int .i64 s.val,.int .i64 s.den]].toArray w0 fun e w=>∃v,e= .returned v/\∃r n pv ln pt cnt e,v= .tuple #[r,.int .i64 e]/\Ze7 i p u ml mf s (plL n ln pt cnt) e/\(∀k,0<=k->k<n->1<=cnt k/\cnt k<=1000000000)/\n<=1000000/\Slh r n/\Sat w0 w [.own r 2 111 n (Zd pv cnt),.sem (Frame.rows 3 n pv ln pt)]:=by
  by_cases hi:i=0
  · rw [if_pos hi]
    refine(Zi2 w0 h hM hX hY xV).mono fun e w he=> ?_
    unfold Ze7;simp only [if_pos hi];exact he
  · rw [if_neg hi]
    refine(Zkz w0 h hM hX hY xV).mono fun e w he=> ?_
    unfold Ze7;simp only [if_neg hi];exact he
theorem Zi9{vL vD:Value}{p:Prob}(w0:World)(h:PAt w0 vL vD p):
    Calls Tryz.prog 31 [.agg #[vL,vD,.int .i64 p.stock,.int .i64 p.kerf]].toArray w0 fun e w=>∃v,e= .returned v/\∃r n pv ln pt cnt e,v= .tuple #[r,.int .i64 e]/\BestR p (plL n ln pt cnt) e/\(∀k,0<=k->k<n->1<=cnt k/\cnt k<=1000000000)/\n<=1000000/\Slh r n/\Sat w0 w [.own r 2 111 n (Zd pv cnt),.sem (Frame.rows 3 n pv ln pt)]:=by
  have hm:=h.L.slh.n0;have hm1:=h.L.slh.n1;have hd:=h.D.slh.n0;have hd1:=h.D.slh.n1;have hs:=h.is;have hk:=h.ik
  refine Zm Tryz.func31 Tryz.ntmps31 fun w hS=> ?_
  refine zsr<|zla (xbx (cs:= [_,_,_,_]) hS) ?_;rintro _ w ⟨g1,rfl,hS⟩
  refine(zP)<|(zP)<|zlz<|(zV (xls 0 st_35 hS))<|zlc (xc0 Zd6) (Zbj (p:=p) w (h.below hS.below)) ?_;rintro _ w ⟨xi,qB,q8,qX,qZ,qS,xE,rfl,qC,ya,zF,qV,hS'⟩
  replace hS:=(hS.comp hS').n3;clear hS'
  have ym:=fun k (k0:0<=k) (k1:k<qB)=>hS.slhIn 2 rfl k0 k1
  refine zs5 ?_
  refine zx5<|(zP)<|(zP)<|zlt<|Ze ?_ ?_<;>intro hc
  ·
   refine zsr<|(zP)<|(zP)<|(zP)<|zx14<|zf2 ⟨_,rfl,?_⟩
   exact⟨_,0,fun _=>undef,fun _=>0,fun _ _=>0,fun _=>0,_,rfl,.inl ⟨by omega,(by rw [<-qC.2.2 (by omega)];exact qC),rfl⟩,fun k k0 k1=>by omega,by omega,slh_nil,((hS.sub (.cons _ (.cons _ (.cons _ .slnil)))).addnil 2 111 (Zd (fun _=>undef) (fun _=>0))).addrows 3 (fun _=>undef) (fun _=>0) (fun _ _=>0)⟩
  refine Z7<|(zV (xls 0 st_35 hS))<|zlc (xc0 Zj7) (ZeV (p:=p) w (h.below hS.below)) ?_;rintro _ w ⟨yP,yO,zL,zK,yf,xX,xY,xU,gh,rfl,yq,xM,ai,ah,hS'⟩
  replace hS:=(hS.comp hS').n7;clear hS'
  have cT:=fun k (k0:0<=k) (k1:k<yf)=>hS.slhIn 4 rfl k0 k1
  refine(zP)<|(zP)<|(zP)<|zla (xal (cs:= [_,_,_,_,_]) ZgH hS) ?_;rintro _ w ⟨g2,rfl,hS⟩
  refine zle (xsw 7 Ws hS (hd:=(Za xM.one (Za ai.one (Za ah.one (Za rfl (Za rfl Zg))))))) ?_;clear hS;rintro w hS
  refine(zP)<|zx5<|(zP)<|(zP)<|zlt<|Ze ?_ ?_<;>intro hc
  ·
   refine zsr<|(zP)<|(zP)<|(zP)<|zx14<|zf2 ⟨_,rfl,?_⟩
   exact⟨_,_,_,_,_,_,0,rfl,.inr ⟨rfl,_,(by rw [show(0:Int)=xE by omega];exact qC),_,_,_,_,_,xM.n0,yq,.inl ⟨by omega,rfl⟩⟩,fun k k0 k1=>by have:=ya k k0 k1;omega,by omega,qV,hS.pk [1,2]⟩
  refine Xb<|zla (xli (n:=2) (len:=2) (pv:= [(0,.func (.func 33) #[] #[]),(1,.func (.func 35) #[] #[])]) (cs:= [.func (.func 33) #[] #[],.func (.func 35) #[] #[]]) (c:=(fun k=>Value.func (.func (if k=0 then 33 else 35)) #[] #[])) ZaN Zjz hS) ?_;rintro v1 w ⟨hS,hv1⟩
  refine(zV (xln ZaN hv1))<|(zP)<|zx6<|zlp (fun mm M w=>∃(nC:Int) (wv:Int->Value) (lC:Int->Int) (gC:Int->Int->Int) (cC:Int->Int) (i:Int) (wC:Value),mm=((2-i).toNat)/\(0<=i)/\(i<=2)/\(∀k,0<=k->k<nC->1<=cC k/\cC k<=1000000000)/\(nC<=1000000)/\(BRun p yf xX xY xU (plL qB qX qZ qS) i (plL nC lC gC cC))/\(Slh wC nC)/\M= [(1,.pointer (some ⟨g1,0,none⟩)),(2,.slice none 0 0),(3,.int .i64 0),(4,wC),(6,.pointer (some ⟨g2,0,none⟩)),(27,v1),(28,.int .i64 2),(29,.int .i64 i)]/\Sat w0 w [.blk g1 [vL,vD,.int .i64 p.stock,.int .i64 p.kerf],.own wC 2 111 nC (Zd wv cC),.sem (Frame.rows 3 nC wv lC gC),.own yP 1 22 yf yO,.sem (Frame.rows 3 yf yO xX xY),.own zL 1 3 xU.n (ints xU.X),.own zK 1 3 xU.m (ints xU.Y),.blk g2 [yP,zL,zK,.int .i64 xU.val,.int .i64 xU.den],.own v1 1 64 2 (fun k=>Value.func (.func (if k=0 then 33 else 35)) #[] #[])]) ⟨qB,q8,qX,qZ,qS,0,xi,rfl,(by omega),(by omega),?_,(by omega),?_,?_,rfl,hS⟩ ?_
  ·
   intro k k0 k1;have:=ya k k0 k1;omega
  ·
   exact .inl ⟨rfl,rfl⟩
  ·
   exact qV
  clear hS w
  rintro mm M w ⟨nC,wv,lC,gC,cC,i,wC,rfl,i0,i1,hcB,hnB,hBR,hwC,rfl,hS⟩
  have qN:=fun k (k0:0<=k) (k1:k<nC)=>hS.slhIn 2 rfl k0 k1
  obtain⟨bL,dP⟩:=yq.n60 (by omega) xM.n0
  refine zsr<|(zP)<|zx7<|Ze ?_ ?_<;>intro hc
  ·
   refine zx3<|(zV (xix (kk:=i) ZaN hv1))<|(zV (xlr (u:= .func (.func (if i=0 then 33 else 35)) #[] #[]) Zjn (hS.rowN 8 rfl)))<|(zP)<|zlz<|(zP)<|(zV (xls 0 st_35 hS))<|(zV (xls 7 Ws hS))<|zlc (xc0 (ZhC i)) (Zkb i (p:=p) (u:=yf) (ml:=xX) (mf:=xY) (s:=xU) w (h.below hS.below) (⟨(hS.rowN 3 rfl),fun k k0 k1=>hS.rowIn 4 rfl k0 k1,fun k k0 k1=>hS.roomIn 4 rfl k0 k1⟩:MAt _ yP yf yO xX xY) (hS.rowN 5 rfl) (hS.rowN 6 rfl) (by omega)) ?_;rintro _ w ⟨bT,aD,aT,aZ,bD,bI,gH,rfl,ak,z6,gy,zz,hS'⟩
   replace hS:=(hS.comp hS').n11;clear hS'
   have fg:=fun k (k0:0<=k) (k1:k<aD)=>hS.slhIn 10 rfl k0 k1
   refine zs5 ?_
   refine zlz<|(zP)<|(zP)<|(zP)<|zlb 42 ?_ ?_<;>intro hc
   ·
    refine(zP)<|zlc (xc0 ZgP) (Zb9 (u:=aD) (pv:=aT) (ln:=aZ) (pt:=bD) (cnt:=bI) w (⟨(hS.rowN 9 rfl),fun k k0 k1=>hS.rowIn 10 rfl k0 k1,fun k k0 k1=>hS.roomIn 10 rfl k0 k1⟩:VAt _ bT aD aT aZ bD bI) (by omega) (fun k k0 k1=>by first|(have h8:=hcB k k0 k1;omega)|(have h8:=z6 k k0 k1;omega))) ?_;rintro _ w ⟨rfl,hS'⟩
    replace hS:=hS.cmp hS';clear hS'
    refine(zP)<|zlc (xc0 ZgP) (Zb9 (u:=nC) (pv:=wv) (ln:=lC) (pt:=gC) (cnt:=cC) w (⟨(hS.rowN 1 rfl),fun k k0 k1=>hS.rowIn 2 rfl k0 k1,fun k k0 k1=>hS.roomIn 2 rfl k0 k1⟩:VAt _ wC nC wv lC gC cC) (by omega) (fun k k0 k1=>by first|(have h8:=hcB k k0 k1;omega)|(have h8:=z6 k k0 k1;omega))) ?_;rintro _ w ⟨rfl,hS'⟩
    replace hS:=hS.cmp hS';clear hS'
    refine(zP)<|(zP)<|zlt<|Ze ?_ ?_<;>intro hc
    ·
     refine zrg<|(zP)<|(zP)<|zx10<|(zV (Zf (r:=i+1)))<|(zP)<|zln<|zlq ⟨aD,aT,aZ,bD,bI,i+1,bT,rfl,(by omega),(by omega),?_,(by omega),?_,?_,rfl,hS.pk [0,9,10,3,4,5,6,7,8]⟩
     ·
      first|exact hcB|exact z6
     ·
      have hnx:=hBR.next (by omega) ak
      unfold Yg at hnx
      rw [Zt _ zz.n0,Zt _ hwC.n0] at hnx
      first|(rw [if_pos ⟨by omega,by assumption⟩] at hnx;exact hnx)|(rw [if_neg (by first|(intro hh;exact absurd hh.1 (by omega))|(intro hh;exact absurd hh.2 (by assumption))|(rintro⟨q1,q2⟩;omega))] at hnx;exact hnx)
     ·
      exact zz
    refine zx4<|(zV (Zf (r:=i+1)))<|(zP)<|zln<|zlq ⟨nC,wv,lC,gC,cC,i+1,wC,rfl,(by omega),(by omega),?_,(by omega),?_,?_,rfl,hS.pk [0,1,2,3,4,5,6,7,8]⟩
    ·
     first|exact hcB|exact z6
    ·
     have hnx:=hBR.next (by omega) ak
     unfold Yg at hnx
     rw [Zt _ zz.n0,Zt _ hwC.n0] at hnx
     first|(rw [if_pos ⟨by omega,by assumption⟩] at hnx;exact hnx)|(rw [if_neg (by first|(intro hh;exact absurd hh.1 (by omega))|(intro hh;exact absurd hh.2 (by assumption))|(rintro⟨q1,q2⟩;omega))] at hnx;exact hnx)
    ·
     exact hwC
   iterate 5 refine zlo ?_
   refine(zP)<|zlt<|zcf<|zsk<|zbn<|ztn<|zrg ?_
   refine(zV (Zf (r:=i+1)))<|(zP)<|zln<|zlq ⟨nC,wv,lC,gC,cC,i+1,wC,rfl,(by omega),(by omega),?_,(by omega),?_,?_,rfl,hS.pk [0,1,2,3,4,5,6,7,8]⟩
   ·
    first|exact hcB|exact z6
   ·
    have hnx:=hBR.next (by omega) ak
    unfold Yg at hnx
    rw [Zt _ zz.n0,Zt _ hwC.n0] at hnx
    first|(rw [if_pos ⟨by omega,by assumption⟩] at hnx;exact hnx)|(rw [if_neg (by first|(intro hh;exact absurd hh.1 (by omega))|(intro hh;exact absurd hh.2 (by assumption))|(rintro⟨q1,q2⟩;omega))] at hnx;exact hnx)
   ·
    exact hwC
  refine zx8<|(zP)<|(zP)<|(zP)<|zx1<|zf2 ⟨_,rfl,?_⟩
  exact⟨_,_,_,_,_,_,0,rfl,.inr ⟨rfl,_,(by rw [show(0:Int)=xE by omega];exact qC),_,_,_,_,_,xM.n0,yq,.inr ⟨by omega,by rw [show(2:Int)=i by omega];exact hBR⟩⟩,hcB,by omega,hwC,hS.pk [1,2]⟩
end Go.Proofs.YtopmifmfecfaaaaGreat
namespace Go.Proofs.YtopmifmfecfaaaaGreat
open Go Go.RowKit Go.Proofs.Gw
variable {n:Int} {cnt ln:Int->Int} {pt:Int->Int->Int}
def YQ(x:Int):Int:=max (-9223372036854775808) (min x 9223372036854775807)
theorem Xi{x:Int}(h: -9223372036854775808<=x/\x<=9223372036854775807):YQ x=x:=by unfold YQ;omega
theorem VAt.clamp{w:World}{v:Value}{pv:Int->Value}(h:VAt w v n pv ln pt cnt)(hc:∀i,0<=i->i<n->(-9223372036854775808<=cnt i/\cnt i<=9223372036854775807)/\∀k,0<=k->k<ln i-> -9223372036854775808<=pt i k/\pt i k<=9223372036854775807):VAt w v n pv ln (fun i k=>YQ (pt i k)) (fun i=>YQ (cnt i)):=
  ⟨h.row.congr fun k k0 k1=>by
    unfold Zd
    by_cases e:k%2=0
    · simp only [if_pos e]
    · simp only [if_neg e]
      rw [Xi (hc (k/2) (by omega) (by omega)).1],fun i i0 i1=>(h.p i i0 i1).congr fun k k0 k1=>by unfold ints;dsimp only;rw [Xi ((hc i i0 i1).2 k k0 (by omega))],h.room⟩
theorem ExU.rng{p:Prob}(h:SoundP p n ln pt cnt):∀i,0<=i->i<n->(-9223372036854775808<=cnt i/\cnt i<=9223372036854775807)/\∀k,0<=k->k<ln i-> -9223372036854775808<=pt i k/\pt i k<=9223372036854775807:=fun i i0 i1=>by
  obtain⟨h1,h2,h3⟩:=h.all i i0 i1
  refine⟨by omega,fun k k0 k1=> ?_⟩
  have:=h1.all k k0 (by have:=h1.eq;omega)
  omega
theorem SoundP.clamp{p:Prob}(h:SoundP p n ln pt cnt):SoundP p n ln (fun i k=>YQ (pt i k)) (fun i=>YQ (cnt i)):=by
  have hr:=ExU.rng h
  refine⟨h.ok,h.few,fun i i0 i1=> ?_⟩
  obtain⟨h1,h2,h3⟩:=h.all i i0 i1
  refine⟨XP h1 rfl fun k k0 k1=>Xi ((hr i i0 i1).2 k k0 (by have:=h1.eq;omega)),?_⟩
  rw [Xi (hr i i0 i1).1];exact⟨h2,h3⟩
theorem MadeTo.clamp{p:Prob}(h:SoundP p n ln pt cnt){j:Int}(j0:0<=j)(j1:j<p.m):MadeTo (fun i k=>YQ (pt i k)) (fun i=>YQ (cnt i)) n.toNat j=MadeTo pt cnt n.toNat j:=by
  have hr:=ExU.rng h
  refine Zj fun i i0 i1=> ?_
  dsimp only
  rw [Xi (hr i i0 (by omega)).1,Xi ((hr i i0 (by omega)).2 j j0 (by have:=(h.all i i0 (by omega)).1.eq;omega))]
end Go.Proofs.YtopmifmfecfaaaaGreat
namespace Go.Proofs.YtopmifmfecfaaaaGreat
open Go Go.RowKit Go.Proofs.Gw
theorem Zd7:Zc Tryz.prog 28=true:=by kernel_rfl
theorem Zj5:Zc Tryz.prog 31=true:=by kernel_rfl
theorem KH{p:Prob}{b x:Us}{e:Int}(hb:ExU p b)(hx:e=0->ExU p x):ExU p (Yg b x e):=by
  unfold Yg
  by_cases h:e=0/\wsum (fun _=>1) x<wsum (fun _=>1) b
  · rw [if_pos h];exact hx h.1
  · rw [if_neg h];exact hb
theorem BestR.ok{p:Prob}{out:Us}{e:Int}(hok:p.Ok)(hf:XH p)(h:BestR p out e):e=0/\ExU p out:=by
  rcases h with⟨h1,h2,_⟩|⟨h1,l,h2,u,ml,mf,s,ec,u0,hc,h3⟩
  · exact absurd (UD hok hf h2.1) h1
  · refine⟨h1,?_⟩
    have hl:=h2.ex hok rfl
    rcases h3 with⟨_,rfl⟩|⟨_,h3⟩
    · exact hl
    · rcases h3 with⟨h4,_⟩|⟨h4,_⟩|⟨_,x,f,y,g,hx,hy,rfl⟩
      · omega
      · omega
      · exact KH (KH hl hx.ex) hy.ex
theorem ZbC{n:Int}{ln cnt:Int->Int}{pt:Int->Int->Int}(h:plL n ln pt cnt= [])(n0:0<=n):n=0:=by
  have:=plL_len n ln pt cnt
  rw [h] at this;simp at this;omega
theorem T9{p:Prob}{n:Int}{ln cnt:Int->Int}{pt:Int->Int->Int}(hok:p.Ok)(hf:XH p)(h:ExU p (plL n ln pt cnt))(n0:0<=n):SoundP p n ln pt cnt/\SoundP p n ln (fun i k=>YQ (pt i k)) (fun i=>YQ (cnt i))/\p.m=p.d/\∀k,0<=k->k<p.m->MadeTo (fun i k=>YQ (pt i k)) (fun i=>YQ (cnt i)) n.toNat k=p.D k:=by
  have ht:=Uz hok hf
  obtain⟨h1,h2⟩:=h.sound hok (by omega) n0
  exact⟨h1,SoundP.clamp h1,hok.d.symm,fun k k0 k1=>(MadeTo.clamp h1 k0 k1).trans (h2 k k0 k1)⟩
end Go.Proofs.YtopmifmfecfaaaaGreat
namespace Go.Proofs.YtopmifmfecfaaaaGreat
open Go Go.RowKit Go.Proofs.Gw
variable {u:Int} {ml:Int->Int} {mf:Int->Int->Int} {s:So}
theorem W7(c:Int->Int):∀n:Nat,psum (fun _=>1) c n=Zh c n
  |0=>rfl
  | n+1=>by
    have:=Z2 c (i:=(n:Int)) (by omega)
    rw [show((n:Int)+1).toNat=n+1 by omega,Int.toNat_natCast] at this
    rw [this,psum,W7 c n];omega
theorem MOk.price{p:Prob}(h:MOk p u ml mf s)(hw:WC p s.Y<=s.den){k:Int}(k0:0<=k)(k1:k<p.m):p.D k*s.Y k<=p.D k*s.den:=by
  have hok:=h.pats.1
  have hd:=XW hok k0 k1
  rcases Int.lt_or_eq_of_le hd.1 with hp|hp
  · obtain⟨h1,h2⟩:=KN hok k0 k1
    obtain⟨h3,h4⟩:=WN h1
    have h5:=ZaK hok (y:=s.Y) h3 h4
    have h6:=ZbB (x:=fun i=>XT p k i*s.Y i) k0 (by omega:k<(p.m.toNat:Int)) fun j _ _ e=>by
      show XT p k j*_=0
      rw [show XT p k j=0 from if_neg e,Int.zero_mul]
    rw [h6] at h5
    have h7:=h2 hp
    have h8:=(h.Y k k0 k1).1
    have h9:=Int.mul_le_mul_of_nonneg_right h7 h8
    exact Int.mul_le_mul_of_nonneg_left (by omega) hd.1
  · rw [<-hp];omega
theorem MOk.val_le{p:Prob}(h:MOk p u ml mf s)(hw:WC p s.Y<=s.den):s.val<=psum (fun _=>1) p.D p.m.toNat*s.den:=by
  rw [<-h.bY,W7,<-YB]
  exact Yy fun k k0 k1=>h.price hw k0 (by have:=h.pats.1.m1;omega)
theorem MOk.fit{p:Prob}(h:MOk p u ml mf s)(hw:WC p s.Y<=s.den)(hf:XH p)(hu:u<=60):WZ p u ml mf s:=by
  have hok:=h.pats.1
  have ht:=Uz hok hf
  have hv:=h.val_le hw
  have hd:=h.d1
  have hn:=h.n
  refine⟨⟨⟨h.d1,h.d2⟩,h.v,fun k k0 k1=>h.X k k0 (by omega)⟩,h.n,hu,fun k k0 k1=>⟨h.pats.2 k k0 k1,?_⟩,fun j j0 j1=> ?_⟩
  · have h1:=XY (f:=s.X) (n:=u.toNat) k0 (by omega) fun i i0 i1=>(h.X i i0 (by omega)).1
    rw [h.cX] at h1
    have h2:=Int.mul_le_mul_of_nonneg_right ht (show 0<=s.den by omega)
    rw [Int.tdiv_eq_ediv_of_nonneg (h.X k k0 k1).1]
    have h3:s.X k/s.den<=180:=by
      have h4:s.X k/s.den<181:=Int.ediv_lt_of_lt_mul (by omega) (by omega)
      omega
    omega
  · unfold Zo
    rw [<-RK]
    exact h.rows j j0 j1
theorem Zcv(h:∀j,0<=j->j<u->(s.X j).tmod s.den=0)(u0:0<=u):frN s u.toNat=0:=by
  obtain⟨h1,h2,h3,_⟩:=V2 s u.toNat
  rcases Int.lt_or_eq_of_le h1 with h4|h4
  · obtain⟨g1,g2,g3⟩:=h3 0 (by omega) h4
    exact absurd (h _ g1 (by omega)) g3
  · exact h4.symm
theorem TD{s:So}:∀n:Nat,(∀j,0<=j->j<(n:Int)->(s.X j).tmod s.den=0)->psum (fun _=>1) (fun q=>(s.X q).tdiv s.den) n*s.den=Zh s.X n
  |0,_=>by simp [psum,Zh]
  | n+1,h=>by
    have h1:=TD n fun j j0 j1=>h j j0 (by omega)
    have h2:=h n (by omega) (by omega)
    have h3:=Int.tmod_add_mul_tdiv (s.X n) s.den
    have:=Z2 s.X (i:=(n:Int)) (by omega)
    rw [show((n:Int)+1).toNat=n+1 by omega,Int.toNat_natCast] at this
    rw [this,psum,Int.add_mul,h1,Int.one_mul,Int.mul_comm _ s.den];omega
theorem KG(b x:Us)(e:Int):wsum (fun _=>1) (Yg b x e)<=wsum (fun _=>1) b/\(e=0->wsum (fun _=>1) (Yg b x e)<=wsum (fun _=>1) x):=by
  unfold Yg
  by_cases h:e=0/\wsum (fun _=>1) x<wsum (fun _=>1) b
  · rw [if_pos h];exact⟨by omega,fun _=>Int.le_refl _⟩
  · rw [if_neg h];exact⟨Int.le_refl _,fun he=>by by_cases h2:wsum (fun _=>1) x<wsum (fun _=>1) b;exact absurd ⟨he,h2⟩ h;omega⟩
theorem BestR.bound {p:Prob} {n e el ec:Int} {ln cnt:Int->Int} {pt:Int->Int->Int} {l:Us} (hok:p.Ok) (hf:XH p) (n0:0<=n) (h:BestR p (plL n ln pt cnt) e) (hl:FFitR p l el) (hc:ColR p u ml mf s ec):
    wsum (fun _=>1) (plL n ln pt cnt)<=wsum (fun _=>1) l/\(ec≠0->wsum (fun _=>1) (plL n ln pt cnt)=wsum (fun _=>1) l)/\
    (ec=0->s.val<=wsum (fun _=>1) (plL n ln pt cnt)*s.den/\((∀j,0<=j->j<s.n->(s.X j).tmod s.den=0)->wsum (fun _=>1) (plL n ln pt cnt)*s.den=s.val)):=by
  obtain⟨_,hx⟩:=h.ok hok hf
  have ht:=Uz hok hf
  obtain⟨hs,hmk⟩:=hx.sound hok (by omega) n0
  rcases h with⟨h1,h2,_⟩|⟨h1,l',h2,u',ml',mf',s',ec',u0,hc',h3⟩
  · exact absurd (UD hok hf h2.1) h1
  · obtain⟨rfl,_⟩:=h2.same hl
    obtain⟨_,rfl,rfl⟩:=hc'.same hc
    have hw1:wsum (fun _=>1) (plL n ln pt cnt)=Zh cnt n.toNat:=by rw [Zt _ n0,W7]
    have low:ec'=0->s'.val<=wsum (fun _=>1) (plL n ln pt cnt)*s'.den:=fun he=>by
      obtain⟨hm,hwc⟩:=hc'.okS u0 he
      have hM:MeetsP p n ln pt cnt:=⟨hs,fun k k0 k1=>Int.le_of_eq (hmk k k0 k1).symm⟩
      have h4:=ZaR (y:=s'.Y) (fun i i0 i1=>(hm.Y i i0 i1).1) hM n0
      rw [hm.bY,<-hw1] at h4
      refine Int.le_trans h4 (Int.mul_le_mul_of_nonneg_left hwc ?_)
      rw [hw1];exact Ym fun i i0 i1=>by have:=(hs.all i i0 (by omega)).2;omega
    rcases h3 with⟨h3,h4⟩|⟨h3,h4⟩
    · rw [h4];exact⟨Int.le_refl _,fun _=>rfl,fun he=>absurd he h3⟩
    · rcases h4 with⟨h5,_⟩|⟨h5,_⟩|⟨_,x,f,y,g,hxd,hyu,h6⟩
      · omega
      · omega
      · have p1:=KG l' x f
        have p2:=KG (Yg l' x f) y g
        rw [<-h6] at p2
        refine⟨by omega,fun he=>absurd h3 he,fun he=>⟨low he,fun hn=> ?_⟩⟩
        obtain⟨hm,hwc⟩:=hc'.okS u0 he
        have qA:=hm.fit hwc hf (hc'.n60 he u0).1
        obtain⟨hg,hb⟩:=ZgV hok hf qA u0 hyu
        have hnn:=hm.n
        have hz:=Zcv (u:=u') (fun j j0 j1=>hn j j0 (by omega)) u0
        have hv:=TD (s:=s') u'.toNat fun j j0 j1=>hn j j0 (by omega)
        rw [hm.cX] at hv
        have h7:=Int.mul_le_mul_of_nonneg_right (show wsum (fun _=>1) (plL n ln pt cnt)<=psum (fun _=>1) (fun q=>(s'.X q).tdiv s'.den) u'.toNat by have:=p2.2 hg;omega) (show 0<=s'.den by have:=hm.d1;omega)
        have:=low he
        omega
end Go.Proofs.YtopmifmfecfaaaaGreat
namespace Go.Proofs.Gw
open Go Go.RowKit
def Zjh(v:Value):Prop:=∀a l c,v= .slice a l c->a=none\/∃b off,a=some ⟨b,off,none⟩
def Tp(v:Value)(q:Nat):Value:=match v with
  | .slice a _ _=> .slice a q q
  |u=>u
def Rx(v:Value)(q s:Nat):Value:=match v with
  | .slice a len cap=> .slice (if cap=q then a else a.map fun x=>⟨x.block,x.off+q*s,none⟩) (len-q) (cap-q)
  |u=>u
section
variable {P:Program} {L:List (Nat×Value)} {w w0:World} {o:Oper} {x y z:Operand} {T T':TypeId} {l:List Ent} {E:TypeId}
theorem Ent.holds.flat{v:Value}{s:Nat}{n:Int}{c:Int->Value}(h:(Ent.own v s E n c).holds w):Zjh v:=fun a len cap e=>by
  obtain⟨_,_,⟨rfl,_⟩|⟨g,cap',cur,rfl,_,h2,_⟩⟩:=h
  · cases e;exact .inl rfl
  · cases e;exact .inr ⟨_,_,rfl⟩
theorem ZfV{v:Value}{n i:Int}{q:Nat}(h:Slh v n)(hq:(q:Int)=i)(hi:i<=n):Slh (Tp v q) i:=by
  subst hq
  obtain⟨h0,h1,a,cap,rfl,hz⟩:=h
  refine⟨by omega,by omega,a,q,by simp [Tp],?_⟩
  rcases hz with hz|hz
  · left;omega
  · exact .inr hz
theorem Zb3{v:Value}{s:Nat}{n i:Int}{q:Nat}{c:Int->Value}(h:Row w v s n c)(hq:(q:Int)=i)(hi:i<=n):Row w (Tp v q) s i c:=by
  refine⟨ZfV h.slh hq hi,fun k hk=> ?_⟩
  have h2:=h.2 k (Int.lt_of_lt_of_le hk (Int.mul_le_mul_of_nonneg_right hi (by omega)))
  obtain⟨_,_,a,cap,rfl,_⟩:=h.slh
  cases a<;>exact h2
theorem Zc8{v:Value}{n i m:Int}{q s:Nat}(h:Slh v n)(hr:Y9 v)(hq:(q:Int)=i)(hi:i<=n)(hm:m=n-i):Slh (Rx v q s) m:=by
  subst hq hm
  obtain⟨h0,h1,a,cap,rfl,hz⟩:=h
  have hc:=hr _ _ _ rfl
  refine⟨by omega,by omega,(if cap=q then a else a.map fun x=>⟨x.block,x.off+q*s,none⟩),cap-q,?_,?_⟩
  · unfold Rx;dsimp only;congr 1;omega
  · rcases hz with hz|⟨b,off,rfl⟩
    · left;omega
    · right;by_cases hcq:cap=q
      · exact⟨b,off,by rw [if_pos hcq]⟩
      · exact⟨b,off+q*s,by rw [if_neg hcq];rfl⟩
theorem Ks{v:Value}{s:Nat}{n i m:Int}{q:Nat}{c d:Int->Value}(h:Row w v s n c)(hr:Y9 v)(hq:(q:Int)=i)(hi:i<=n)(hm:m=n-i)(hd:∀k,0<=k->d k=c (k+i*s)):Row w (Rx v q s) s m d:=by
  refine⟨Zc8 h.slh hr hq hi hm,fun k hk=> ?_⟩
  subst hq hm
  have h1:(k:Int)+(q:Int)*s<n*s:=by have:=Int.sub_mul n q s;omega
  have e:(k:Int)+(q:Int)*s=((k+q*s:Nat):Int):=by push_cast;rfl
  have h2:=h.2 (k+q*s) (by rw [<-e];exact h1)
  rw [hd k (by omega),e,<-h2]
  obtain⟨h0,_,a,cap,rfl,hz⟩:=h.slh
  have hc:=hr _ _ _ rfl
  rcases hz with hz|⟨b,off,rfl⟩
  · subst hz;rw [Int.zero_mul] at h1;have:(0:Int)<=(q:Int)*s:=Int.mul_nonneg (by omega) (by omega);omega
  · have hcq:cap≠q:=by
      intro e2
      have:n-(q:Int)<=0:=by omega
      have:=Int.mul_le_mul_of_nonneg_right this (show(0:Int)<=s by omega)
      rw [Int.zero_mul] at this
      omega
    unfold Rx cad;dsimp only
    rw [if_neg hcq]
    congr 1
    show(⟨b,off+q*s+(k:Int).toNat,none⟩:Addr)=⟨b,off+((k+q*s:Nat):Int).toNat,none⟩
    congr 1
    omega
theorem Zbo{v:Value}{n i:Int}{s:Nat}(q:Nat)(ht:ZJ P T=some (E,s))(hv:Slh v n)(hr:Y9 v)(hf:Zjh v)(hq:(q:Int)=i:=by omega)(h1:i<=n:=by omega)(ho:o.op= .slice T x none (some y) (some z):=by exact rfl)(hx:evL L x=some v:=by exact rfl)(hy:evL L y=some (.int .i64 i):=by exact rfl)(hz:evL L z=some (.int .i64 i):=by exact rfl):
    Runs P L w o (.value (Tp v q)) w:=fun ρ h=>by
  obtain⟨hu,inf,hin,hsz⟩:=ZY ht
  obtain⟨_,_,a,cap,rfl,_⟩:=hv
  have hc:=hr _ _ _ rfl
  have ha:=hf _ _ _ rfl
  subst hq
  have hb:(Instr.sliceBounds true n.toNat cap none (some (.int .i64 (q:Int))) (some (.int .i64 (q:Int)))).run P w= .ok (0,q,q) w:=by
    have hcq:(q:Int)<=(cap:Int):=by omega
    simp [Instr.sliceBounds,Instr.sliceBound,asIntOf,hcq]
  have e:(Instr.sliceAt T (.slice a n.toNat cap) none (some (.int .i64 (q:Int))) (some (.int .i64 (q:Int)))).run P w= .ok (Tp (.slice a n.toNat cap) q) w:=by
    unfold Instr.sliceAt
    simp only [Sem.run_bind,run_underlying hu,Result.andThen_ok,Instr.slice,hb]
    rcases ha with rfl|⟨b,off,rfl⟩
    · simp [sizeOf,typeInfo,hin,hsz,Tp]
    · simp [sizeOf,typeInfo,hin,hsz,Tp,Addr.add]
  simp [execOp,ho,h _ _ hx,h _ _ hy,h _ _ hz,e]
theorem Zbn{v:Value}{n i:Int}{s:Nat}(q:Nat)(ht:ZJ P T=some (E,s))(hv:Slh v n)(hf:Zjh v)(hq:(q:Int)=i:=by omega)(h1:i<=n:=by omega)(ho:o.op= .slice T x (some y) none none:=by exact rfl)(hx:evL L x=some v:=by exact rfl)(hy:evL L y=some (.int .i64 i):=by exact rfl):
    Runs P L w o (.value (Rx v q s)) w:=fun ρ h=>by
  obtain⟨hu,inf,hin,hsz⟩:=ZY ht
  obtain⟨_,_,a,cap,rfl,_⟩:=hv
  have ha:=hf _ _ _ rfl
  subst hq
  have hb:(Instr.sliceBounds true n.toNat cap (some (.int .i64 (q:Int))) none none).run P w= .ok (q,n.toNat,cap) w:=by
    simp [Instr.sliceBounds,Instr.sliceBound,asIntOf]
    omega
  have e:(Instr.sliceAt T (.slice a n.toNat cap) (some (.int .i64 (q:Int))) none none).run P w= .ok (Rx (.slice a n.toNat cap) q s) w:=by
    unfold Instr.sliceAt
    simp only [Sem.run_bind,run_underlying hu,Result.andThen_ok,Instr.slice,hb]
    rcases ha with rfl|⟨b,off,rfl⟩
    · simp [sizeOf,typeInfo,hin,hsz,Rx]
    · by_cases hc:cap=q
      · simp [sizeOf,typeInfo,hin,hsz,Rx,hc]
      · simp [sizeOf,typeInfo,hin,hsz,Rx,hc,Addr.add_eq]
  simp [execOp,ho,h _ _ hx,h _ _ hy,e]
theorem ZaY {v u:Value} {s b:Nat} {n m:Int} {c d f:Int->Value} {zv:Value} (ho:o.op= .call {callee:= .builtin .append,args:= #[x,y],argTypes:= #[T,T]}) (ht:ZJ P T=some (E,s)) (he:Z0 P E=some (zv,s,b)) (hz:zv.cells.size=s) (hs:0<s)
    (hS:Sat w0 w l) (hx:evL L x=some v) (hy:evL L y=some u) (hv:Row w v s n c) (bz:∀a len cp,v= .slice a len cp->cp=len) (hu:Row w u s m d) (hm:0<m) (h1c:∀k,0<=k->k<n*s->(c k).oneCell'=true) (h1:∀k,0<=k->k<m*s->(d k).oneCell'=true)
    (hb:b*(n+m)<=140737488355328) (hnm:n+m<=140737488355328) (e:∀k,0<=k->k<(n+m)*s->cat (n*s) c d k=f k):
    ∃r w',Runs P L w o (.value r) w'/\Sat w0 w' (l++ [.own r s E (n+m) f])/\Slh r (n+m):=by
  obtain⟨hn0,hn1,a,cap,rfl,hza⟩:=hv.slh
  have hcp:=bz _ _ _ rfl
  subst hcp
  cases a with
  | none=>
    have hn:n=0:=by rcases hza with h|⟨_,_,h⟩;exact h;cases h
    subst hn
    have hS1:=hS.addnil s E c
    obtain⟨r,w',h2,h3,h4⟩:=Ra (l1:=l) (l2:= []) ho ht he hz hs (v:= .slice none 0 0) hS1 (by simpa using hx) hy hu h1 hb hnm
    refine⟨r,w',h2,?_,h4⟩
    have hi:(l++Ent.own r s E (0+m) (cat (0*s) c d):: [])[l.length]? =some (.own r s E (0+m) (cat (0*s) c d)):=by rw [List.getElem?_append_right (Nat.le_refl _),Nat.sub_self];rfl
    have:=h3.recont l.length hi e
    have e2:(l++ [Ent.own r s E (0+m) (cat (0*s) c d)]).set l.length (Ent.own r s E (0+m) f)=l++ [.own r s E (0+m) f]:=by
      apply List.ext_getElem?
      intro k
      rw [List.getElem?_set,List.getElem?_append,List.getElem?_append]
      by_cases h5:l.length=k
      · subst h5;simp
      · rw [if_neg h5]
        by_cases h6:k<l.length
        · rw [if_pos h6,if_pos h6]
        · rw [if_neg h6,if_neg h6,List.getElem?_eq_none (by simp;omega),List.getElem?_eq_none (by simp;omega)]
    rw [e2] at this
    exact this
  | some ad=>
    obtain⟨hut,_⟩:=ZY ht
    obtain⟨i,hi,hzz,hsz,hby⟩:=Xu he
    obtain⟨hm0,hm1,a2,dy,rfl,hz2⟩:=hu.slh
    obtain⟨b2,cE,rfl⟩:∃b off,a2=some ⟨b,off,none⟩:=by rcases hz2 with h|h;omega;exact h
    have eb:(n.toNat+m.toNat)*b<=140737488355328:=by
      have:(((n.toNat+m.toNat)*b:Nat):Int)=b*(n+m):=by rw [Int.natCast_mul,Int.natCast_add,Int.toNat_of_nonneg hn0,Int.toNat_of_nonneg hm0,Int.mul_comm]
      omega
    have en:n.toNat+m.toNat=(n+m).toNat:=by omega
    have cellsR:∀{v:Value} {n:Int} {c:Int->Value} {ad:Addr} {cap:Nat},v= .slice (some ad) n.toNat cap->(n=0\/∃b off,some ad=some (⟨b,off,none⟩:Addr))->0<=n->Row w v s n c->∀j t,(cellsOf c (n.toNat*s))[j]? =some t->w.cell? (ad.add j)=some t:=fun {v n c ad cap} hv hz h0 hR j t hj=>by
      rw [cellsOf_get] at hj
      split at hj
      · rename_i hlt
        have e':((n.toNat*s:Nat):Int)=n*s:=by rw [Int.natCast_mul,Int.toNat_of_nonneg h0]
        have:=hR.2 j (by omega)
        cases hj
        rw [<-this,hv]
        rcases hz with h|⟨b',off,h⟩
        · subst h;simp at hlt
        · cases h;rw [Addr.add_eq _ rfl];simp [cad]
      · cases hj
    have hr:=run_append_grow (P:=P) w T 0 E i zv hut hi hzz ad n.toNat n.toNat (cellsOf c (n.toNat*s)) (by rw [ZQ,hsz]) (cellsR rfl hza hn0 hv)
      ⟨b2,cE,none⟩ m.toNat dy (cellsOf d (m.toNat*s)) (by rw [ZQ,hsz]) (cellsR rfl (.inr ⟨_,_,rfl⟩) hm0 hu) (by omega) (by omega) (by rw [hby];exact growslice_fits (by omega) eb)
    have hr':∀ty,(Builtin.append_ #[T,T] ty #[.slice (some ad) n.toNat n.toNat,.slice (some ⟨b2,cE,none⟩) m.toNat dy])=Builtin.append_ #[T,T] 0 #[.slice (some ad) n.toNat n.toNat,.slice (some ⟨b2,cE,none⟩) m.toNat dy]:=fun _=>rfl
    have hge:=grownCap_ge w (n.toNat+m.toNat) n.toNat E
    have hle:=grownCap_le_maxLen w (n.toNat+m.toNat) n.toNat E (by unfold maxLen;omega)
    have hE:(Ent.own (.slice (some ⟨w.heap.size,0,none⟩) (n.toNat+m.toNat) (grownCap w (n.toNat+m.toNat) n.toNat E)) s E (n+m) f).holds (w.drew.alloc (.cells ((cellsOf c (n.toNat*s)).toArray++(cellsOf d (m.toNat*s)).toArray++Builtin.zeroCells zv.cells (grownCap w (n.toNat+m.toNat) n.toNat E-(n.toNat+m.toNat))) E)):=by
      have hh:=heap_alloc_new w.drew (.cells ((cellsOf c (n.toNat*s)).toArray++(cellsOf d (m.toNat*s)).toArray++Builtin.zeroCells zv.cells (grownCap w (n.toNat+m.toNat) n.toNat E-(n.toNat+m.toNat))) E)
      refine⟨by omega,hnm,.inr ⟨w.heap.size,_,_,by rw [en],hh,by omega,hle,?_,fun k hk=> ?_⟩⟩
      · simp only [Array.size_append,List.size_toArray,ZQ]
        rw [size_zeroCells,hz,<-Nat.add_mul,<-Nat.add_mul];congr 1;omega
      · have e1:((n.toNat*s:Nat):Int)=n*s:=by rw [Int.natCast_mul,Int.toNat_of_nonneg hn0]
        have e2:((m.toNat*s:Nat):Int)=m*s:=by rw [Int.natCast_mul,Int.toNat_of_nonneg hm0]
        have e3:=Int.add_mul n m s
        rw [<-e k (by omega) hk]
        have hlt:k<n.toNat*s+m.toNat*s:=by omega
        rw [Array.getElem?_append_left (by simp only [Array.size_append,List.size_toArray,ZQ];exact hlt),Array.getElem?_append,List.size_toArray,ZQ,List.getElem?_toArray,List.getElem?_toArray]
        unfold cat
        by_cases hk2:k<n.toNat*s
        · rw [if_pos hk2,cellsOf_get,if_pos hk2,if_pos (by omega)]
        · rw [if_neg hk2,cellsOf_get,if_pos (by omega),if_neg (by omega)];congr 2;omega
    refine⟨_,_,fun ρ h=> ?_,hS.draw.alloc _ hE (fun g hg=> ?_),hE.row.slh⟩
    · simp [execOp,ho,resolve,invoke,builtin,h _ _ hx,h _ _ hy,hr',hr]
    · simp [Ent.has,Value.ownBlock] at hg;rw [<-hg];rfl
theorem ZcC(v:Value)(q:Nat):∀a len cp,Tp v q= .slice a len cp->cp=len:=fun a len cp e=>by
  unfold Tp at e
  split at e
  · cases e;rfl
  · rename_i h;exact absurd e (h _ _ _)
theorem Zjk{v u:Value}{s b:Nat}{n m r:Int}{c d f:Int->Value}{zv:Value}{q:Nat}(ht:ZJ P T=some (E,s))(he:Z0 P E=some (zv,s,b))(hS:Sat w0 w l)(hv:Row w (Tp v q) s n c)(hu:Row w u s m d)(h1c:∀k,0<=k->k<n*s->(c k).oneCell'=true)(h1:∀k,0<=k->k<m*s->(d k).oneCell'=true)
    (e:∀k,0<=k->k<(n+m)*s->cat (n*s) c d k=f k) (hr:r=n+m) (hm:0<m:=by omega) (hb:b*(n+m)<=140737488355328:=by omega) (hnm:n+m<=140737488355328:=by omega)
    (ho:o.op= .call {callee:= .builtin .append,args:= #[x,y],argTypes:= #[T,T]}:=by exact rfl) (hz:zv.cells.size=s:=by exact rfl) (hs:0<s:=by decide) (hx:evL L x=some (Tp v q):=by exact rfl) (hy:evL L y=some u:=by exact rfl):
    ∃q w',Runs P L w o (.value q) w'/\Sat w0 w' (l++ [.own q s E r f])/\Slh q r:=by
  subst hr;exact ZaY ho ht he hz hs hS hx hy hv (ZcC v q) hu hm h1c h1 hb hnm e
theorem Sat.pmrowsJ(h:Sat w0 w l)(i:Nat){n m:Int}{vv:Int->Value}{ln:Int->Int}{f:Int->Int->Int}{t:Int->Int}(ht:∀k,0<=k->k<m->0<=t k/\t k<n)(hj:∀j k,0<=j->j<m->0<=k->k<m->t j=t k->j=k)(hi:l[i]? =some (.sem (Frame.rows E n vv ln f)):=by exact rfl):
    Sat w0 w (l.set i (.sem (Frame.rows E m (fun k=>vv (t k)) (fun k=>ln (t k)) (fun k=>f (t k))))):=
  h.resem i hi (fun⟨h1,h2⟩=>⟨fun k k0 k1=>h1 (t k) (ht k k0 k1).1 (ht k k0 k1).2,fun a b a0 a1 b0 b1 hab g hg hg'=>h2 (t a) (t b) (ht a a0 a1).1 (ht a a0 a1).2 (ht b b0 b1).1 (ht b b0 b1).2 (fun e=>hab (hj a b a0 a1 b0 b1 e)) g hg hg'⟩)
    (fun g ⟨a,a0,a1,hg⟩=>⟨t a,(ht a a0 a1).1,(ht a a0 a1).2,hg⟩)
end
end Go.Proofs.Gw
namespace Go.Proofs.YtopmifmfecfaaaaGreat
open Go Go.RowKit Go.Proofs.Gw
variable {a i n:Int} {cnt ln s:Int->Int} {pt:Int->Int->Int} {l:Us}
theorem Zgq{vA vB:Value}{m:Int}{f g:Int->Int}(w0:World)(hA:Row w0 vA 1 n (ints f))(hB:Row w0 vB 1 m (ints g)):
    Calls Tryz.prog 108 [vA,vB].toArray w0 fun e w=>∃v,e= .returned v/\v=B (ahd (lst n f) (lst m g))/\Sat w0 w []:=by
  have hn:=hA.slh.n0;have hn1:=hA.slh.n1;have hm:=hB.slh.n0;have hm1:=hB.slh.n1
  refine Zm Tryz.func108 Tryz.ntmps108 fun w hS=> ?_
  refine zsr<|(zP)<|zx5<|(zP)<|zx6<|zlp (fun mm M w=>∃(i:Int),mm=((n-i).toNat)/\(0<=i)/\(i<=n)/\(i<=m)/\(∀k,0<=k->k<i->f k=g k)/\M= [(0,vA),(1,vB),(5,.int .i64 i)]/\Sat w0 w []) ⟨0,rfl,(by omega),(by omega),(by omega),?_,rfl,hS⟩ ?_
  ·
   intro k h0 h1;omega
  clear hS w
  rintro mm M w ⟨i,rfl,h0,h1,h2,qa,rfl,hS⟩
  refine zx11<|(zP)<|(zP)<|(zV (xln Zb hA.slh))<|(zP)<|(zP)<|zlb 10 ?_ ?_<;>intro hc
  ·
   refine(zP)<|(zP)<|(zV (xln Zb hB.slh))<|(zP)<|(zP)<|zlt<|Ze ?_ ?_<;>intro hc
   ·
    refine zx27<|zdst [] [] 1000 mx_ hS ?_;clear hS;intro w hS
    refine(zDw 0 xmv)<|(zDw 1 xmv)<|(zDw 2 (xix (kk:=i) Zb hA.slh))<|(zDl 3 (fun w hS=>(xlr (u:= .int .i64 (f i)) pl_3 (hA.below hS.below))))<|(zDw 4 xmv)<|(zDw 5 xmv)<|(zDw 6 (xix (kk:=i) Zb hB.slh))<|(zDl 7 (fun w hS=>(xlr (u:= .int .i64 (g i)) pl_3 (hB.below hS.below))))<|(zDw 8 YN)<|zdd<|ztn ?_
    refine Ze ?_ ?_<;>intro hc
    ·
     refine zsq<|zdst [] [] 1000 mx_ hS ?_;clear hS;intro w hS
     refine(zDw 0 xmv)<|(zDw 1 xmv)<|(zDw 2 (xix (kk:=i) Zb hA.slh))<|(zDl 3 (fun w hS=>(xlr (u:= .int .i64 (f i)) pl_3 (hA.below hS.below))))<|(zDw 4 xmv)<|(zDw 5 xmv)<|(zDw 6 (xix (kk:=i) Zb hB.slh))<|(zDl 7 (fun w hS=>(xlr (u:= .int .i64 (g i)) pl_3 (hB.below hS.below))))<|(zDw 8 Yr)<|(zDw 9 xas)<|zdd<|ztn<|zrt<|zbr<|ztr<|ztr<|zbr<|ztr<|zf1 ⟨_,rfl,?_⟩
     exact⟨ZA ⟨fun hh=>ahd_gt h0 (by omega) (by omega) qa hh,fun hh=>by
         apply Classical.byContradiction;intro h9
         exact ahd_asym hh (ahd_gt (n:=m) (m:=n) (f:=g) (g:=f) h0 (by omega) (by omega) (fun k k0 k1=>(qa k k0 k1).symm) (by omega))⟩,hS⟩
    refine zx4<|(zP)<|(zV (Zf (r:=i+1)))<|(zP)<|zln<|zlq ⟨i+1,rfl,(by omega),(by omega),(by omega),?_,rfl,hS⟩
    ·
     intro k h0' h1';rcases Int.lt_or_eq_of_le (show k<=i by omega) with hk|hk;exact qa k h0' hk;rw [hk];omega
   refine zx8<|(zP)<|(zV (xln Zb hA.slh))<|(zP)<|(zV (xln Zb hB.slh))<|(zV (xkt Yr))<|(zP)<|zx1<|zf1 ⟨_,rfl,?_⟩
   exact⟨ZU (WE (by omega) (by omega) (fun k k0 k1=>qa k k0 (by omega))),hS⟩
  iterate 4 refine zlo ?_
  refine(zP)<|zlt<|zcf<|zxt<|ztx<|ztx<|zbh<|ztn<|zsr ?_
  refine(zP)<|(zV (xln Zb hA.slh))<|(zP)<|(zV (xln Zb hB.slh))<|(zP)<|(zP)<|zx1<|zf1 ⟨_,rfl,?_⟩
  exact⟨ZA ⟨fun hh=>WE (by omega) hh (fun k k0 k1=>qa k k0 (by omega)),fun hh=>by
      apply Classical.byContradiction;intro h9
      by_cases e:n=m
      · subst e;exact Zaz (fun k k0 k1=>qa k k0 (by omega)) hh
      · exact ahd_asym hh (WE (n:=m) (m:=n) (f:=g) (g:=f) (by omega) (by omega) (fun k k0 k1=>(qa k k0 (by omega)).symm))⟩,hS⟩
def Xc(s:Int->Int)(a i:Int):Int->Int:=fun k=>if k<a then s k else if k=a then i else s (k-1)
theorem ZbK{k:Int}(h:k<a):Xc s a i k=s k:=if_pos h
theorem ZbM(s:Int->Int)(a i:Int):Xc s a i a=i:=by unfold Xc;rw [if_neg (by omega),if_pos rfl]
theorem ZbL{k:Int}(h:a<k):Xc s a i k=s (k-1):=by unfold Xc;rw [if_neg (by omega),if_neg (by omega)]
theorem Xf(s:Int->Int)(a i k:Int):(k<a/\Xc s a i k=s k)\/(k=a/\Xc s a i k=i)\/(a<k/\Xc s a i k=s (k-1)):=by
  rcases Int.lt_trichotomy k a with h|h|h
  · exact .inl ⟨h,ZbK h⟩
  · exact .inr (.inl ⟨h,by rw [h];exact ZbM s a i⟩)
  · exact .inr (.inr ⟨h,ZbL h⟩)
theorem K1(a0:0<=a)(a1:a<=i)(h:∀k,0<=k->k<i->0<=s k/\s k<i):∀k,0<=k->k<i+1->0<=Xc s a i k/\Xc s a i k<i+1:=fun k k0 k1=>by
  rcases Xf s a i k with⟨h1,e⟩|⟨h1,e⟩|⟨h1,e⟩<;>rw [e]
  · have:=h k k0 (by omega);omega
  · omega
  · have:=h (k-1) (by omega) (by omega);omega
theorem K7(a0:0<=a)(a1:a<=i)(h:∀k,0<=k->k<i->0<=s k/\s k<i)(hj:∀j k,0<=j->j<i->0<=k->k<i->s j=s k->j=k):∀j k,0<=j->j<i+1->0<=k->k<i+1->Xc s a i j=Xc s a i k->j=k:=fun j k j0 j1 k0 k1 e=>by
  rcases Xf s a i j with⟨h1,e1⟩|⟨h1,e1⟩|⟨h1,e1⟩<;>rcases Xf s a i k with⟨h2,e2⟩|⟨h2,e2⟩|⟨h2,e2⟩<;>rw [e1,e2] at e
  · exact hj j k j0 (by omega) k0 (by omega) e
  · have:=h j j0 (by omega);omega
  · have:=hj j (k-1) j0 (by omega) (by omega) (by omega) e;omega
  · have:=h k k0 (by omega);omega
  · omega
  · have:=h (k-1) (by omega) (by omega);omega
  · have:=hj (j-1) k (by omega) (by omega) k0 (by omega) e;omega
  · have:=h (j-1) (by omega) (by omega);omega
  · have:=hj (j-1) (k-1) (by omega) (by omega) (by omega) (by omega) e;omega
theorem Zdr{R:Int->Int->Prop}(a0:0<=a)(a1:a<=i)(hs:Srt R 0 i s)(hl:∀k,0<=k->k<a->R (s k) i)(hg:∀k,a<=k->k<i->R i (s k)):Srt R 0 (i+1) (Xc s a i):=fun j k j0 jk k1=>by
  rcases Xf s a i j with⟨h1,e1⟩|⟨h1,e1⟩|⟨h1,e1⟩<;>rcases Xf s a i k with⟨h2,e2⟩|⟨h2,e2⟩|⟨h2,e2⟩<;>rw [e1,e2]
  · exact hs j k j0 jk (by omega)
  · exact hl j j0 h1
  · exact hs j (k-1) j0 (by omega) (by omega)
  · omega
  · omega
  · exact hg (k-1) (by omega) (by omega)
  · omega
  · omega
  · exact hs (j-1) (k-1) (by omega) (by omega) (by omega)
theorem Zfm(a0:0<=a)(a1:a<=i):plL (i+1) (fun k=>ln (Xc s a i k)) (fun k=>pt (Xc s a i k)) (fun k=>cnt (Xc s a i k))=
    (plL i (fun k=>ln (s k)) (fun k=>pt (s k)) (fun k=>cnt (s k))).take a.toNat++(lst (ln i) (pt i),cnt i)::(plL i (fun k=>ln (s k)) (fun k=>pt (s k)) (fun k=>cnt (s k))).drop a.toNat:=by
  have yc:((plL i (fun k=>ln (s k)) (fun k=>pt (s k)) (fun k=>cnt (s k))).take a.toNat).length=a.toNat:=by rw [List.length_take,plL_len];omega
  apply List.ext_getElem?
  intro k
  rw [plL_get,List.getElem?_append,yc]
  rcases Xf s a i k with⟨h,e⟩|⟨h,e⟩|⟨h,e⟩
  · rw [if_pos (by omega),if_pos (by omega),List.getElem?_take,if_pos (by omega),plL_get,if_pos (by omega),e]
  · rw [if_pos (by omega),if_neg (by omega),show k-a.toNat=0 by omega,List.getElem?_cons_zero,e]
  · rw [if_neg (show¬k<a.toNat by omega)]
    obtain⟨q,hq⟩:∃q,k-a.toNat=q+1:=⟨k-a.toNat-1,by omega⟩
    rw [hq,List.getElem?_cons_succ,List.getElem?_drop,plL_get,e,show((a.toNat+q:Nat):Int)=(k:Int)-1 by omega]
    by_cases hk:(k:Int)<i+1
    · rw [if_pos hk,if_pos (by omega)]
    · rw [if_neg hk,if_neg (by omega)]
theorem KF(a0:0<=a)(a1:a<=i)(h:(plL i (fun k=>ln (s k)) (fun k=>pt (s k)) (fun k=>cnt (s k))).Perm (plL i ln pt cnt)):
    (plL (i+1) (fun k=>ln (Xc s a i k)) (fun k=>pt (Xc s a i k)) (fun k=>cnt (Xc s a i k))).Perm (plL (i+1) ln pt cnt):=by
  rw [Zfm a0 a1,XE (by omega)]
  refine List.perm_middle.trans ?_
  rw [List.take_append_drop]
  exact(List.Perm.cons _ h).trans (List.perm_append_singleton _ _).symm
theorem Zbs(hs:plL n ln pt cnt=XR l){x y:Int}(x0:0<=x)(x1:x<n)(y0:0<=y)(y1:y<n)(h:x≠y):lst (ln x) (pt x)≠lst (ln y) (pt y):=by
  have hd:=TK l
  rw [<-hs,List.pairwise_iff_getElem] at hd
  have gg:∀(k:Int) (k0:0<=k) (hk:k<n),∃h:k.toNat<(plL n ln pt cnt).length,(plL n ln pt cnt)[k.toNat]=(lst (ln k) (pt k),cnt k):=fun k k0 hk=>by
    have h1:=plL_get n ln pt cnt k.toNat
    have h3:k.toNat<(plL n ln pt cnt).length:=by rw [plL_len];omega
    rw [Int.toNat_of_nonneg k0,if_pos hk,List.getElem?_eq_getElem h3] at h1
    exact⟨h3,by injection h1⟩
  obtain⟨ha,ea⟩:=gg x x0 x1
  obtain⟨hb,eb⟩:=gg y y0 y1
  rcases Int.lt_or_gt_of_ne h with h3|h3
  · have:=hd x.toNat y.toNat ha hb (by omega);rw [ea,eb] at this;exact this
  · have:=hd y.toNat x.toNat hb ha (by omega);rw [ea,eb] at this;exact fun e=>this e.symm
abbrev ZaD(ln:Int->Int)(pt:Int->Int->Int):Int->Int->Prop:=fun x y=>ahd (lst (ln x) (pt x)) (lst (ln y) (pt y))
theorem K0(hs:plL n ln pt cnt=XR l)(i1:i<n)(a0:0<=a)(a1:a<=i)(hr:∀k,0<=k->k<i->0<=s k/\s k<i)(ho:Srt (ZaD ln pt) 0 i s)
    (h1:a=0\/¬ZaD ln pt i (s (a-1))) (h2:∀k,a<=k->k<i->ZaD ln pt i (s k)):Srt (ZaD ln pt) 0 (i+1) (Xc s a i):=by
  refine Zdr a0 a1 ho (fun k k0 k1=> ?_) h2
  have hr1:=hr (a-1) (by omega) (by omega)
  have h3:ZaD ln pt (s (a-1)) i:=by
    rcases h1 with h1|h1
    · omega
    · rcases Kh (Zbs hs (x:=i) (y:=s (a-1)) (by omega) i1 hr1.1 (by omega) (by omega)) with h|h
      · exact absurd h h1
      · exact h
  by_cases e:k=a-1
  · rw [e];exact h3
  · exact WW (ho k (a-1) k0 (by omega) (by omega)) h3
theorem NormR.of_ins(hs:plL n ln pt cnt=XR l)(hp:(plL n (fun k=>ln (s k)) (fun k=>pt (s k)) (fun k=>cnt (s k))).Perm (plL n ln pt cnt))(ho:Srt (ZaD ln pt) 0 n s):
    NormR l (plL n (fun k=>ln (s k)) (fun k=>pt (s k)) (fun k=>cnt (s k))):=by
  refine⟨by rw [<-hs];exact hp,?_⟩
  rw [List.pairwise_iff_getElem]
  intro i j hi hj hij
  rw [plL_len] at hi hj
  have g:∀(k:Nat) (hk:k<(plL n (fun k=>ln (s k)) (fun k=>pt (s k)) (fun k=>cnt (s k))).length),(plL n (fun k=>ln (s k)) (fun k=>pt (s k)) (fun k=>cnt (s k)))[k]=(lst (ln (s k)) (pt (s k)),cnt (s k)):=fun k hk=>by
    have h1:=plL_get n (fun k=>ln (s k)) (fun k=>pt (s k)) (fun k=>cnt (s k)) k
    rw [plL_len] at hk
    rw [if_pos (by omega),List.getElem?_eq_getElem (by rw [plL_len];exact hk)] at h1
    injection h1
  rw [g,g]
  exact ho i j (by omega) (by omega) (by omega)
theorem T2{pv:Int->Value}(a0:0<=a)(a1:a<=i):∀k,0<=k->k<(i+1)*2->cat (a*2) (Zd (fun q=>pv (s q)) (fun q=>cnt (s q))) (cat (1*2) (Zd (fun _=>pv i) (fun _=>cnt i)) (fun k=>Zd (fun q=>pv (s q)) (fun q=>cnt (s q)) (k+a*2))) k=Zd (fun q=>pv (Xc s a i q)) (fun q=>cnt (Xc s a i q)) k:=fun k k0 k1=>by
  unfold cat Zd
  dsimp only
  by_cases h1:k<a*2
  · rw [if_pos h1,ZbK (show k/2<a by omega)]
  · rw [if_neg h1]
    by_cases h2:k-a*2<1*2
    · rw [if_pos h2,show k/2=a by omega,ZbM]
      by_cases h3:k%2=0
      · rw [if_pos h3,if_pos (show(k-a*2)%2=0 by omega)]
      · rw [if_neg h3,if_neg (show¬(k-a*2)%2=0 by omega)]
    · rw [if_neg h2,ZbL (show a<k/2 by omega),show(k-a*2-1*2+a*2)/2=k/2-1 by omega,show(k-a*2-1*2+a*2)%2=k%2 by omega]
theorem KL{r:Int}{lO:Int->Int}{gO:Int->Int->Int}{cO:Int->Int}(hs:plL n lO gO cO=XR l)(r0:0<=r)(r1:r<n)(e:lst (ln i) (pt i)=lst (lO r) (gO r)):∀k,0<=k->k<r->¬(lst (ln i) (pt i)=lst (lO k) (gO k)):=fun k k0 k1 h=>
  Zbs hs k0 (by omega) r0 r1 (by omega) (h.symm.trans e)
theorem Zb2{f g:Int->Value}(hf:∀k,(f k).oneCell'=true)(hg:∀k,(g k).oneCell'=true):∀k,(cat n f g k).oneCell'=true:=fun k=>by
  unfold cat;split
  · exact hf k
  · exact hg _
end Go.Proofs.YtopmifmfecfaaaaGreat
namespace Go.Proofs.YtopmifmfecfaaaaGreat
open Go Go.RowKit Go.Proofs.Gw
theorem ZiB:Zc Tryz.prog 108=true:=by kernel_rfl
theorem UR:ZF Tryz.prog 100=some 2:=by kernel_rfl
theorem Vw{n m:Int}{f g:Int->Int}(n0:0<=n)(m0:0<=m):(n=m/\∀k,0<=k->k<n->f k=g k)↔lst m g=lst n f:=by
  rw [eq_comm (a:=lst m g)];exact(Wx n0 m0).symm
theorem TW{nO i q:Int}{lO ln cO cnt:Int->Int}{gO pt:Int->Int->Int}(n0:0<=nO)(i0:0<=i)(hs:plL nO lO gO cO=XR (plL i ln pt cnt))(hq:q=nO)(hne:∀k,0<=k->k<nO->¬(lst (ln i) (pt i)=lst (lO k) (gO k))):
    plL (nO+1) (gsn lO nO (ln i)) (gsn gO nO (pt i)) (upd (snoc cO nO 0) q (snoc cO nO 0 q+cnt i))=XR (plL (i+1) ln pt cnt):=by
  subst hq
  rw [<-U2 n0 i0 hs hne]
  refine WO fun k k0 k1=>⟨rfl,?_,fun _ _ _=>rfl⟩
  unfold upd
  by_cases e:k=q
  · rw [if_pos e,Zk (by omega),e,Zk (by omega)];omega
  · rw [if_neg e,Zl (by omega),Zl (by omega)]
theorem ZbE{cC:Int->Int}{nC B C x q:Int}(h:∀k,0<=k->k<nC->1<=cC k/\cC k<=B)(hq:q=nC)(hB:B<=C)(x1:1<=x)(x2:x<=C):∀k,0<=k->k<nC+1->1<=upd (snoc cC nC 0) q (snoc cC nC 0 q+x) k/\upd (snoc cC nC 0) q (snoc cC nC 0 q+x) k<=C:=fun k k0 k1=>by
  subst hq
  unfold upd
  by_cases e:k=q
  · rw [if_pos e,Zk (by omega)];omega
  · rw [if_neg e,Zl (by omega)];have:=h k k0 (by omega);omega
theorem R9 {vV:Value} {u:Int} {pv:Int->Value} {ln:Int->Int} {pt:Int->Int->Int} {cnt:Int->Int} (w0:World) (hV:VAt w0 vV u pv ln pt cnt) (hn5:u<=1000000) (hlc:∀k,0<=k->k<u->ln k<=100000) (hpc:∀k,0<=k->k<u->1<=cnt k/\cnt k<=1000):
    Calls Tryz.prog 74 [vV].toArray w0 fun e w=>∃v,e= .returned v/\∃r n2 pv2 ln2 pt2 cnt2,v=r/\NormR (plL u ln pt cnt) (plL n2 ln2 pt2 cnt2)/\0<=n2/\n2<=u/\(∀k,0<=k->k<n2->1<=cnt2 k/\cnt2 k<=1000*u)/\Slh r n2/\Sat w0 w [.own r 2 100 n2 (Zd pv2 cnt2),.sem (Frame.rows 3 n2 pv2 ln2 pt2)]:=by
  have hn:=hV.row.slh.n0;have hn1:=hV.row.slh.n1
  refine Zm Tryz.func74 Tryz.ntmps74 fun w hS=> ?_
  refine zsr<|(zP)<|zlz<|(zP)<|(zP)<|zx5<|(zP)<|zx6 ?_
  replace hS:=hS.addnil 2 100 (Zd (fun _=>Value.slice none 0 0) (fun _=>0))
  replace hS:=hS.addrows 3 (fun _=>Value.slice none 0 0) (fun _=>0) (fun _ _=>0)
  have yw:=fun k (k0:0<=k) (k1:k<0)=>hS.slhIn 1 rfl k0 k1
  refine zlp (fun mm M w=>∃(nC:Int) (wv:Int->Value) (lC:Int->Int) (gC:Int->Int->Int) (cC:Int->Int) (i:Int) (wcS:Value),mm=((u-i).toNat)/\(0<=i)/\(i<=u)/\(0<=nC/\nC<=i)/\(plL nC lC gC cC=XR (plL i ln pt cnt))/\(∀k,0<=k->k<nC->1<=cC k/\cC k<=1000*i)/\(∀x,(wv x).oneCell'=true)/\(Slh wcS nC)/\M= [(0,vV),(2,.slice none 0 0),(3,wcS),(4,.slice none 0 0),(5,.int .i64 i)]/\Sat w0 w [.own wcS 2 100 nC (Zd wv cC),.sem (Frame.rows 3 nC wv lC gC)]) ⟨0,(fun _=>Value.slice none 0 0),(fun _=>0),(fun _ _=>0),(fun _=>0),0,(.slice none 0 0),rfl,(by omega),(by omega),(by omega),?_,?_,?_,?_,rfl,hS⟩ ?_
  ·
   rfl
  ·
   intro k k0 k1;omega
  ·
   intro x;rfl
  ·
   exact slh_nil
  clear hS w
  rintro mm M w ⟨nC,wv,lC,gC,cC,i,wcS,rfl,h0,h1,hnC,hs,hbc,qk,xZ,rfl,hS⟩
  have qN:=fun k (k0:0<=k) (k1:k<nC)=>hS.slhIn 1 rfl k0 k1
  have zo:=hnC.1
  refine zx11<|(zP)<|(zP)<|(zV (xln Zv hV.row.slh))<|(zP)<|zlt<|Ze ?_ ?_<;>intro hc
  ·
   refine zx3<|(zP)<|zlv (xln Zv xZ) ?_
   have hci:=hpc i h0 (by omega)
   have hli:=hlc i h0 (by omega)
   have bP:=(hV.p i h0 (by omega)).slh.n0
   refine(zP)<|zx5<|(zP)<|zx6<|zlp (fun mm M w=>∃(at6:Int) (k:Int),mm=((nC-k).toNat)/\(0<=k)/\(k<=nC)/\((at6=nC/\∀j,0<=j->j<k->¬(lst (ln i) (pt i)=lst (lC j) (gC j)))\/(0<=at6/\at6<nC/\lst (ln i) (pt i)=lst (lC at6) (gC at6)))/\M= [(0,vV),(2,.slice none 0 0),(3,wcS),(4,.slice none 0 0),(5,.int .i64 i),(6,.int .i64 at6),(7,.int .i64 k)]/\Sat w0 w [.own wcS 2 100 nC (Zd wv cC),.sem (Frame.rows 3 nC wv lC gC)]) ⟨nC,0,rfl,(by omega),(by omega),?_,rfl,hS⟩ ?_
   ·
    exact .inl ⟨rfl,fun j j0 j1=>by omega⟩
   clear hS w
   rintro mm M w ⟨at6,k,rfl,k0,k1,hat,rfl,hS⟩
   refine zx11<|(zP)<|(zP)<|(zV (xln Zv xZ))<|(zP)<|zlt<|Ze ?_ ?_<;>intro hc
   ·
    refine zx27<|zdst [0,1] [0,1] 1000 mx_ hS ?_;clear hS;intro w hS
    refine(zDw 0 xmv)<|(zDw 1 xmv)<|zDrv 2 (xix (kk:=2*k) Zv xZ) ?_
    have hsk:=(qN k k0 (by omega)).n0
    refine(zDw 3 (xfc (kk:=2*k) Yp xZ))<|(zDl 4 (fun w hS=>(xlr (u:=(wv k)) pl_22 (hS.rowN 0 rfl) (e:=(Yu wv cC (by omega))))))<|(zDw 5 xmv)<|(zDw 6 xmv)<|(zDw 7 (xix (kk:=2*i) Zv hV.row.slh))<|(zDw 8 (xfc (kk:=2*i) Yp hV.row.slh))<|(zDl 9 (fun w hS=>(xlr (u:=(pv i)) pl_22 (hV.row.below hS.below) (e:=(Yu pv cnt (by omega))))))<|zdc 10 (xc0 Zb1) (VI (n:=(lC k)) (m:=(ln i)) (f:=(gC k)) (g:=(pt i)) w (hS.rowIn (k:=k) 1 rfl (by omega) (by omega)) ((hV.p i (by omega) (by omega)).below hS.below)) ?_;rintro _ w ⟨rfl,hS'⟩
    replace hS:=hS.cmp hS';clear hS'
    refine⟨⟨fun _=>hS,hS⟩,?_⟩
    refine zdd<|ztn ?_
    refine Ze ?_ ?_<;>intro hc
    ·
     refine zrg<|(zP)<|(zP)<|zx10<|(zP)<|(zV (Zf (r:=k+1)))<|(zP)<|zln<|zlq ⟨k,k+1,rfl,(by omega),(by omega),?_,rfl,hS⟩
     ·
      first|exact .inr ⟨k0,by omega,(Vw hsk bP).1 ‹_›⟩|(rcases hat with⟨q1,q2⟩|q;exact .inl ⟨q1,fun j j0 j1=>by
        rcases Int.lt_or_eq_of_le (show j<=k by omega) with h9|h9
        · exact q2 j j0 h9
        · rw [h9];exact fun hh=>absurd ((Vw hsk bP).2 hh) ‹_›⟩;exact .inr q)
    refine zx4<|(zP)<|(zV (Zf (r:=k+1)))<|(zP)<|zln<|zlq ⟨at6,k+1,rfl,(by omega),(by omega),?_,rfl,hS⟩
    ·
     first|exact .inr ⟨k0,by omega,(Vw hsk bP).1 ‹_›⟩|(rcases hat with⟨q1,q2⟩|q;exact .inl ⟨q1,fun j j0 j1=>by
       rcases Int.lt_or_eq_of_le (show j<=k by omega) with h9|h9
       · exact q2 j j0 h9
       · rw [h9];exact fun hh=>absurd ((Vw hsk bP).2 hh) ‹_›⟩;exact .inr q)
   refine zx18<|(zP)<|(zP)<|(zV (xln Zv xZ))<|(zP)<|zlt<|Ze ?_ ?_<;>intro hc
   ·
    refine zrg<|(zP)<|zla (xl0 (c:=ints (pt i)) Zb hS) ?_;rintro v1 w ⟨hS,hv1⟩
    refine(zP)<|(zP)<|(zV (xix (kk:=2*i) Zv hV.row.slh))<|(zV (xfc (kk:=2*i) Yp hV.row.slh))<|(zV (xlr (u:=(pv i)) pl_22 (hV.row.below hS.below) (e:=(Yu pv cnt (by omega)))))<|zla (xap 2 (r:=(ln i)) (f:=ints (pt i)) Zb Zn hS ((hV.p i (by omega) (by omega)).below hS.below) (by exact XG _ _)) ?_;rintro v2 w ⟨hS,hv2⟩
    refine zlv (xany (v:= .agg #[v2,.int .i64 0]) (hr:=by obtain⟨_,_,_,_,rfl,_⟩:=hv2;kernel_rfl)) ?_
    refine zla (xli (n:=1) (len:=1) (pv:= [(0,.agg #[v2,.int .i64 0])]) (cs:= [v2,.int .i64 0]) (c:=Zd (fun _=>v2) (fun _=>0)) Zv Yq hS (hf:=by obtain⟨_,_,_,_,rfl,_⟩:=hv2;kernel_rfl)) ?_;rintro v3 w ⟨hS,hv3⟩
    refine zla (xap 0 (r:=nC+1) Zv Yq hS (hS.rowN 3 rfl) (Yb _ _ _ _ _) (h1:=fun k _ _=>ZG (fun _=>hv2.one) k)) ?_;rintro v4 w ⟨hS,hv4⟩
    replace hS:=Sat.merge (l1:= [_]) (l2:= []) (l3:= [_]) hS (by omega)
    have xe:=fun k (k0:0<=k) (k1:k<nC+1)=>hS.slhIn 1 rfl k0 k1
    refine(zP)<|zlt<|zdst [0,1,2] [1,2] 13 mx_ hS ?_;clear hS;intro w hS
    refine(zDw 0 xmv)<|(zDw 1 xmv)<|zDrv 2 (xix (kk:=2*at6) Zv hv4) ?_
    have hbr:at6<nC->1<=cC at6/\cC at6<=1000*i:=fun h=>hbc at6 (by omega) h
    have f5:at6=nC->snoc cC nC 0 at6=0:=fun h=>Zk (by omega)
    refine(zDw 3 (xfc (kk:=2*at6+1) Yf hv4))<|zdl 4 (fun w hS=>(xlr (u:= .int .i64 ((snoc cC nC 0) at6)) pl_3 (hS.rowN 0 rfl) (e:=(Yt (gsn wv nC v2) (snoc cC nC 0) (by omega))))) ?_
    refine(zDw 5 xmv)<|(zDw 6 xmv)<|(zDw 7 (xix (kk:=2*i) Zv hV.row.slh))<|(zDw 8 (xfc (kk:=2*i+1) Yf hV.row.slh))<|(zDl 9 (fun w hS=>(xlr (u:= .int .i64 (cnt i)) pl_3 (hV.row.below hS.below) (e:=(Yt pv cnt (by omega))))))<|(zDw 10 (Zf (r:=((snoc cC nC 0) at6)+(cnt i))))<|(zDw 11 (xix (kk:=2*at6) Zv hv4))<|(zDw 12 (xfc (kk:=2*at6+1) Yf hv4))<|zde 13 (xso 0 pl_3 hS (Wu (k:=2*at6+1) (i:=at6) _ _ (by omega))) ?_;clear hS;rintro w hS
    refine⟨⟨fun h=>absurd h (by decide),hS.pk [1,2]⟩,?_⟩
    refine zdd<|zbn<|ztn<|zrg ?_
    refine(zP)<|(zV (Zf (r:=i+1)))<|(zP)<|zln<|zlq ⟨nC+1,gsn wv nC v2,gsn lC nC (ln i),gsn gC nC (pt i),(upd (snoc cC nC 0) at6 (((snoc cC nC 0) at6)+(cnt i))),i+1,v4,rfl,(by omega),(by omega),(by omega),?_,?_,?_,?_,rfl,hS.pk [0,1]⟩
    ·
     first|exact TW zo h0 hs (by omega) (fun j j0 j1=>(hat.resolve_right (fun h=>absurd h.2.1 (by omega))).2 j j0 (by omega))|(have hr9:=hat.resolve_left (fun h=>absurd h.1 (by omega));exact Uy h0 hs hr9.1 hr9.2.1 hr9.2.2 (KL hs hr9.1 hr9.2.1 hr9.2.2))
    ·
     first|exact ZbE hbc (by omega) (by omega) (by omega) (by omega)|exact ZbF hbc (by omega) (by omega) (by omega)
    ·
     first|exact qk|exact XO qk ‹Slh _ _›.one
    ·
     exact hv4
   refine zsk<|ztn<|zdst [0,1] [1] 13 mx_ hS ?_;clear hS;intro w hS
   refine(zDw 0 xmv)<|(zDw 1 xmv)<|zDrv 2 (xix (kk:=2*at6) Zv xZ) ?_
   have hbr:at6<nC->1<=cC at6/\cC at6<=1000*i:=fun h=>hbc at6 (by omega) h
   have f5:at6=nC->snoc cC nC 0 at6=0:=fun h=>Zk (by omega)
   refine(zDw 3 (xfc (kk:=2*at6+1) Yf xZ))<|zdl 4 (fun w hS=>(xlr (u:= .int .i64 (cC at6)) pl_3 (hS.rowN 0 rfl) (e:=(Yt wv cC (by omega))))) ?_
   refine(zDw 5 xmv)<|(zDw 6 xmv)<|(zDw 7 (xix (kk:=2*i) Zv hV.row.slh))<|(zDw 8 (xfc (kk:=2*i+1) Yf hV.row.slh))<|(zDl 9 (fun w hS=>(xlr (u:= .int .i64 (cnt i)) pl_3 (hV.row.below hS.below) (e:=(Yt pv cnt (by omega))))))<|(zDw 10 (Zf (r:=(cC at6)+(cnt i))))<|(zDw 11 (xix (kk:=2*at6) Zv xZ))<|(zDw 12 (xfc (kk:=2*at6+1) Yf xZ))<|zde 13 (xso 0 pl_3 hS (Wu (k:=2*at6+1) (i:=at6) _ _ (by omega))) ?_;clear hS;rintro w hS
   refine⟨⟨fun h=>absurd h (by decide),hS.pk [1]⟩,?_⟩
   refine zdd<|zbn<|ztn<|zrg ?_
   refine(zP)<|(zV (Zf (r:=i+1)))<|(zP)<|zln<|zlq ⟨nC,wv,lC,gC,(upd cC at6 ((cC at6)+(cnt i))),i+1,wcS,rfl,(by omega),(by omega),(by omega),?_,?_,?_,?_,rfl,hS⟩
   ·
    first|exact TW zo h0 hs (by omega) (fun j j0 j1=>(hat.resolve_right (fun h=>absurd h.2.1 (by omega))).2 j j0 (by omega))|(have hr9:=hat.resolve_left (fun h=>absurd h.1 (by omega));exact Uy h0 hs hr9.1 hr9.2.1 hr9.2.2 (KL hs hr9.1 hr9.2.1 hr9.2.2))
   ·
    first|exact ZbE hbc (by omega) (by omega) (by omega) (by omega)|exact ZbF hbc (by omega) (by omega) (by omega)
   ·
    first|exact qk|exact XO qk ‹Slh _ _›.one
   ·
    exact xZ
  refine zx18<|(zP)<|zx6 ?_
  have hiu:i=u:=by omega
  rw [hiu] at hs hbc
  replace hS:=hS.addnil 2 100 (Zd (fun q=>wv ((fun _=>(0:Int)) q)) (fun q=>cC ((fun _=>(0:Int)) q)))
  refine zlp (fun mm M w=>∃(s3:Int->Int) (i3:Int) (wO:Value),mm=((nC-i3).toNat)/\(0<=i3)/\(i3<=nC)/\(∀k,0<=k->k<i3->0<=s3 k/\s3 k<i3)/\(∀j k,0<=j->j<i3->0<=k->k<i3->s3 j=s3 k->j=k)/\(Srt (ZaD lC gC) 0 i3 s3)/\((plL i3 (fun k=>lC (s3 k)) (fun k=>gC (s3 k)) (fun k=>cC (s3 k))).Perm (plL i3 lC gC cC))/\(Slh wO i3)/\M= [(2,.slice none 0 0),(3,wcS),(4,wO),(8,.int .i64 i3)]/\Sat w0 w [.own wcS 2 100 nC (Zd wv cC),.sem (Frame.rows 3 nC wv lC gC),.own wO 2 100 i3 (Zd (fun q=>wv (s3 q)) (fun q=>cC (s3 q)))]) ⟨(fun _=>(0:Int)),0,(.slice none 0 0),rfl,(by omega),(by omega),?_,?_,?_,?_,?_,rfl,hS⟩ ?_
  ·
   intro k k0 k1;omega
  ·
   intro j k j0 j1;omega
  ·
   intro i j i0 ij j1;omega
  ·
   exact List.Perm.refl _
  ·
   exact slh_nil
  clear hS w
  rintro mm M w ⟨s3,i3,wO,rfl,i30,i31,hr3,hj3,ho3,hp3,hwO,rfl,hS⟩
  refine zx11<|(zP)<|(zP)<|(zV (xln Zv xZ))<|(zP)<|zlt<|Ze ?_ ?_<;>intro hc
  ·
   refine zsk<|ztn<|zsq<|zbk<|zsq<|zsr<|(zP)<|(zP)<|zlv (xix (kk:=2*i3) Zv xZ) ?_
   have hb3:=hbc i3 i30 (by omega)
   refine(zV (xfc (kk:=2*i3+1) Yf xZ))<|(zV (xlr (u:= .int .i64 (cC i3)) pl_3 (hS.rowN 0 rfl) (e:=(Yt wv cC (by omega)))))<|(zV (xkf ZZ))<|zlt<|zcf<|zsk<|ztn<|zsr ?_
   refine(zP)<|(zV (xln Zv hwO))<|(zP)<|zlt<|zsq<|zbk<|zlp (fun mm M w=>∃(a4:Int),mm=((a4).toNat)/\(0<=a4)/\(a4<=i3)/\(∀k,a4<=k->k<i3->ZaD lC gC i3 (s3 k))/\M= [(2,.slice none 0 0),(3,wcS),(4,wO),(8,.int .i64 i3),(9,.int .i64 a4)]/\Sat w0 w [.own wcS 2 100 nC (Zd wv cC),.sem (Frame.rows 3 nC wv lC gC),.own wO 2 100 i3 (Zd (fun q=>wv (s3 q)) (fun q=>cC (s3 q)))]) ⟨i3,rfl,(by omega),(by omega),?_,rfl,hS⟩ ?_
   ·
    intro k k0 k1;omega
   clear hS w
   rintro mm M w ⟨a4,rfl,a40,a41,ha4,rfl,hS⟩
   refine zsq<|zsq<|zdst [0,1,2] [0,1,2] 1000 mx_ hS ?_;clear hS;intro w hS
   refine(zDw 0 xmv)<|(zDw 1 Yr)<|(zDw 2 xmv)<|zdb 80 ?_ ?_<;>intro hc
   ·
    refine(zDw 3 xmv)<|(zDw 4 xmv)<|(zDw 5 (xix (kk:=2*i3) Zv xZ))<|(zDw 6 (xfc (kk:=2*i3) Yp xZ))<|(zDl 7 (fun w hS=>(xlr (u:=(wv i3)) pl_22 (hS.rowN 0 rfl) (e:=(Yu wv cC (by omega))))))<|(zDw 8 xmv)<|(zDw 9 xmv)<|zDrv 10 (ZD (r:=a4-1)) ?_
    have hr4:=hr3 (a4-1) (by omega) (by omega)
    refine(zDw 11 (xix (kk:=2*a4-2) Zv hwO))<|(zDw 12 (xfc (kk:=2*a4-2) Yp hwO))<|(zDl 13 (fun w hS=>(xlr (u:=(wv (s3 (a4-1)))) pl_22 (hS.rowN 2 rfl) (e:=(Yu (fun q=>wv (s3 q)) (fun q=>cC (s3 q)) (by omega))))))<|zdc 14 (xc0 ZiB) (Zgq (n:=(lC i3)) (f:=(gC i3)) (m:=(lC (s3 (a4-1)))) (g:=(gC (s3 (a4-1)))) w (hS.rowIn (k:=i3) 1 rfl (by omega) (by omega)) (hS.rowIn (k:=(s3 (a4-1))) 1 rfl (by omega) (by omega))) ?_;rintro _ w ⟨rfl,hS'⟩
    replace hS:=hS.cmp hS';clear hS'
    refine⟨⟨fun _=>hS,hS⟩,?_⟩
    refine(zDw 15 xpt)<|zdd<|ztn ?_
    refine Ze ?_ ?_<;>intro hc
    ·
     refine zsk<|ztn<|zbk<|zrg<|(zP)<|(zV (ZD (r:=a4-1)))<|(zP)<|zln<|zbn<|zlq ⟨a4-1,rfl,(by omega),(by omega),?_,rfl,hS⟩
     ·
      intro k k0 k1;rcases Int.lt_or_eq_of_le (show a4-1<=k by omega) with h9|h9
      · exact ha4 k (by omega) k1
      · rw [<-h9];assumption
    refine zxt<|ztx<|ztx<|zbh<|ztn<|zdst [0,1,2] [0,1,2] 1000 mx_ hS ?_;clear hS;intro w hS
    refine(zDw 0 xmv)<|(zDw 1 xmv)<|(zDw 2 xmv)<|(zDw 3 (Zbo (i:=a4) (a4).toNat Zv hwO (hS.holds _ (List.mem_of_getElem? (i:=2) rfl)).roomy (hS.holds _ (List.mem_of_getElem? (i:=2) rfl)).flat))<|(zDw 4 xmv)<|(zDw 5 xmv)<|(zDw 6 (xix (kk:=2*i3) Zv xZ))<|(zDl 7 (fun w hS=>(xlw (cs:= [(wv i3),.int .i64 (cC i3)]) UR (hS.rowN 0 rfl) (ZB (k:=2*i3) (i:=i3) wv cC (by omega)))))<|(zDw 9 xmv)<|(zDw 10 xmv)<|(zDw 11 (Zbn (i:=a4) (a4).toNat Zv hwO (hS.holds _ (List.mem_of_getElem? (i:=2) rfl)).flat))<|zda 8 (xli (n:=1) (len:=1) (pv:= [(0,.agg #[(wv i3),.int .i64 (cC i3)])]) (cs:= [(wv i3),.int .i64 (cC i3)]) (c:=Zd (fun _=>(wv i3)) (fun _=>(cC i3))) Zv Yq hS (hf:=by have hz:=(qN i3 (by omega) (by omega));revert hz;generalize (wv i3)=z;rintro⟨_,_,_,_,rfl,_⟩;show _=_;kernel_rfl)) ?_;rintro v5 w ⟨hS,hv5⟩
    refine⟨⟨fun _=>hS.pk [0,1,2],hS.pk [0,1,2]⟩,?_⟩
    refine zda 12 (xap 3 (r:=i3-a4+1) (f:=cat (1*2) (Zd (fun _=>(wv i3)) (fun _=>(cC i3))) (fun k=>(Zd (fun q=>wv (s3 q)) (fun q=>cC (s3 q))) (k+a4*2))) Zv Yq hS (Ks (q:=(a4).toNat) (i:=a4) (m:=i3-a4) (hS.rowN 2 rfl) (hS.holds _ (List.mem_of_getElem? (i:=2) rfl)).roomy (by omega) (by omega) (by omega) (fun _ _=>rfl)) rfl (h1:=(fun k _ _=>ZG (fun q=>qk (s3 q)) _))) ?_;rintro v6 w ⟨hS,hv6⟩
    refine⟨⟨fun _=>hS.pk [0,1,2],hS.pk [0,1,2]⟩,?_⟩
    refine zda 13 (Zjk (q:=(a4).toNat) (r:=i3+1) (f:=Zd (fun q=>wv (Xc s3 a4 i3 q)) (fun q=>cC (Xc s3 a4 i3 q))) Zv Yq hS (Zb3 (q:=(a4).toNat) (i:=a4) (hS.rowN 2 rfl) (by omega) (by omega)) (hS.rowN 3 rfl) (fun k _ _=>ZG (fun q=>qk (s3 q)) k) (fun k _ _=>Zb2 (fun k=>ZG (fun _=>qk i3) k) (fun k=>ZG (fun q=>qk (s3 q)) _) k) (by rw [show a4+(i3-a4+1)=i3+1 by omega];exact T2 (by omega) (by omega)) (by omega)) ?_;rintro v7 w ⟨hS,hv7⟩
    refine⟨⟨fun _=>hS.pk [0,1,2],hS.pk [0,1,2]⟩,?_⟩
    refine(zDw 14 xas)<|zdd<|zbn<|ztn<|zrg ?_
    refine(zP)<|(zV (Zf (r:=i3+1)))<|(zP)<|zln<|zlq ⟨(Xc s3 a4 i3),i3+1,v7,rfl,(by omega),(by omega),?_,?_,?_,?_,?_,rfl,hS.pk [0,1,4]⟩
    ·
     exact K1 (by omega) (by omega) hr3
    ·
     exact K7 (by omega) (by omega) hr3 hj3
    ·
     exact K0 hs (by omega) (by omega) (by omega) hr3 ho3 (by first|exact .inl (by omega)|exact .inr ‹_›) ha4
    ·
     exact KF (by omega) (by omega) hp3
    ·
     exact hv7
   refine(zDo 3)<|(zDo 4)<|(zDo 5)<|(zDo 6)<|(zDo 7)<|(zDo 8)<|(zDo 9)<|(zDo 10)<|(zDo 11)<|(zDo 12)<|(zDo 13)<|(zDo 14)<|(zDw 15 xpf)<|zdd<|ztn<|zcf<|zxt<|ztx<|ztx<|zbh<|ztn ?_
   refine zdst [0,1,2] [0,1,2] 1000 mx_ hS ?_;clear hS;intro w hS
   refine(zDw 0 xmv)<|(zDw 1 xmv)<|(zDw 2 xmv)<|(zDw 3 (Zbo (i:=a4) (a4).toNat Zv hwO (hS.holds _ (List.mem_of_getElem? (i:=2) rfl)).roomy (hS.holds _ (List.mem_of_getElem? (i:=2) rfl)).flat))<|(zDw 4 xmv)<|(zDw 5 xmv)<|(zDw 6 (xix (kk:=2*i3) Zv xZ))<|(zDl 7 (fun w hS=>(xlw (cs:= [(wv i3),.int .i64 (cC i3)]) UR (hS.rowN 0 rfl) (ZB (k:=2*i3) (i:=i3) wv cC (by omega)))))<|(zDw 9 xmv)<|(zDw 10 xmv)<|(zDw 11 (Zbn (i:=a4) (a4).toNat Zv hwO (hS.holds _ (List.mem_of_getElem? (i:=2) rfl)).flat))<|zda 8 (xli (n:=1) (len:=1) (pv:= [(0,.agg #[(wv i3),.int .i64 (cC i3)])]) (cs:= [(wv i3),.int .i64 (cC i3)]) (c:=Zd (fun _=>(wv i3)) (fun _=>(cC i3))) Zv Yq hS (hf:=by have hz:=(qN i3 (by omega) (by omega));revert hz;generalize (wv i3)=z;rintro⟨_,_,_,_,rfl,_⟩;show _=_;kernel_rfl)) ?_;rintro v8 w ⟨hS,hv8⟩
   refine⟨⟨fun _=>hS.pk [0,1,2],hS.pk [0,1,2]⟩,?_⟩
   refine zda 12 (xap 3 (r:=i3-a4+1) (f:=cat (1*2) (Zd (fun _=>(wv i3)) (fun _=>(cC i3))) (fun k=>(Zd (fun q=>wv (s3 q)) (fun q=>cC (s3 q))) (k+a4*2))) Zv Yq hS (Ks (q:=(a4).toNat) (i:=a4) (m:=i3-a4) (hS.rowN 2 rfl) (hS.holds _ (List.mem_of_getElem? (i:=2) rfl)).roomy (by omega) (by omega) (by omega) (fun _ _=>rfl)) rfl (h1:=(fun k _ _=>ZG (fun q=>qk (s3 q)) _))) ?_;rintro v9 w ⟨hS,hv9⟩
   refine⟨⟨fun _=>hS.pk [0,1,2],hS.pk [0,1,2]⟩,?_⟩
   refine zda 13 (Zjk (q:=(a4).toNat) (r:=i3+1) (f:=Zd (fun q=>wv (Xc s3 a4 i3 q)) (fun q=>cC (Xc s3 a4 i3 q))) Zv Yq hS (Zb3 (q:=(a4).toNat) (i:=a4) (hS.rowN 2 rfl) (by omega) (by omega)) (hS.rowN 3 rfl) (fun k _ _=>ZG (fun q=>qk (s3 q)) k) (fun k _ _=>Zb2 (fun k=>ZG (fun _=>qk i3) k) (fun k=>ZG (fun q=>qk (s3 q)) _) k) (by rw [show a4+(i3-a4+1)=i3+1 by omega];exact T2 (by omega) (by omega)) (by omega)) ?_;rintro v10 w ⟨hS,bd⟩
   refine⟨⟨fun _=>hS.pk [0,1,2],hS.pk [0,1,2]⟩,?_⟩
   refine(zDw 14 xas)<|zdd<|zbn<|ztn<|zrg ?_
   refine(zP)<|(zV (Zf (r:=i3+1)))<|(zP)<|zln<|zlq ⟨(Xc s3 a4 i3),i3+1,v10,rfl,(by omega),(by omega),?_,?_,?_,?_,?_,rfl,hS.pk [0,1,4]⟩
   ·
    exact K1 (by omega) (by omega) hr3
   ·
    exact K7 (by omega) (by omega) hr3 hj3
   ·
    exact K0 hs (by omega) (by omega) (by omega) hr3 ho3 (by first|exact .inl (by omega)|exact .inr ‹_›) ha4
   ·
    exact KF (by omega) (by omega) hp3
   ·
    exact bd
  refine zx8<|(zP)<|(zP)<|zx1<|zf1 ⟨_,rfl,?_⟩
  have hiN:i3=nC:=by omega
  rw [hiN] at hr3 hj3 ho3 hp3
  replace hS:=hS.pmrowsJ 1 hr3 hj3
  exact⟨_,nC,_,_,_,_,rfl,NormR.of_ins hs hp3 ho3,by omega,by omega,fun k k0 k1=>hbc (s3 k) (hr3 k k0 k1).1 (hr3 k k0 k1).2,(by rw [<-hiN];exact hwO),(by rw [<-hiN] at hS⊢;exact hS.pk [2,1])⟩
end Go.Proofs.YtopmifmfecfaaaaGreat
namespace Go.Proofs.YtopmifmfecfaaaaGreat
open Go Go.RowKit Go.Proofs.Gw
variable {u:Int} {cnt ln:Int->Int} {pt:Int->Int->Int} {pv:Int->Value} {vD vL vV:Value}
theorem Zen{p:Prob}(w0:World)(hV:VAt w0 vV u pv ln pt cnt)(h:PAt w0 vL vD p):
    Calls Tryz.prog 98 [.agg #[vL,vD,.int .i64 p.stock,.int .i64 p.kerf],vV].toArray w0 fun e w=>∃v,e= .returned v/\v=B (PlanOk p u ln pt cnt)/\Sat w0 w []:=by
  have hm:=h.L.slh.n0;have hm1:=h.L.slh.n1;have hd:=h.D.slh.n0;have hd1:=h.D.slh.n1;have hs:=h.is;have hk:=h.ik
  have hu:=hV.row.slh.n0;have hu1:=hV.row.slh.n1
  refine Zm Tryz.func98 Tryz.ntmps98 fun w hS=> ?_
  refine zsr<|zla (xbx (cs:= [_,_,_,_]) hS) ?_;rintro _ w ⟨g1,rfl,hS⟩
  refine(zP)<|zx5<|(zV (xls 0 ZC hS))<|zlc (xc0 Uo) (YH (p:=p) w (h.below hS.below)) ?_;rintro _ w ⟨rfl,hS'⟩
  replace hS:=hS.cmp hS';clear hS'
  refine(zP)<|(zP)<|zlb 9 ?_ ?_<;>intro hc
  ·
   iterate 3 refine zlo ?_
   refine(zP)<|zlt<|zct<|zsr ?_
   refine(zP)<|zx14<|zf1 ⟨_,rfl,?_⟩
   refine⟨false_B (fun hh=> ?_),hS.nl⟩
   first
   |exact absurd hh.1 ‹¬p.Ok›
   |(have:=hh.2.1;omega)
   |(have h9:=hh.2.2 i h0 (by omega);first|exact absurd h9.2.2 ‹_›|omega)
  refine(zP)<|(zV (xln Zv hV.row.slh))<|(zP)<|(zP)<|zlt<|Ze ?_ ?_<;>intro hc
  ·
   refine zsr<|(zP)<|zx14<|zf1 ⟨_,rfl,?_⟩
   refine⟨false_B (fun hh=> ?_),hS.nl⟩
   first
   |exact absurd hh.1 ‹¬p.Ok›
   |(have:=hh.2.1;omega)
   |(have h9:=hh.2.2 i h0 (by omega);first|exact absurd h9.2.2 ‹_›|omega)
  refine Xb<|(zP)<|zx6 ?_
  have qs:p.Ok:=by first|assumption|exact Classical.not_not.1 ‹_›
  refine zlp (fun mm M w=>∃(i:Int),mm=((u-i).toNat)/\(0<=i)/\(i<=u)/\(∀k,0<=k->k<i->1<=cnt k/\cnt k<=1000/\FitsP p (ln k) (pt k))/\M= [(1,vV),(2,.pointer (some ⟨g1,0,none⟩)),(5,.int .i64 i)]/\Sat w0 w [.blk g1 [vL,vD,.int .i64 p.stock,.int .i64 p.kerf]]) ⟨0,rfl,(by omega),(by omega),?_,rfl,hS⟩ ?_
  ·
   intro k h0 h1;omega
  clear hS w
  rintro mm M w ⟨i,rfl,h0,h1,qa,rfl,hS⟩
  refine zx11<|(zP)<|(zP)<|(zV (xln Zv hV.row.slh))<|(zP)<|zlt<|Ze ?_ ?_<;>intro hc
  ·
   refine zx27<|zdst [0] [0] 1000 mx_ hS ?_;clear hS;intro w hS
   refine(zDl 0 (fun w hS=>(xls 0 ZC hS)))<|(zDw 1 xmv)<|(zDw 2 xmv)<|(zDw 3 (xix (kk:=2*i) Zv hV.row.slh))<|(zDw 4 (xfc (kk:=2*i) Yp hV.row.slh))<|(zDl 5 (fun w hS=>(xlr (u:=(pv i)) pl_22 (hV.row.below hS.below) (e:=(Yu pv cnt (by omega))))))<|zdc 6 (xc0 ZdY) (Zbi (p:=p) w (h.below hS.below) ((hV.p i (by omega) (by omega)).below hS.below)) ?_;rintro _ w ⟨rfl,hS'⟩
   replace hS:=hS.cmp hS';clear hS'
   refine⟨⟨fun _=>hS,hS⟩,?_⟩
   refine(zDw 7 YK)<|(zDw 8 xmv)<|zdb 28 ?_ ?_<;>intro hc
   ·
    refine(zDo 9)<|(zDo 10)<|(zDo 11)<|(zDo 12)<|(zDo 13)<|(zDo 14)<|(zDw 15 xpt)<|(zDw 16 xmv)<|(zDo 17)<|(zDo 18)<|(zDo 19)<|(zDo 20)<|(zDo 21)<|(zDo 22)<|zDrv 23 xpt ?_
    refine zdd<|ztn<|zct<|zsr ?_
    refine(zP)<|zx2<|zf1 ⟨_,rfl,?_⟩
    refine⟨false_B (fun hh=> ?_),hS.nl⟩
    first
    |exact absurd hh.1 ‹¬p.Ok›
    |(have:=hh.2.1;omega)
    |(have h9:=hh.2.2 i h0 (by omega);first|exact absurd h9.2.2 ‹_›|omega)
   refine(zDw 9 xmv)<|(zDw 10 xmv)<|(zDw 11 (xix (kk:=2*i) Zv hV.row.slh))<|(zDw 12 (xfc (kk:=2*i+1) Yf hV.row.slh))<|(zDl 13 (fun w hS=>(xlr (u:= .int .i64 (cnt i)) pl_3 (hV.row.below hS.below) (e:=(Yt pv cnt (by omega))))))<|(zDw 14 ZZ)<|(zDw 15 xpf)<|(zDw 16 xmv)<|zdb 36 ?_ ?_<;>intro hc
   ·
    refine(zDo 17)<|(zDo 18)<|(zDo 19)<|(zDo 20)<|(zDo 21)<|(zDo 22)<|(zDw 23 xpt)<|zdd<|ztn<|zct<|zsr ?_
    refine(zP)<|zx2<|zf1 ⟨_,rfl,?_⟩
    refine⟨false_B (fun hh=> ?_),hS.nl⟩
    first
    |exact absurd hh.1 ‹¬p.Ok›
    |(have:=hh.2.1;omega)
    |(have h9:=hh.2.2 i h0 (by omega);first|exact absurd h9.2.2 ‹_›|omega)
   refine(zDw 17 xmv)<|(zDw 18 xmv)<|(zDw 19 (xix (kk:=2*i) Zv hV.row.slh))<|(zDw 20 (xfc (kk:=2*i+1) Yf hV.row.slh))<|(zDl 21 (fun w hS=>(xlr (u:= .int .i64 (cnt i)) pl_3 (hV.row.below hS.below) (e:=(Yt pv cnt (by omega))))))<|(zDw 22 Yr)<|(zDw 23 xpf)<|zdd<|ztn ?_
   refine Ze ?_ ?_<;>intro hc
   ·
    refine zsr<|(zP)<|zx2<|zf1 ⟨_,rfl,?_⟩
    refine⟨false_B (fun hh=> ?_),hS.nl⟩
    first
    |exact absurd hh.1 ‹¬p.Ok›
    |(have:=hh.2.1;omega)
    |(have h9:=hh.2.2 i h0 (by omega);first|exact absurd h9.2.2 ‹_›|omega)
   refine zx4<|(zP)<|(zV (Zf (r:=i+1)))<|(zP)<|zln<|zlq ⟨i+1,rfl,(by omega),(by omega),?_,rfl,hS⟩
   ·
    intro k h0' h1';rcases Int.lt_or_eq_of_le (show k<=i by omega) with hk|hk;exact qa k h0' hk;rw [hk];exact⟨by omega,by omega,by first|assumption|exact Classical.not_not.1 ‹_›⟩
  refine zx8<|(zP)<|zx1<|zf1 ⟨_,rfl,?_⟩
  exact⟨ZU ⟨qs,by omega,fun k k0 k1=>qa k k0 (by omega)⟩,hS.nl⟩
theorem R8{p:Prob}(w0:World)(hV:VAt w0 vV u pv ln pt cnt)(h:PAt w0 vL vD p):
    Calls Tryz.prog 61 [.agg #[vL,vD,.int .i64 p.stock,.int .i64 p.kerf],vV].toArray w0 fun e w=>∃v,e= .returned v/\∃r n f e,v= .tuple #[r,.int .i64 e]/\((¬PlanOk p u ln pt cnt/\n=0/\e=1)\/(PlanOk p u ln pt cnt/\n=p.m/\f=Zo u pt cnt/\e=0))/\Slh r n/\Sat w0 w [.own r 1 3 n (ints f)]:=by
  have hm:=h.L.slh.n0;have hm1:=h.L.slh.n1;have hd:=h.D.slh.n0;have hd1:=h.D.slh.n1;have hs:=h.is;have hk:=h.ik
  have hu:=hV.row.slh.n0;have hu1:=hV.row.slh.n1
  refine Zm Tryz.func61 Tryz.ntmps61 fun w hS=> ?_
  refine zsr<|zla (xbx (cs:= [_,_,_,_]) hS) ?_;rintro _ w ⟨g1,rfl,hS⟩
  refine(zP)<|(zP)<|zx5<|(zV (xls 0 ZC hS))<|(zP)<|zlc (xc0 ZjE) (Zen (u:=u) (pv:=pv) (ln:=ln) (pt:=pt) (cnt:=cnt) (p:=p) w (hV.below hS.below) (h.below hS.below)) ?_;rintro _ w ⟨rfl,hS'⟩
  replace hS:=hS.cmp hS';clear hS'
  refine(zP)<|zlt<|Ze ?_ ?_<;>intro hc
  ·
   refine zsr<|(zP)<|(zP)<|zx14<|zf2 ⟨_,rfl,?_⟩
   exact⟨_,0,fun _=>0,1,rfl,.inl ⟨‹¬PlanOk p u ln pt cnt›,rfl,rfl⟩,slh_nil,(hS.sub (.cons _ .slnil)).addnil 1 3 (ints fun _=>0)⟩
  refine Z7<|zlv (xfb 0 fd_24_0) ?_
  have qf:PlanOk p u ln pt cnt:=by first|assumption|exact Classical.not_not.1 ‹_›
  have yy:=qf.1.m1;have xc:=qf.1.m2;have hu3:=qf.2.1
  refine(zV (xlb 0 pl_22 hS))<|(zV (xln Zb h.L.slh))<|zla (xmk Zb Zn hS) ?_;rintro v1 w ⟨hS,hv1⟩
  refine(zP)<|zx5<|(zP)<|zx6<|zlp (fun mm M w=>∃(f:Int->Int) (i:Int),mm=((u-i).toNat)/\(0<=i)/\(i<=u)/\(∀k,0<=k->k<p.m->f k=Zo i pt cnt k)/\M= [(1,vV),(4,.slice none 0 0),(5,.int .i64 0),(6,v1),(7,.int .i64 i)]/\Sat w0 w [.blk g1 [vL,vD,.int .i64 p.stock,.int .i64 p.kerf],.own v1 1 3 p.m (ints f)]) ⟨(fun _=>0),0,rfl,(by omega),(by omega),?_,rfl,hS⟩ ?_
  ·
   intro k _ _;rfl
  clear hS w
  rintro mm M w ⟨f,i,rfl,h0,h1,hf,rfl,hS⟩
  refine zx11<|(zP)<|(zP)<|(zV (xln Zv hV.row.slh))<|(zP)<|zlt<|Ze ?_ ?_<;>intro hc
  ·
   refine zx3<|(zP)<|zx6<|zlp (fun mm M w=>∃(f2:Int->Int) (j:Int),mm=((p.m-j).toNat)/\(0<=j)/\(j<=p.m)/\(∀k,0<=k->k<p.m->f2 k=(if k<j then Zo (i+1) pt cnt k else Zo i pt cnt k))/\M= [(1,vV),(4,.slice none 0 0),(5,.int .i64 0),(6,v1),(7,.int .i64 i),(8,.int .i64 j)]/\Sat w0 w [.blk g1 [vL,vD,.int .i64 p.stock,.int .i64 p.kerf],.own v1 1 3 p.m (ints f2)]) ⟨f,0,rfl,(by omega),(by omega),?_,rfl,hS⟩ ?_
   ·
    intro k k0 k1;rw [if_neg (by omega)];exact hf k k0 k1
   clear hS w
   rintro mm M w ⟨f2,j,rfl,j0,j1,hf2,rfl,hS⟩
   refine zx11<|(zP)<|(zP)<|(zV (xln Zb hv1))<|(zP)<|zlt<|Ze ?_ ?_<;>intro hc
   ·
    refine zx38<|zdst [0,1] [0] 20 mx_ hS ?_;clear hS;intro w hS
    refine(zDw 0 xmv)<|(zDw 1 xmv)<|(zDw 2 (xix (kk:=j) Zb hv1))<|zdl 3 (fun w hS=>(xlr (u:= .int .i64 (f2 j)) pl_3 (hS.rowN 1 rfl))) ?_
    obtain⟨hq1,hq2,hq3⟩:=qf.2.2 i h0 (by omega)
    have hq4:=hq3.eq
    have hpj:=hq3.all j j0 (by omega)
    have hmr:=Yj qf.2.2 h0 (by omega) (j:=j) j0 (by omega)
    have hfj:=hf2 j j0 (by omega)
    rw [if_neg (by omega)] at hfj
    have hmj:=Xl hpj.1 hpj.2 (show 0<=cnt i by omega) hq2
    refine(zDw 4 xmv)<|(zDw 5 xmv)<|(zDw 6 (xix (kk:=2*i) Zv hV.row.slh))<|(zDw 7 (xfc (kk:=2*i) Yp hV.row.slh))<|(zDl 8 (fun w hS=>(xlr (u:=(pv i)) pl_22 (hV.row.below hS.below) (e:=(Yu pv cnt (by omega))))))<|(zDw 9 xmv)<|(zDw 10 (xix (kk:=j) Zb (hV.p i (by omega) (by omega)).slh))<|(zDl 11 (fun w hS=>(xlr (u:= .int .i64 ((pt i) j)) pl_3 ((hV.p i (by omega) (by omega)).below hS.below))))<|(zDw 12 xmv)<|(zDw 13 xmv)<|(zDw 14 (xix (kk:=2*i) Zv hV.row.slh))<|(zDw 15 (xfc (kk:=2*i+1) Yf hV.row.slh))<|(zDl 16 (fun w hS=>(xlr (u:= .int .i64 (cnt i)) pl_3 (hV.row.below hS.below) (e:=(Yt pv cnt (by omega))))))<|(zDw 17 (Z4 (r:=(((pt i) j)*(cnt i))) (e:=rfl)))<|zdv 18 (fun _=>(Zf (r:=f2 j+(((pt i) j)*(cnt i))))) ?_
    refine(zDw 19 (xix (kk:=j) Zb hv1))<|zde 20 (xso 1 pl_3 hS (ZE _ _ _)) ?_;clear hS;rintro w hS
    refine⟨⟨fun h=>absurd h (by decide),hS.pk [0]⟩,?_⟩
    refine zdd<|zbn<|ztn<|zrg ?_
    refine(zP)<|(zV (Zf (r:=j+1)))<|(zP)<|zln<|zlq ⟨(upd f2 j (f2 j+(((pt i) j)*(cnt i)))),j+1,rfl,(by omega),(by omega),?_,rfl,hS⟩
    ·
     intro k k0 k1;unfold upd;by_cases e:k=j
     · rw [if_pos e,if_pos (by omega),e,YU h0];omega
     · rw [if_neg e,hf2 k k0 k1];by_cases e2:k<j
       · rw [if_pos e2,if_pos (by omega)]
       · rw [if_neg e2,if_neg (by omega)]
   refine zx21<|(zP)<|(zV (Zf (r:=i+1)))<|(zP)<|zln<|zlq ⟨f2,i+1,rfl,(by omega),(by omega),?_,rfl,hS⟩
   ·
    intro k k0 k1;rw [hf2 k k0 k1,if_pos (by omega)]
  refine zx8<|(zP)<|(zP)<|(zP)<|zx1<|zf2 ⟨_,rfl,?_⟩
  have hiu:i=u:=by omega
  rw [hiu] at hf
  replace hS:=hS.recont 1 rfl (d:=ints (Zo u pt cnt)) (fun k k0 k1=>congrArg (Value.int .i64) (hf k k0 (by omega)))
  exact⟨_,_,_,0,rfl,.inr ⟨qf,rfl,rfl,rfl⟩,hv1,hS.pk [1]⟩
theorem Zeo{p:Prob}(w0:World)(hV:VAt w0 vV u pv ln pt cnt)(h:PAt w0 vL vD p):
    Calls Tryz.prog 150 [.agg #[vL,vD,.int .i64 p.stock,.int .i64 p.kerf],vV].toArray w0 fun e w=>∃v,e= .returned v/\v=B (PlanOk p u ln pt cnt/\∀j,0<=j->j<p.m->p.D j<=Zo u pt cnt j)/\Sat w0 w []:=by
  have hm:=h.L.slh.n0;have hm1:=h.L.slh.n1;have hd:=h.D.slh.n0;have hd1:=h.D.slh.n1;have hs:=h.is;have hk:=h.ik
  refine Zm Tryz.func150 Tryz.ntmps150 fun w hS=> ?_
  refine zsr<|zla (xbx (cs:= [_,_,_,_]) hS) ?_;rintro _ w ⟨g1,rfl,hS⟩
  refine(zP)<|zlz<|(zV (xls 0 ZC hS))<|(zP)<|zlc (xc0 Zd1) (R8 (u:=u) (pv:=pv) (ln:=ln) (pt:=pt) (cnt:=cnt) (p:=p) w (hV.below hS.below) (h.below hS.below)) ?_;rintro _ w ⟨qh,qd,qb,xT,rfl,qm,qe,hS'⟩
  replace hS:=(hS.comp hS').n2;clear hS'
  refine zs5 ?_
  refine zx5<|(zP)<|(zP)<|zlt<|Ze ?_ ?_<;>intro hc
  ·
   refine zsr<|(zP)<|zx14<|zf1 ⟨_,rfl,?_⟩
   refine⟨false_B ?_,hS.nl⟩
   first
   |(intro hh;have h9:=hh.2 i h0 (by omega);rw [<-hA3] at h9;omega)
   |(rcases qm with⟨q1,_⟩|⟨_,_,_,q4⟩;exact fun hh=>q1 hh.1;omega)
  refine Xb<|(zP)<|zx6 ?_
  obtain⟨hA1,hA2,hA3⟩:PlanOk p u ln pt cnt/\qd=p.m/\qb=Zo u pt cnt:=by rcases qm with⟨_,_,q3⟩|⟨q1,q2,q3,_⟩;omega;exact⟨q1,q2,q3⟩
  have hpd:=hA1.1.d
  refine zlp (fun mm M w=>∃(i:Int),mm=((qd-i).toNat)/\(0<=i)/\(i<=qd)/\(∀k,0<=k->k<i->p.D k<=qb k)/\M= [(2,.pointer (some ⟨g1,0,none⟩)),(5,qh),(7,.int .i64 i)]/\Sat w0 w [.blk g1 [vL,vD,.int .i64 p.stock,.int .i64 p.kerf],.own qh 1 3 qd (ints qb)]) ⟨0,rfl,(by omega),(by omega),?_,rfl,hS⟩ ?_
  ·
   intro k h0 h1;omega
  clear hS w
  rintro mm M w ⟨i,rfl,h0,h1,qa,rfl,hS⟩
  refine zx11<|(zP)<|(zP)<|(zV (xln Zb qe))<|(zP)<|zlt<|Ze ?_ ?_<;>intro hc
  ·
   refine zx27<|zdst [0,1] [0,1] 1000 mx_ hS ?_;clear hS;intro w hS
   refine(zDw 0 xmv)<|(zDw 1 xmv)<|(zDw 2 (xix (kk:=i) Zb qe))<|(zDl 3 (fun w hS=>(xlr (u:= .int .i64 (qb i)) pl_3 (hS.rowN 1 rfl))))<|(zDw 4 (xfb 1 fd_24_1))<|(zDl 5 (fun w hS=>(xlb 0 pl_22 hS)))<|(zDw 6 xmv)<|(zDw 7 (xix (kk:=i) Zb h.D.slh))<|zdla 8 (fun w hS=>(xlr (u:= .int .i64 (p.D i)) pl_3 (h.D.below hS.below))) ?_
   have hbv:=h.iD i
   refine(zDw 9 ZZ)<|zdd<|ztn ?_
   refine Ze ?_ ?_<;>intro hc
   ·
    refine zsr<|(zP)<|zx2<|zf1 ⟨_,rfl,?_⟩
    refine⟨false_B ?_,hS.nl⟩
    first
    |(intro hh;have h9:=hh.2 i h0 (by omega);rw [<-hA3] at h9;omega)
    |(rcases qm with⟨q1,_⟩|⟨_,_,_,q4⟩;exact fun hh=>q1 hh.1;omega)
   refine zx4<|(zP)<|(zV (Zf (r:=i+1)))<|(zP)<|zln<|zlq ⟨i+1,rfl,(by omega),(by omega),?_,rfl,hS⟩
   ·
    intro k h0' h1';rcases Int.lt_or_eq_of_le (show k<=i by omega) with hk|hk;exact qa k h0' hk;rw [hk];omega
  refine zx8<|(zP)<|zx1<|zf1 ⟨_,rfl,?_⟩
  refine⟨ZU ⟨hA1,fun j j0 j1=> ?_⟩,hS.nl⟩
  have:=qa j j0 (by omega);rw [hA3] at this;exact this
theorem UE(w0:World)(hV:VAt w0 vV u pv ln pt cnt)(hu6:u<=1000000)(hbc:∀k,0<=k->k<u->0<=cnt k/\cnt k<=1000000000):
    Calls Tryz.prog 77 [vV].toArray w0 fun e w=>∃v,e= .returned v/\v= .int .i64 (psum (fun _=>1) cnt u.toNat)/\Sat w0 w []:=by
  have hn:=hV.row.slh.n0;have hn1:=hV.row.slh.n1
  refine Zm Tryz.func77 Tryz.ntmps77 fun w hS=> ?_
  refine zsr<|(zP)<|zlz<|(zP)<|zx5<|(zP)<|zx6<|zlp (fun mm M w=>∃(s:Int) (i:Int),mm=((u-i).toNat)/\(0<=i)/\(i<=u)/\(s=psum (fun _=>1) cnt i.toNat)/\(0<=s/\s<=1000000000*i)/\M= [(0,vV),(2,.int .i64 0),(3,.int .i64 s),(4,.int .i64 i)]/\Sat w0 w []) ⟨0,0,rfl,(by omega),(by omega),?_,(by omega),rfl,hS⟩ ?_
  ·
   rfl
  clear hS w
  rintro mm M w ⟨s,i,rfl,h0,h1,hs9,hsb,rfl,hS⟩
  refine zx11<|(zP)<|(zP)<|(zV (xln Zv hV.row.slh))<|(zP)<|zlt<|Ze ?_ ?_<;>intro hc
  ·
   refine zsk<|ztn<|zsq<|zbk<|zrg<|(zP)<|(zP)<|(zP)<|(zV (xix (kk:=2*i) Zv hV.row.slh))<|(zV (xfc (kk:=2*i+1) Yf hV.row.slh))<|zlv (xlr (u:= .int .i64 (cnt i)) pl_3 (hV.row.below hS.below) (e:=(Yt pv cnt (by omega)))) ?_
   have hci:=hbc i h0 (by omega)
   refine(zV (Zf (r:=s+(cnt i))))<|(zP)<|zx10<|(zP)<|(zV (Zf (r:=i+1)))<|(zP)<|zln<|zlq ⟨s+(cnt i),i+1,rfl,(by omega),(by omega),?_,(by omega),rfl,hS⟩
   ·
    rw [YC _ _ h0,<-hs9];omega
  refine zx8<|(zP)<|(zP)<|zx1<|zf1 ⟨_,rfl,?_⟩
  obtain rfl:i=u:=by omega
  exact⟨congrArg (Value.int .i64) hs9,hS⟩
end Go.Proofs.YtopmifmfecfaaaaGreat
