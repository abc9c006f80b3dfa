import Derived.Test.YtpnamgfdakfccaaGreatTpB
import Derived.ArgAppend
import Derived.RangeFuncBox
import Derived.RangeFuncLeaves
set_option linter.unusedVariables false
set_option linter.unusedSimpArgs false
set_option maxRecDepth 20000
set_option maxHeartbeats 4000000
namespace Go.Proofs.YtpnamgfdakfccaaGreat
open Go Go.RowKit Go.Proofs.Gw
variable {x:Int} {f:Of}
theorem Zn9:Zc Om 89=true:=Oc
theorem fd_54_2:Zs Om 54 2=some 2:=Oc
theorem fd_54_3:Zs Om 54 3=some 3:=Oc
def YZ(s:So):Prop:=(1<=s.den/\s.den<=1073741824)/\(0<=s.val/\s.val<=1073741824)/\∀k,0<=k->k<s.n->0<=s.X k/\s.X k<=1073741824
def two(x y:Int):Of:=fun k=> [x,y].getD k.toNat 0
theorem Zi8{n y:Int}(hn:0<=n):(∀k,0<=k->k<n->cat n f (two x y) k=f k)/\cat n f (two x y) n=x/\cat n f (two x y) (n+1)=y:=by
 refine⟨fun k k0 k1=> ?_,?_,?_⟩
 · unfold cat;rw [if_pos k1]
 · unfold cat;rw [if_neg Oa,Int.sub_self];rfl
 · unfold cat;rw [if_neg Oa,show n+1-n=1 by omega];rfl
theorem Rm{s:So}(hn:0<=s.n)(he:∃k,0<=k/\k<s.n+2/\cat s.n s.X (two s.val s.den) k=x)(ha:∀k,0<=k->k<s.n+2->cat s.n s.X (two s.val s.den) k<=x)(h1:1<=s.den)(h2:0<=s.val)(h3:¬∃k,0<=k/\k<s.n/\s.X k<0):x<=1073741824↔YZ s:=by
 obtain⟨c1,c2,c3⟩:=Zi8 (n:=s.n) (x:=s.val) (y:=s.den) (f:=s.X) hn
 constructor
 · intro hx
   have a1:=ha s.n hn Oa
   have a2:=ha (s.n+1) Oa Oa
   exact⟨⟨h1,Oa⟩,⟨h2,Oa⟩,fun k k0 k1=>⟨Int.not_lt.1 fun hh=>h3 ⟨k,k0,k1,hh⟩,by have:=ha k k0 Oa;rw [c1 k k0 k1] at this;omega⟩⟩
 · rintro⟨b1,b2,b3⟩
   obtain⟨k,k0,k1,hk⟩:=he
   by_cases e:k<s.n
   · rw [c1 k k0 e] at hk;have:=b3 k k0 e;omega
   · by_cases e2:k=s.n
     · rw [e2,c2] at hk;omega
     · rw [show k=s.n+1 by omega,c3] at hk;omega
theorem ZoG(w0:World):
   Calls Om 89 [.int Oi x].toArray w0 fun e w=>∃v,e= .returned v/\v=B (x<0)/\Sat w0 w []:=by
 refine zenG Tryz.func89 Tryz.ntmps89 fun w hS=> ?_
 refine zsr<|(zP)<|zlz<|(Oo)<|zx1<|Oj ?_
 exact⟨Zm Oa,hS⟩
theorem Zjp{v:Value}{n:Int}(w0:World)(hR:Row w0 v 1 n (ints f)):
   Calls Om 147 [v,.func (.func 89) #[] #[]].toArray w0 fun e w=>∃v,e= .returned v/\∃r:Int,v= .int Oi r/\((r= -1/\∀k,0<=k->k<n->¬(f k<0))\/(0<=r/\r<n/\(f r<0)))/\Sat w0 w []:=by
 have hn:=hR.slh.n0;have hn1:=hR.slh.n1
 refine zenG Tryz.func147 Tryz.ntmps147 fun w hS=> ?_
 refine zsr<|(zP)<|zx5<|(zP)<|(zV (xln Zb hR.slh))<|(zP)<|zx6<|zlp (fun mm M w=>∃(i:Int),mm=((n-i).toNat)/\(0<=i)/\(i<=n)/\(∀k,0<=k->k<i->¬(f k<0))/\M= [(0,v),(1,.func (.func 89) #[] #[]),(7,.int Oi n),(8,.int Oi i)]/\Sat w0 w []) ⟨0,rfl,Oa,Oa,?_,rfl,hS⟩ ?_
 ·
  intro k h0 h1;omega
 clear hS w
 rintro mm M w ⟨i,rfl,h0,h1,qa,rfl,hS⟩
 refine zsr<|(zP)<|zx7<|Zf ?_ ?_<;>intro hc
 ·
  refine zx3<|(On)<|zlz<|(Oo)<|(zV (xix (kk:=i) Zb hR.slh))<|(zV (xlr (u:= .int Oi (f i)) pl_3 (hR.below hS.below)))<|zlc (xc0 Zn9) (ZoG (x:=(f i)) w) ?_;rintro _ w ⟨rfl,hS'⟩
  replace hS:=hS.cmp hS';clear hS'
  refine zlt<|Zf ?_ ?_<;>intro hc
  ·
   refine zsr<|(On)<|zx2<|Oj ?_
   exact⟨i,rfl,.inr ⟨by omega,Oa,‹f i<0›⟩,hS⟩
  refine zx4<|(zV (Zg (r:=i+1)))<|(zP)<|zln<|zlq ⟨i+1,rfl,Oa,Oa,?_,rfl,hS⟩
  ·
   intro k h0' h1';rcases Int.lt_or_eq_of_le (show k<=i by omega) with hk|hk;exact qa k h0' hk;rw [hk];assumption
 refine zx8<|(zP)<|zx1<|Oj ?_
 exact⟨-1,rfl,.inl ⟨rfl,fun k h0 h1=>qa k h0 Oa⟩,hS⟩
theorem ZdV{v:Value}{n:Int}(w0:World)(hR:Row w0 v 1 n (ints f)):
   Calls Om 90 [v,.func (.func 89) #[] #[]].toArray w0 fun e w=>∃v,e= .returned v/\v=B (∃k,0<=k/\k<n/\(f k<0))/\Sat w0 w []:=by
 refine zenG Tryz.func90 Tryz.ntmps90 fun w hS=> ?_
 refine zsr<|(zP)<|zlz<|(On)<|zlc (xc0 WN) (Zjp w (hR.below hS.below)) ?_;rintro _ w ⟨r1,rfl,hr1,hS'⟩
 replace hS:=hS.cmp hS';clear hS'
 refine(On)<|zx1<|Oj ?_
 exact⟨Zm (by
  rcases hr1 with⟨h1,h2⟩|⟨h1,h2,h3⟩
  · exact⟨fun h=>Oa,fun⟨k,h4,h5,h6⟩=>absurd h6 (h2 k h4 h5)⟩
  · exact⟨fun _=>⟨_,h1,h2,h3⟩,fun _=>h1⟩),hS⟩
theorem R9{vX vY:Value}{s:So}(w0:World)(hX:Row w0 vX 1 s.n (ints s.X))(hY:Row w0 vY 1 s.m (ints s.Y))(xZ:s.n<=1000):
   Calls Om 42 [.agg #[vX,vY,.int Oi s.val,.int Oi s.den]].toArray w0 fun e w=>∃v,e= .returned v/\v=B (YZ s)/\Sat w0 w []:=by
 have hn:=hX.slh.n0;have hn1:=hX.slh.n1
 refine zenG Tryz.func42 Tryz.ntmps42 fun w hS=> ?_
 refine zsr<|zla (xbx (cs:= [_,_,_,_]) hS) ?_;rintro _ w ⟨g1,rfl,hS⟩
 refine(zP)<|zx7<|zdst [0] [0] 1000 mx_ hS ?_;clear hS;intro w hS
 refine(zDw 0 (xfb 0 fd_54_0))<|(zDl 1 (fun w hS=>(xlb 0 pl_22 hS)))<|(zDw 3 (xfb 2 fd_54_2))<|(zDl 4 (fun w hS=>(xlb 0 pl_3 hS)))<|(zDw 5 (xfb 3 fd_54_3))<|(zDl 6 (fun w hS=>(xlb 0 pl_3 hS)))<|UJ (r:= [2,7]) ((Xo ?_ (Xo ?_ UI)))
 ·
  refine zkc (xc0 cl_66) (c_clone (n:=s.n) (f:=s.X) w (hX.below hS.below) Oa) ?_;rintro vq1 w ⟨_,rfl,qb,hS'⟩
  replace hS:=(hS.comp hS').n2;clear hS'
  refine⟨⟨fun _=>hS.pk [0],hS.pk [0]⟩,?_⟩
  refine zda 7 (xli (n:=2) (len:=2) (pv:= [(0,.int Oi s.val),(1,.int Oi s.den)]) (cs:= [.int Oi s.val,.int Oi s.den]) (c:=ints (fun k=> [s.val,s.den].getD k.toNat 0)) Zb ZG hS) ?_;rintro v1 w ⟨hS,hv1⟩
  refine⟨⟨fun _=>hS.pk [0],hS.pk [0]⟩,?_⟩
  refine zda 8 (xap 1 (r:=s.n+2) (f:=ints (cat s.n s.X (two s.val s.den))) Zb ZG hS (hS.rowN 2 rfl) (by exact Xh _ _ _)) ?_;rintro v2 w ⟨hS,hv2⟩
  refine⟨⟨fun _=>hS.pk [0],hS.pk [0]⟩,?_⟩
  refine(zDw 9 xas)<|zdd<|ztn<|zsr ?_
  refine(zP)<|zlz<|(zV (xfb 3 fd_54_3))<|(zV (xlb 0 pl_3 hS))<|(On)<|zlb 17 ?_ ?_<;>intro hc
  ·
   refine(zV (xfb 2 fd_54_2))<|(zV (xlb 0 pl_3 hS))<|(Oo)<|zlb 22 ?_ ?_<;>intro hc
   ·
    refine(zV (xfb 0 fd_54_0))<|(zV (xlb 0 pl_22 hS))<|(zP)<|zlc (xc0 UH) (ZdV (n:=s.n) (f:=s.X) w (hX.below hS.below)) ?_;rintro _ w ⟨rfl,hS'⟩
    replace hS:=hS.cmp hS';clear hS'
    refine(Oo)<|zlb 29 ?_ ?_<;>intro hc
    ·
     refine(zP)<|zlc (xc0 ZgI) (Zhg (n:=(s.n+2)) (f:=(cat s.n s.X (two s.val s.den))) w (hS.rowN 1 rfl) Oa) ?_;rintro _ w ⟨x1,rfl,x4,yq,hS'⟩
     replace hS:=hS.cmp hS';clear hS'
     refine(Oo)<|zx1<|Oj ?_
     exact⟨Zm (Rm hn x4 yq Oa Oa (show¬(∃k,0<=k/\k<s.n/\s.X k<0) by first|assumption|exact fun hh=>absurd hh ‹_›)),hS.nl⟩
    iterate 3 refine zlo ?_
    refine(On)<|zx1<|Oj ?_
    exact⟨Zi (by rintro⟨g1,g2,g3⟩;first|omega|(obtain⟨k,k0,k1,hk⟩:=(show∃k,0<=k/\k<s.n/\s.X k<0 by first|assumption|exact Od (by assumption));have:=g3 k k0 k1;omega)),hS.nl⟩
   iterate 5 refine zlo ?_
   refine zs2 ?_
   iterate 3 refine zlo ?_
   refine(On)<|zx1<|Oj ?_
   exact⟨Zi (by rintro⟨g1,g2,g3⟩;first|omega|(obtain⟨k,k0,k1,hk⟩:=(show∃k,0<=k/\k<s.n/\s.X k<0 by first|assumption|exact Od (by assumption));have:=g3 k k0 k1;omega)),hS.nl⟩
  iterate 3 refine zlo ?_
  refine zs2 ?_
  iterate 5 refine zlo ?_
  refine zs2 ?_
  iterate 3 refine zlo ?_
  refine(On)<|zx1<|Oj ?_
  exact⟨Zi (by rintro⟨g1,g2,g3⟩;first|omega|(obtain⟨k,k0,k1,hk⟩:=(show∃k,0<=k/\k<s.n/\s.X k<0 by first|assumption|exact Od (by assumption));have:=g3 k k0 k1;omega)),hS.nl⟩
 refine zka (xli (n:=2) (len:=2) (pv:= [(0,.int Oi s.val),(1,.int Oi s.den)]) (cs:= [.int Oi s.val,.int Oi s.den]) (c:=ints (fun k=> [s.val,s.den].getD k.toNat 0)) Zb ZG hS) ?_;rintro v1 w ⟨hS,hv1⟩
 refine⟨⟨fun _=>hS.pk [0],hS.pk [0]⟩,?_⟩
 refine zdc 2 (xc0 cl_66) (c_clone (n:=s.n) (f:=s.X) w (hX.below hS.below) Oa) ?_;rintro vq1 w ⟨_,rfl,qb,hS'⟩
 replace hS:=(hS.comp hS').n3;clear hS'
 refine⟨⟨fun _=>hS.pk [0],hS.pk [0]⟩,?_⟩
 refine zda 8 (xap 2 (r:=s.n+2) (f:=ints (cat s.n s.X (two s.val s.den))) Zb ZG hS (hS.rowN 1 rfl) (by exact Xh _ _ _)) ?_;rintro v2 w ⟨hS,hv2⟩
 refine⟨⟨fun _=>hS.pk [0],hS.pk [0]⟩,?_⟩
 refine(zDw 9 xas)<|zdd<|ztn<|zsr ?_
 refine(zP)<|zlz<|(zV (xfb 3 fd_54_3))<|(zV (xlb 0 pl_3 hS))<|(On)<|zlb 17 ?_ ?_<;>intro hc
 ·
  refine(zV (xfb 2 fd_54_2))<|(zV (xlb 0 pl_3 hS))<|(Oo)<|zlb 22 ?_ ?_<;>intro hc
  ·
   refine(zV (xfb 0 fd_54_0))<|(zV (xlb 0 pl_22 hS))<|(zP)<|zlc (xc0 UH) (ZdV (n:=s.n) (f:=s.X) w (hX.below hS.below)) ?_;rintro _ w ⟨rfl,hS'⟩
   replace hS:=hS.cmp hS';clear hS'
   refine(Oo)<|zlb 29 ?_ ?_<;>intro hc
   ·
    refine(zP)<|zlc (xc0 ZgI) (Zhg (n:=(s.n+2)) (f:=(cat s.n s.X (two s.val s.den))) w (hS.rowN 2 rfl) Oa) ?_;rintro _ w ⟨x1,rfl,x4,yq,hS'⟩
    replace hS:=hS.cmp hS';clear hS'
    refine(Oo)<|zx1<|Oj ?_
    exact⟨Zm (Rm hn x4 yq Oa Oa (show¬(∃k,0<=k/\k<s.n/\s.X k<0) by first|assumption|exact fun hh=>absurd hh ‹_›)),hS.nl⟩
   iterate 3 refine zlo ?_
   refine(On)<|zx1<|Oj ?_
   exact⟨Zi (by rintro⟨g1,g2,g3⟩;first|omega|(obtain⟨k,k0,k1,hk⟩:=(show∃k,0<=k/\k<s.n/\s.X k<0 by first|assumption|exact Od (by assumption));have:=g3 k k0 k1;omega)),hS.nl⟩
  iterate 5 refine zlo ?_
  refine zs2 ?_
  iterate 3 refine zlo ?_
  refine(On)<|zx1<|Oj ?_
  exact⟨Zi (by rintro⟨g1,g2,g3⟩;first|omega|(obtain⟨k,k0,k1,hk⟩:=(show∃k,0<=k/\k<s.n/\s.X k<0 by first|assumption|exact Od (by assumption));have:=g3 k k0 k1;omega)),hS.nl⟩
 iterate 3 refine zlo ?_
 refine zs2 ?_
 iterate 5 refine zlo ?_
 refine zs2 ?_
 iterate 3 refine zlo ?_
 refine(On)<|zx1<|Oj ?_
 exact⟨Zi (by rintro⟨g1,g2,g3⟩;first|omega|(obtain⟨k,k0,k1,hk⟩:=(show∃k,0<=k/\k<s.n/\s.X k<0 by first|assumption|exact Od (by assumption));have:=g3 k k0 k1;omega)),hS.nl⟩
end Go.Proofs.YtpnamgfdakfccaaGreat
namespace Go.Proofs.YtpnamgfdakfccaaGreat
open Go Go.RowKit Go.Proofs.Gw
theorem ZlK:Zc Om 281=true:=Oc
theorem Zj6:Zc Om 42=true:=Oc
theorem Zgx:ZM Om 297=some (.agg #[.int Oi 0,.int Oi 0],2,16):=Oc
theorem Td:Zw Om 297=some 2:=Oc
theorem Zf6{x y:Int}(hx:0<=x)(hy:1<=y):1<=(Int.gcd x y:Int):=by
 have:Int.gcd x y≠0:=fun h=>by have:=(Int.gcd_eq_zero_iff.1 h).2;omega
 omega
def Zpm(s:So)(x y e:Int):Prop:=(¬YZ s/\x=0/\y=0/\e=1)\/(YZ s/\x=s.val.tdiv (Int.gcd s.val s.den)/\y=s.den.tdiv (Int.gcd s.val s.den)/\e=0)
theorem ZeP{vX vY:Value}{s:So}(w0:World)(hX:Row w0 vX 1 s.n (ints s.X))(hY:Row w0 vY 1 s.m (ints s.Y))(xZ:s.n<=1000):
   Calls Om 224 [.agg #[vX,vY,.int Oi s.val,.int Oi s.den]].toArray w0 fun e w=>∃v,e= .returned v/\∃(x y e:Int),v= .tuple #[.agg #[.int Oi x,.int Oi y],.int Oi e]/\Zpm s x y e/\Sat w0 w []:=by
 have hn:=hX.slh.n0;have hn1:=hX.slh.n1
 refine zenG Tryz.func224 Tryz.ntmps224 fun w hS=> ?_
 refine zsr<|zla (xbx (cs:= [_,_,_,_]) hS) ?_;rintro _ w ⟨g1,rfl,hS⟩
 refine zla (xal (cs:= [_,_]) Zgx hS) ?_;rintro _ w ⟨g2,rfl,hS⟩
 refine(zP)<|zx5<|(zV (xls 0 ZV hS))<|zlc (xc0 Zj6) (R9 (s:=s) w (hX.below hS.below) (hY.below hS.below) Oa) ?_;rintro _ w ⟨rfl,hS'⟩
 replace hS:=hS.cmp hS';clear hS'
 refine(zP)<|zlt<|Zf ?_ ?_<;>intro hc
 ·
  refine zsr<|(zV (xany (v:= .agg #[.int Oi 0,.int Oi 0])))<|zle (xsw 1 Td hS) ?_;clear hS;rintro w hS
  refine(zP)<|zx14<|Yk 1 Td hS ⟨_,rfl,?_⟩
  exact⟨0,0,1,rfl,.inl ⟨‹¬YZ s›,rfl,rfl,rfl⟩,hS.nl⟩
 refine ZY<|zlv (xfb 2 fd_54_2) ?_
 have hsd:YZ s:=by first|assumption|exact Od ‹_›
 obtain⟨⟨d1,d2⟩,⟨d3,d4⟩,d5⟩:=id hsd
 refine(zV (xlb 0 pl_3 hS))<|(zV (xfb 3 fd_54_3))<|(zV (xlb 0 pl_3 hS))<|zlc (xc0 ZlK) (ZoK (x:=s.val) (y:=s.den) w Oa Oa) ?_;rintro _ w ⟨rfl,hS'⟩
 replace hS:=hS.cmp hS';clear hS'
 refine zlv xas ?_
 have hgp:=Zf6 (x:=s.val) (y:=s.den) Oa Oa
 have hq1:=Xk (a:=s.val) (d:=(Int.gcd s.val s.den:Int)) (A:=9223372036854775807) hgp Oa
 have hq2:=Xk (a:=s.den) (d:=(Int.gcd s.val s.den:Int)) (A:=9223372036854775807) hgp Oa
 refine zx7<|zdst [0,1] [0] 9 mx_ hS ?_;clear hS;intro w hS
 refine(zDw 0 (xfb 2 fd_54_2))<|(zDl 1 (fun w hS=>(xlb 0 pl_3 hS)))<|(zDw 2 xmv)<|(zDw 3 (UK (r:=(Int.tdiv s.val (Int.gcd s.val s.den:Int)))))<|(zDw 4 (xfb 3 fd_54_3))<|(zDl 5 (fun w hS=>(xlb 0 pl_3 hS)))<|(zDw 6 xmv)<|(zDw 7 (UK (r:=(Int.tdiv s.den (Int.gcd s.val s.den:Int)))))<|(zDw 8 (xany (v:= .agg #[.int Oi (Int.tdiv s.val (Int.gcd s.val s.den:Int)),.int Oi (Int.tdiv s.den (Int.gcd s.val s.den:Int))])))<|zde 9 (xsw 1 Td hS) ?_;clear hS;rintro w hS
 refine⟨⟨fun h=>absurd h (by decide),hS.pk [0]⟩,?_⟩
 refine(zDw 10 xas)<|zdd<|ztn<|zrt<|Yk 1 Td hS ⟨_,rfl,?_⟩
 exact⟨_,_,0,rfl,.inr ⟨hsd,rfl,rfl,rfl⟩,hS.nl⟩
def Zeo(p:Prob)(i:Int):Of:=fun j=>if j=i then min (p.D i) ((p.stock+p.kerf).tdiv (p.L i+p.kerf)) else 0
theorem ZfG(p:Prob)(i:Int):upd (fun _=>0) i (min (p.D i) ((p.stock+p.kerf).tdiv (p.L i+p.kerf)))=Zeo p i:=by
 funext j;unfold upd Zeo;rfl
theorem ZoD{vL vD:Value}{p:Prob}{gp:Nat}{i:Int}(w0:World)(hG:(Ent.blk gp [vL,vD,.int Oi p.stock,.int Oi p.kerf]).holds w0)(h:PAt w0 vL vD p)(hok:p.Ok)(i0:0<=i)(i1:i<p.m):
   Calls Om 158 [.int Oi i,Or gp].toArray w0 fun e w=>∃v,e= .returned v/\∃r,v=r/\Slh r p.m/\Sat w0 w [.own r 1 3 p.m (ints (Zeo p i))]:=by
 obtain⟨hm,hm1,hd,hd1,hs,hk⟩:=h.Oq
 have hpd:=hok.d;have hpm:=hok.m1;have qX:=hok.m2;have hs1:=hok.s1;have hs2:=hok.s2;have hk1:=hok.k1;have hk2:=hok.k2;have he:=hok.all i i0 i1;unfold Prob.each at he
 have hqd:=Xk (a:=p.stock+p.kerf) (d:=p.L i+p.kerf) (A:=2100) Oa Oa
 refine zenG Tryz.func158 Tryz.ntmps158 fun w hS=> ?_
 refine zsr<|(zP)<|zlz<|(zV (xfb 0 fd_27_0))<|(zV (xlf pl_22 (Ent.holds.cell hG (o:=0) rfl) hS))<|(zV (xln Zb h.L.slh))<|zla (xmk Zb ZG hS) ?_;rintro v1 w ⟨hS,hv1⟩
 refine(zP)<|zx7<|zdst [0] [] 23 mx_ hS ?_;clear hS;intro w hS
 refine(zDw 0 xmv)<|(zDw 1 xmv)<|(zDw 2 (xfb 1 fd_27_1))<|(zDl 3 (fun w hS=>(xlf pl_22 (Ent.holds.cell hG (o:=1) rfl) hS)))<|(zDw 4 xmv)<|(zDw 5 (xix (kk:=i) Zb h.D.slh))<|YB 6 (fun w hS=>(xlr (u:= .int Oi (p.D i)) pl_3 (h.D.below hS.below))) ?_
 have hbv:=h.iD i
 refine(zDw 7 (xfb 2 fd_27_2))<|(zDl 8 (fun w hS=>(xlf pl_3 (Ent.holds.cell hG (o:=2) rfl) hS)))<|(zDw 9 (xfb 3 fd_27_3))<|(zDl 10 (fun w hS=>(xlf pl_3 (Ent.holds.cell hG (o:=3) rfl) hS)))<|(zDw 11 (Zg (r:=p.stock+p.kerf)))<|(zDw 12 (xfb 0 fd_27_0))<|(zDl 13 (fun w hS=>(xlf pl_22 (Ent.holds.cell hG (o:=0) rfl) hS)))<|(zDw 14 xmv)<|(zDw 15 (xix (kk:=i) Zb h.L.slh))<|YB 16 (fun w hS=>(xlr (u:= .int Oi (p.L i)) pl_3 (h.L.below hS.below))) ?_
 have hbv:=h.iL i
 refine(zDw 17 (xfb 3 fd_27_3))<|(zDl 18 (fun w hS=>(xlf pl_3 (Ent.holds.cell hG (o:=3) rfl) hS)))<|(zDw 19 (Zg (r:=p.L i+p.kerf)))<|(zDw 20 (UK (r:=(Int.tdiv (p.stock+p.kerf) (p.L i+p.kerf)))))<|(zDw 21 (TU (r:=(min (p.D i) (Int.tdiv (p.stock+p.kerf) (p.L i+p.kerf))))))<|(zDw 22 (xix (kk:=i) Zb hv1))<|zde 23 (xso 0 pl_3 hS (ZA _ _ _)) ?_;clear hS;rintro w hS
 refine⟨⟨fun h=>absurd h (by decide),hS.nl⟩,?_⟩
 refine zdd<|ztn<|zsr ?_
 refine(On)<|zx1<|Oj ?_
 rw [ZfG] at hS
 exact⟨_,rfl,hv1,hS⟩
variable {i:Int}
theorem Zmi:Zc Om 158=true:=Oc
def stN(p:Prob):Nat->Int
  |0=>0
  |k+1=>if 0<p.D k then stN p k+1 else stN p k
def stL(p:Prob):Nat->Int->Int
  |0=>fun _=>0
  |k+1=>if 0<p.D k then gsn (stL p k) (stN p k) p.m else stL p k
def stG(p:Prob):Nat->Int->Int->Int
  |0=>fun _ _=>0
  |k+1=>if 0<p.D k then gsn (stG p k) (stN p k) (Zeo p k) else stG p k
theorem ZaU(p:Prob)(h:0<=i):stN p (i+1).toNat=if 0<p.D i then stN p i.toNat+1 else stN p i.toNat:=by
 obtain⟨k,rfl⟩:=Int.eq_ofNat_of_zero_le h;rw [show((k:Int)+1).toNat=k+1 by omega,Int.toNat_natCast];rfl
theorem ZaV(p:Prob)(h:0<=i):stL p (i+1).toNat=if 0<p.D i then gsn (stL p i.toNat) (stN p i.toNat) p.m else stL p i.toNat:=by
 obtain⟨k,rfl⟩:=Int.eq_ofNat_of_zero_le h;rw [show((k:Int)+1).toNat=k+1 by omega,Int.toNat_natCast];rfl
theorem ZaW(p:Prob)(h:0<=i):stG p (i+1).toNat=if 0<p.D i then gsn (stG p i.toNat) (stN p i.toNat) (Zeo p i) else stG p i.toNat:=by
 obtain⟨k,rfl⟩:=Int.eq_ofNat_of_zero_le h;rw [show((k:Int)+1).toNat=k+1 by omega,Int.toNat_natCast];rfl
theorem KA(p:Prob):∀k:Nat,0<=stN p k/\stN p k<=k
 |0=>by simp [stN]
 | k+1=>by
   have:=KA p k
   simp only [stN];split<;>omega
def Zd3(p:Prob)(n:Int)(ln:Of)(g:Og)(e:Int):Prop:=(¬p.Ok/\n=0/\e=1)\/(p.Ok/\n=stN p p.m.toNat/\ln=stL p p.m.toNat/\g=stG p p.m.toNat/\e=0)
theorem Zhf{vL vD:Value}{p:Prob}(w0:World)(h:PAt w0 vL vD p):
   Calls Om 85 [.agg #[vL,vD,.int Oi p.stock,.int Oi p.kerf]].toArray w0 fun e w=>∃v,e= .returned v/\∃r n vv ln g e,v= .tuple #[r,.int Oi e]/\Zd3 p n ln g e/\Slh r n/\Sat w0 w [.own r 1 22 n vv,.sem (Frame.rows 3 n vv ln g)]:=by
 obtain⟨hm,hm1,hd,hd1,hs,hk⟩:=h.Oq
 refine zenG Tryz.func85 Tryz.ntmps85 fun w hS=> ?_
 refine zsr<|zla (xbx (cs:= [_,_,_,_]) hS) ?_;rintro _ w ⟨g1,rfl,hS⟩
 refine(On)<|zx5<|(zV (xls 0 st_27 hS))<|zlc (xc0 XJ) (Z8 (p:=p) w (h.below hS.below)) ?_;rintro _ w ⟨rfl,hS'⟩
 replace hS:=hS.cmp hS';clear hS'
 refine(zP)<|zlt<|Zf ?_ ?_<;>intro hc
 ·
  refine zsr<|(On)<|zx14<|zf2 ⟨_,rfl,?_⟩
  exact⟨_,0,fun _=>undef,fun _=>0,fun _ _=>0,1,rfl,.inl ⟨‹¬p.Ok›,rfl,rfl⟩,slh_nil,((hS.sub (.cons _ .slnil)).addnil 1 22 (fun _=>undef)).addrows 3 (fun _=>undef) (fun _=>0) (fun _ _=>0)⟩
 refine ZY<|(zV xmf)<|(zP)<|zlz<|(zP)<|zx5<|(zV (xfb 1 fd_27_1))<|(zV (xlb 0 pl_22 hS))<|(zV (xln Zb h.D.slh))<|(zP)<|zx6 ?_
 have hok:p.Ok:=by first|assumption|exact Od ‹_›
 have hpd:=hok.d;have hpm:=hok.m1;have qX:=hok.m2
 replace hS:=hS.addnil 1 22 (fun _=>Oh)
 replace hS:=hS.addrows 3 (fun _=>Oh) (fun _=>0) (fun _ _=>0)
 have aK:=fun k (k0:0<=k) (k1:k<0)=>hS.slhIn 2 rfl k0 k1
 refine zlp (fun mm M w=>∃(nC:Int) (wv:Int->Value) (lC:Of) (gC:Og) (i:Int) (wC:Value),mm=((p.d-i).toNat)/\(0<=i)/\(i<=p.d)/\(nC=stN p i.toNat)/\(lC=stL p i.toNat)/\(gC=stG p i.toNat)/\(Slh wC nC)/\M= [(2,Oh),(3,.int Oi 0),(4,.func (.func 158) #[] #[Or g1]),(5,wC),(13,vD),(14,.int Oi p.d),(15,.int Oi i)]/\Sat w0 w [.blk g1 [vL,vD,.int Oi p.stock,.int Oi p.kerf],.own wC 1 22 nC wv,.sem (Frame.rows 3 nC wv lC gC)]) ⟨0,(fun _=>Oh),(fun _=>0),(fun _ _=>0),0,Oh,rfl,Oa,Oa,?_,?_,?_,?_,rfl,hS⟩ ?_
 ·
  rfl
 ·
  rfl
 ·
  rfl
 ·
  exact slh_nil
 clear hS w
 rintro mm M w ⟨nC,wv,lC,gC,i,wC,rfl,h0,h1,hnC,hlC,hgC,hwC,rfl,hS⟩
 have xl:=fun k (k0:0<=k) (k1:k<nC)=>hS.slhIn 2 rfl k0 k1
 have hnr:=KA p i.toNat
 refine zsr<|(zP)<|zx7<|Zf ?_ ?_<;>intro hc
 ·
  refine zx3<|(zP)<|(zV (xix (kk:=i) Zb h.D.slh))<|zlv (xlr (u:= .int Oi (p.D i)) pl_3 (h.D.below hS.below)) ?_
  have hbv:=h.iD i
  refine(On)<|zlz<|(On)<|zlt<|Zf ?_ ?_<;>intro hc
  ·
   refine zrg<|(Oo)<|zlc (xcc (vs:= [_]) Zmi) (ZoD (p:=p) (i:=i) w (hS.holds _ (List.mem_of_getElem? (i:=0) rfl)) (h.below hS.below) hok Oa Oa) ?_;rintro bq w ⟨_,rfl,bN,hS'⟩
   replace hS:=(hS.comp hS').n4;clear hS'
   refine zla (xli (n:=1) (len:=1) (pv:= [(0,bq)]) (cs:= [bq]) (c:=(fun _=>bq)) Zk Yj hS (hf:=by obtain⟨_,_,_,_,rfl,_⟩:=bN;kernel_rfl)) ?_;rintro v1 w ⟨hS,hv1⟩
   refine zla (xap 1 (r:=nC+1) Zk Yj hS (hS.rowN 4 rfl) (Wv _ _ _) (h1:=fun _ _ _=>bN.one)) ?_;rintro v2 w ⟨hS,hv2⟩
   replace hS:=Sat.merge (l1:= [_,_]) (l2:= []) (l3:= [_]) hS Oa
   have y4:=fun k (k0:0<=k) (k1:k<nC+1)=>hS.slhIn 2 rfl k0 k1
   refine(zP)<|zx10<|(zV (Zg (r:=i+1)))<|(zP)<|zln<|zlq ⟨nC+1,gsn wv nC bq,gsn lC nC p.m,gsn gC nC (Zeo p i),i+1,v2,rfl,Oa,Oa,?_,?_,?_,?_,rfl,hS.pk [0,1,2]⟩
   ·
    rw [ZaU p h0,<-hnC];first|rw [if_pos Oa]|rw [if_neg Oa]
   ·
    rw [ZaV p h0,<-hlC,<-hnC];first|rw [if_pos Oa]|rw [if_neg Oa]
   ·
    rw [ZaW p h0,<-hgC,<-hnC];first|rw [if_pos Oa]|rw [if_neg Oa]
   ·
    exact hv2
  refine zx4<|(zV (Zg (r:=i+1)))<|(zP)<|zln<|zlq ⟨nC,wv,lC,gC,i+1,wC,rfl,Oa,Oa,?_,?_,?_,?_,rfl,hS⟩
  ·
   rw [ZaU p h0,<-hnC];first|rw [if_pos Oa]|rw [if_neg Oa]
  ·
   rw [ZaV p h0,<-hlC,<-hnC];first|rw [if_pos Oa]|rw [if_neg Oa]
  ·
   rw [ZaW p h0,<-hgC,<-hnC];first|rw [if_pos Oa]|rw [if_neg Oa]
  ·
   exact hwC
 refine zx8<|(Oo)<|zx1<|zf2 ⟨_,rfl,?_⟩
 have him:i=p.m:=Oa
 rw [him] at hnC hlC hgC
 exact⟨_,_,_,_,_,0,rfl,.inr ⟨hok,hnC,hlC,hgC,rfl⟩,hwC,hS.pk [1,2]⟩
end Go.Proofs.YtpnamgfdakfccaaGreat
namespace Go.Proofs.Gw
open Go Go.RowKit
theorem bnd{P:Int->Prop}{n:Int}(h:∀k,k<n.toNat->P (k:Int)):∀i,0<=i->i<n->P i:=fun i i0 i1=>by
 have:=h i.toNat Oa;rwa [Int.toNat_of_nonneg i0] at this
def pEx:Lp:=⟨2,2,2,fun k=> [1,1].getD k.toNat 0,ZW 2 2,ZW (fun k=> [2,1].getD k.toNat 0) (fun k=> [1,3].getD k.toNat 0),fun k=> [3,4].getD k.toNat 0⟩
theorem Zx(pv:Int->Value)(cnt:Of){k i:Int}(h:k=2*i):∀(j:Nat) u, [pv i,Value.int Oi (cnt i)][j]? =some u->Ze pv cnt (k+j)=u:=fun j u hu=>by
 rcases j with _|_|j
 · cases hu;exact ZhU pv cnt Oa
 · cases hu;exact Zc8 pv cnt Oa
 · simp at hu
theorem Xb{pv:Int->Value}{cnt:Of}(h:∀i,(pv i).oneCell'=true)(k:Int):(Ze pv cnt k).oneCell'=true:=by
 unfold Ze
 split
 · exact h _
 · rfl
theorem Xg(pv:Int->Value)(cnt:Of)(n:Int)(r:Value)(x:Int):cat (n*2) (Ze pv cnt) (Ze (fun _=>r) (fun _=>x))=Ze (gsn pv n r) (snoc cnt n x):=by
 funext k
 unfold cat Ze gsn snoc
 by_cases h:k<n*2
 · have h2:k/2<n:=Oa
   simp only [if_pos h,if_pos h2]
 · have h2:¬k/2<n:=Oa
   simp only [if_neg h,if_neg h2]
   by_cases e:k%2=0
   · rw [if_pos e,if_pos Oa]
   · rw [if_neg e,if_neg Oa]
theorem ZaO(pv:Int->Value)(cnt:Of){k i x:Int}(h:k=2*i+1):upd (Ze pv cnt) k (.int Oi x)=Ze pv (upd cnt i x):=by
 funext j;unfold upd Ze;dsimp only
 by_cases e:j=k
 · rw [if_pos e,if_neg Oa,if_pos Oa]
 · rw [if_neg e]
   by_cases e0:j%2=0
   · rw [if_pos e0,if_pos e0]
   · rw [if_neg e0,if_neg e0,if_neg Oa]
structure VAt (w:World) (v:Value) (n:Int) (pv:Int->Value) (ln:Of) (pt:Og) (cnt:Of):Prop where
  row:Row w v 2 n (Ze pv cnt)
  p:∀i,0<=i->i<n->Row w (pv i) 1 (ln i) (ints (pt i))
  room:∀i,0<=i->i<n->WR (pv i)
theorem VAt.below{w w':World}{v:Value}{n:Int}{pv:Int->Value}{ln:Of}{pt:Og}{cnt:Of}(h:VAt w v n pv ln pt cnt)(hb:Below w.heap.size w w'):VAt w' v n pv ln pt cnt:=
 ⟨h.row.below hb,fun i h0 h1=>(h.p i h0 h1).below hb,h.room⟩
end Go.Proofs.Gw
namespace Go.Proofs.YtpnamgfdakfccaaGreat
open Go Go.RowKit Go.Proofs.Gw
variable {i:Int}
theorem YW:ZM Om 97=some (.agg #[Oh,.int Oi 0],2,32):=Oc
theorem ZQ:Zr Om 29=some (97,2):=Oc
def flN(s:So):Nat->Int
  |0=>0
  |k+1=>if s.den<=s.X k then flN s k+1 else flN s k
def flL(s:So)(ml:Of):Nat->Int->Int
  |0=>fun _=>0
  |k+1=>if s.den<=s.X k then gsn (flL s ml k) (flN s k) (ml k) else flL s ml k
def flG(s:So)(mf:Og):Nat->Int->Int->Int
  |0=>fun _ _=>0
  |k+1=>if s.den<=s.X k then gsn (flG s mf k) (flN s k) (mf k) else flG s mf k
def flC(s:So):Nat->Int->Int
  |0=>fun _=>0
  |k+1=>if s.den<=s.X k then snoc (flC s k) (flN s k) ((s.X k).tdiv s.den) else flC s k
theorem ZbD(s:So)(h:0<=i):flN s (i+1).toNat=if s.den<=s.X i then flN s i.toNat+1 else flN s i.toNat:=by
 obtain⟨k,rfl⟩:=Int.eq_ofNat_of_zero_le h;rw [show((k:Int)+1).toNat=k+1 by omega,Int.toNat_natCast];rfl
theorem ZbE(s:So)(ml:Of)(h:0<=i):flL s ml (i+1).toNat=if s.den<=s.X i then gsn (flL s ml i.toNat) (flN s i.toNat) (ml i) else flL s ml i.toNat:=by
 obtain⟨k,rfl⟩:=Int.eq_ofNat_of_zero_le h;rw [show((k:Int)+1).toNat=k+1 by omega,Int.toNat_natCast];rfl
theorem ZbF(s:So)(mf:Og)(h:0<=i):flG s mf (i+1).toNat=if s.den<=s.X i then gsn (flG s mf i.toNat) (flN s i.toNat) (mf i) else flG s mf i.toNat:=by
 obtain⟨k,rfl⟩:=Int.eq_ofNat_of_zero_le h;rw [show((k:Int)+1).toNat=k+1 by omega,Int.toNat_natCast];rfl
theorem ZbG(s:So)(h:0<=i):flC s (i+1).toNat=if s.den<=s.X i then snoc (flC s i.toNat) (flN s i.toNat) ((s.X i).tdiv s.den) else flC s i.toNat:=by
 obtain⟨k,rfl⟩:=Int.eq_ofNat_of_zero_le h;rw [show((k:Int)+1).toNat=k+1 by omega,Int.toNat_natCast];rfl
theorem K9(s:So):∀k:Nat,0<=flN s k/\flN s k<=k
 |0=>by simp [flN]
 | k+1=>by
   have:=K9 s k
   simp only [flN];split<;>omega
def Znv(s:So)(u:Int)(ml:Of)(mf:Og)(n:Int)(ln:Of)(pt:Og)(cnt:Of)(e:Int):Prop:=
  (¬(YZ s/\u=s.n)/\n=0/\e=1)\/(YZ s/\u=s.n/\n=flN s u.toNat/\ln=flL s ml u.toNat/\pt=flG s mf u.toNat/\cnt=flC s u.toNat/\e=0)
theorem ZeV{vM:Value}{u:Int}{mv:Int->Value}{ml:Of}{mf:Og}{vX vY:Value}{s:So}(w0:World)(hM:MAt w0 vM u mv ml mf)(hX:Row w0 vX 1 s.n (ints s.X))(hY:Row w0 vY 1 s.m (ints s.Y))(xZ:s.n<=1000)(hml:∀k,0<=k->k<u->ml k<=100000):
   Calls Om 150 [vM,.agg #[vX,vY,.int Oi s.val,.int Oi s.den]].toArray w0 fun e w=>∃v,e= .returned v/\∃r n pv ln pt cnt e,v= .tuple #[r,.int Oi e]/\Znv s u ml mf n ln pt cnt e/\Slh r n/\Sat w0 w [.own r 2 97 n (Ze pv cnt),.sem (Frame.rows 3 n pv ln pt)]:=by
 have hn:=hX.slh.n0;have hn1:=hX.slh.n1
 have hu:=hM.row.slh.n0;have hu1:=hM.row.slh.n1
 refine zenG Tryz.func150 Tryz.ntmps150 fun w hS=> ?_
 refine zsr<|zla (xbx (cs:= [_,_,_,_]) hS) ?_;rintro _ w ⟨g1,rfl,hS⟩
 refine(On)<|zx5<|(zV (xls 0 ZV hS))<|zlc (xc0 Zj6) (R9 (s:=s) w (hX.below hS.below) (hY.below hS.below) Oa) ?_;rintro _ w ⟨rfl,hS'⟩
 replace hS:=hS.cmp hS';clear hS'
 refine(On)<|zlb 12 ?_ ?_<;>intro hc
 ·
  iterate 6 refine zlo ?_
  refine(zP)<|zlt<|zct<|zsr ?_
  refine(On)<|zx14<|zf2 ⟨_,rfl,?_⟩
  exact⟨_,0,fun _=>undef,fun _=>0,fun _ _=>0,fun _=>0,1,rfl,.inl ⟨by first|exact fun hh=>absurd hh.1 ‹¬YZ s›|(rintro⟨_,hh⟩;omega),rfl,rfl⟩,slh_nil,((hS.sub (.cons _ .slnil)).addnil 2 97 (Ze (fun _=>undef) (fun _=>0))).addrows 3 (fun _=>undef) (fun _=>0) (fun _ _=>0)⟩
 refine(zP)<|(zV (xln Zk hM.row.slh))<|(zV (xfb 0 fd_54_0))<|(zV (xlb 0 pl_22 hS))<|(zV (xln Zb hX.slh))<|(On)<|zlt<|Zf ?_ ?_<;>intro hc
 ·
  refine zsr<|(On)<|zx14<|zf2 ⟨_,rfl,?_⟩
  exact⟨_,0,fun _=>undef,fun _=>0,fun _ _=>0,fun _=>0,1,rfl,.inl ⟨by first|exact fun hh=>absurd hh.1 ‹¬YZ s›|(rintro⟨_,hh⟩;omega),rfl,rfl⟩,slh_nil,((hS.sub (.cons _ .slnil)).addnil 2 97 (Ze (fun _=>undef) (fun _=>0))).addrows 3 (fun _=>undef) (fun _=>0) (fun _ _=>0)⟩
 refine ZY<|(zP)<|zx5<|(zV (xfb 0 fd_54_0))<|(zV (xlb 0 pl_22 hS))<|(zV (xln Zb hX.slh))<|(zP)<|zx6 ?_
 have hsd:YZ s:=by first|assumption|exact Od ‹_›
 obtain⟨⟨d1,d2⟩,⟨d3,d4⟩,d5⟩:=id hsd
 have hun:u=s.n:=Oa
 replace hS:=hS.addnil 2 97 (Ze (fun _=>Oh) (fun _=>0))
 replace hS:=hS.addrows 3 (fun _=>Oh) (fun _=>0) (fun _ _=>0)
 have aK:=fun k (k0:0<=k) (k1:k<0)=>hS.slhIn 2 rfl k0 k1
 refine zlp (fun mm M w=>∃(nC:Int) (wv:Int->Value) (lC:Of) (gC:Og) (cC:Of) (i:Int) (wC:Value),mm=((s.n-i).toNat)/\(0<=i)/\(i<=s.n)/\(nC=flN s i.toNat)/\(lC=flL s ml i.toNat)/\(gC=flG s mf i.toNat)/\(cC=flC s i.toNat)/\(Slh wC nC)/\M= [(0,vM),(3,Or g1),(4,Oh),(5,.int Oi 0),(6,wC),(21,vX),(22,.int Oi s.n),(23,.int Oi i)]/\Sat w0 w [.blk g1 [vX,vY,.int Oi s.val,.int Oi s.den],.own wC 2 97 nC (Ze wv cC),.sem (Frame.rows 3 nC wv lC gC)]) ⟨0,(fun _=>Oh),(fun _=>0),(fun _ _=>0),(fun _=>0),0,Oh,rfl,Oa,Oa,?_,?_,?_,?_,?_,rfl,hS⟩ ?_
 ·
  rfl
 ·
  rfl
 ·
  rfl
 ·
  rfl
 ·
  exact slh_nil
 clear hS w
 rintro mm M w ⟨nC,wv,lC,gC,cC,i,wC,rfl,h0,h1,hnC,hlC,hgC,hcC,hwC,rfl,hS⟩
 have xl:=fun k (k0:0<=k) (k1:k<nC)=>hS.slhIn 2 rfl k0 k1
 have hnr:=K9 s i.toNat
 refine zsr<|(zP)<|zx7<|Zf ?_ ?_<;>intro hc
 ·
  refine zx3<|(zP)<|(zV (xix (kk:=i) Zb hX.slh))<|(zV (xlr (u:= .int Oi (s.X i)) pl_3 (hX.below hS.below)))<|(On)<|zlz<|(zP)<|(zV (xfb 3 fd_54_3))<|(zV (xlb 0 pl_3 hS))<|(zP)<|zlt<|Zf ?_ ?_<;>intro hc
  ·
   refine zdst [0] [0] 1000 mx_ hS ?_;clear hS;intro w hS
   refine(zDw 0 xmv)<|(zDw 1 xmv)<|(zDw 2 xmv)<|(zDw 3 (xix (kk:=i) Zk hM.row.slh))<|YB 4 (fun w hS=>(xlr (u:=(mv i)) pl_22 (hM.row.below hS.below))) ?_
   have kK:=hml i h0 Oa
   refine(zDw 6 xmv)<|(zDw 7 (xfb 3 fd_54_3))<|YB 8 (fun w hS=>(xlb 0 pl_3 hS)) ?_
   have hqd:=Xk (a:=s.X i) (d:=s.den) (A:=1073741824) Oa (by have:=d5 i h0 Oa;omega)
   refine(zDw 9 (UK (r:=(Int.tdiv (s.X i) s.den))))<|zdc 5 (xc0 cl_66) (c_clone (n:=(ml i)) (f:=(mf i)) w ((hM.p i Oa Oa).below hS.below) Oa) ?_;rintro vq1 w ⟨_,rfl,qb,hS'⟩
   replace hS:=(hS.comp hS').n4;clear hS'
   refine⟨⟨fun _=>hS.pk [0],hS.pk [0]⟩,?_⟩
   refine zDrv 10 (xany (v:= .agg #[vq1,.int Oi (Int.tdiv (s.X i) s.den)]) (hr:=by obtain⟨_,_,_,_,rfl,_⟩:=qb;kernel_rfl)) ?_
   refine zda 11 (xli (n:=1) (len:=1) (pv:= [(0,.agg #[vq1,.int Oi (Int.tdiv (s.X i) s.den)])]) (cs:= [vq1,.int Oi (Int.tdiv (s.X i) s.den)]) (c:=Ze (fun _=>vq1) (fun _=>(Int.tdiv (s.X i) s.den))) ZQ YW hS (hf:=by obtain⟨_,_,_,_,rfl,_⟩:=qb;kernel_rfl)) ?_;rintro v1 w ⟨hS,hv1⟩
   refine⟨⟨fun _=>hS.pk [0],hS.pk [0]⟩,?_⟩
   refine zda 12 (xap 1 (r:=nC+1) ZQ YW hS (hS.rowN 4 rfl) (Xg _ _ _ _ _) (h1:=fun k _ _=>Xb (fun _=>qb.one) k)) ?_;rintro v2 w ⟨hS,hv2⟩
   replace hS:=Sat.merge (l1:= [_,_]) (l2:= []) (l3:= [_]) hS Oa
   have y4:=fun k (k0:0<=k) (k1:k<nC+1)=>hS.slhIn 2 rfl k0 k1
   refine⟨⟨fun _=>hS.pk [0],hS.pk [0]⟩,?_⟩
   refine(zDw 13 xas)<|zdd<|zbn<|ztn<|zrg ?_
   refine(zV (Zg (r:=i+1)))<|(zP)<|zln<|zlq ⟨nC+1,gsn wv nC vq1,gsn lC nC (ml i),gsn gC nC (mf i),(snoc cC nC (Int.tdiv (s.X i) s.den)),i+1,v2,rfl,Oa,Oa,?_,?_,?_,?_,?_,rfl,hS.pk [0,1,2]⟩
   ·
    rw [ZbD s h0,<-hnC];first|rw [if_pos Oa]|rw [if_neg Oa]
   ·
    rw [ZbE s ml h0,<-hlC,<-hnC];first|rw [if_pos Oa]|rw [if_neg Oa]
   ·
    rw [ZbF s mf h0,<-hgC,<-hnC];first|rw [if_pos Oa]|rw [if_neg Oa]
   ·
    rw [ZbG s h0,<-hcC,<-hnC];first|rw [if_pos Oa]|rw [if_neg Oa]
   ·
    exact hv2
  refine zx4<|(zV (Zg (r:=i+1)))<|(zP)<|zln<|zlq ⟨nC,wv,lC,gC,cC,i+1,wC,rfl,Oa,Oa,?_,?_,?_,?_,?_,rfl,hS⟩
  ·
   rw [ZbD s h0,<-hnC];first|rw [if_pos Oa]|rw [if_neg Oa]
  ·
   rw [ZbE s ml h0,<-hlC,<-hnC];first|rw [if_pos Oa]|rw [if_neg Oa]
  ·
   rw [ZbF s mf h0,<-hgC,<-hnC];first|rw [if_pos Oa]|rw [if_neg Oa]
  ·
   rw [ZbG s h0,<-hcC,<-hnC];first|rw [if_pos Oa]|rw [if_neg Oa]
  ·
   exact hwC
 refine zx8<|(Oo)<|zx1<|zf2 ⟨_,rfl,?_⟩
 have him:i=u:=Oa
 rw [him] at hnC hlC hgC hcC
 exact⟨_,_,_,_,_,_,0,rfl,.inr ⟨hsd,hun,hnC,hlC,hgC,hcC,rfl⟩,hwC,hS.pk [1,2]⟩
end Go.Proofs.YtpnamgfdakfccaaGreat
namespace Go.Proofs.Gw
open Go Go.RowKit
def Frame.dq (E:TypeId) (v:Value) (n:Int) (f:Of):Frame where
  holds w:=0<=n/\n<=140737488355328/\((v=Oh/\n=0)\/∃g off cap cur,v= .slice (some ⟨g,off,none⟩) n.toNat cap/\w.heap[g]? =some (.cells cur E (0,0))/\n.toNat<=cap/\cap<=maxLen/\off+cap<=cur.size/\
    ∀k:Nat,(k:Int)<n->cur[off+k]? =some (.int Oi (f k)))
  has g:=∃a l c,v= .slice (some a) l c/\a.block=g
  keep h hk:=by
    obtain⟨h0,h1,h|⟨g,off,cap,cur,rfl,hg,h⟩⟩:=h
    · exact⟨h0,h1,.inl h⟩
    · exact⟨h0,h1,.inr ⟨g,off,cap,cur,rfl,by rw [hk g ⟨_,_,_,rfl,rfl⟩];exact hg,h⟩⟩
  lt h hg:=by
    obtain⟨_,_,h|⟨g,off,cap,cur,rfl,h2,_⟩⟩:=h
    · obtain⟨rfl,_⟩:=h;obtain⟨_,_,_,e,_⟩:=hg;cases e
    · obtain⟨_,_,_,e,rfl⟩:=hg;cases e;exact(Array.getElem?_eq_some_iff.1 h2).1
section
variable {P:Program} {L:List (Nat×Value)} {w w0:World} {o:Oper} {x y z:Operand} {T T':TypeId} {l:List Ent} {E:TypeId} {v:Value} {n:Int} {f:Of}
theorem Frame.dq.row(h:(Frame.dq E v n f).holds w):Row w v 1 n (ints f):=by
 obtain⟨h0,h1,⟨rfl,rfl⟩|⟨g,off,cap,cur,rfl,hg,_,_,_,hc⟩⟩:=h
 · exact VD _ _ _
 · refine⟨⟨h0,h1,_,_,rfl,.inr ⟨g,off,rfl⟩⟩,fun k hk=> ?_⟩
   have hk2:(k:Int)<n:=Oa
   have:=hc k hk2
   show w.cell? ⟨g,off+(k:Int).toNat,none⟩=_
   rw [cell_of_row w g _ cur E (0,0) hg]
   rw [show(k:Int).toNat=k by omega,this];rfl
theorem Frame.dq.roomy(h:(Frame.dq E v n f).holds w):WR v:=fun a len cap e=>by
 obtain⟨_,_,⟨rfl,_⟩|⟨g,off,cap',cur,rfl,_,h2,_⟩⟩:=h
 · cases e;omega
 · cases e;exact h2
theorem Sat.dqOf(h:Sat w0 w l)(i:Nat)(hi:l[i]? =some (.sem (Frame.dq E v n f))):(Frame.dq E v n f).holds w:=h.holds _ (List.mem_of_getElem? hi)
theorem Sat.dqnil(h:Sat w0 w l)(E:TypeId)(f:Of):Sat w0 w (l++ [.sem (Frame.dq E Oh 0 f)]):=by
 refine h.comp (m:= [.sem (Frame.dq E Oh 0 f)]) ⟨Below.refl _ _,?_,?_,List.pairwise_singleton _ _⟩
 · intro e he
   obtain rfl:=List.mem_singleton.1 he
   exact⟨by omega,Oa,.inl ⟨rfl,rfl⟩⟩
 · intro e he g hg
   obtain rfl:=List.mem_singleton.1 he
   obtain⟨_,_,_,e,_⟩:=hg;cases e
theorem Sat.resem{F G:Frame}(h:Sat w0 w l)(i:Nat)(hi:l[i]? =some (.sem F))(hG:F.holds w->G.holds w)(hh:∀g,G.has g->F.has g):Sat w0 w (l.set i (.sem G)):=by
 have h':=h
 rw [Z0 hi] at h'
 rw [Ys hi]
 exact h'.turn (d:= .sem F) (fun k _ _=>rfl) rfl rfl rfl (Nat.le_refl _) (hG (h.holds _ (List.mem_of_getElem? hi))) (fun g hg=> .inl (hh g hg))
theorem Sat.dqpre (h :Sat w0 w l) (i:Nat) (q:Nat) (hq:(q:Int)<=n) (hi:l[i]? =some (.sem (Frame.dq E v n f)):=by exact rfl):Sat w0 w (l.set i (.sem (Frame.dq E (TX v q) q f))):=
 h.resem i hi (fun ⟨h0,h1,hd⟩=>⟨by omega,Oa,by
   rcases hd with⟨rfl,rfl⟩|⟨g,off,cap,cur,rfl,hg,h2,h3,h4,h5⟩
   · exact .inl ⟨by obtain rfl:q=0:=Oa
                    rfl,Oa⟩
   · exact .inr ⟨g,off,cap,cur,by simp [TX],hg,Oa,h3,h4,fun k hk=>h5 k Oa⟩⟩) (fun g ⟨a',lh,c,e,eb⟩=>by
   cases v with
   |slice a len cap=>cases e;exact⟨_,_,_,rfl,eb⟩
   |_=>cases e)
theorem R4{e:Int}(h:Slh v n)(h0:0<=e)(h1:e<=n):Slh (TX v e.toNat) e:=by
 have:=Zdh (q:=e.toNat) h Oa
 rwa [Int.toNat_of_nonneg h0] at this
theorem R3{m:Int}(h:Slh v n)(hr:WR v)(h1:1<=n)(e:n-1=m):Slh (Xq v 1) m:=by
 subst e;exact(YO (q:=1) h hr Oa).slh
theorem Sat.dqn(h:Sat w0 w l)(i:Nat){m:Int}(e:n=m)(hi:l[i]? =some (.sem (Frame.dq E v n f)):=by exact rfl):Sat w0 w (l.set i (.sem (Frame.dq E v m f))):=by subst e;exact h.resem i hi id fun _ hg=>hg
theorem Sat.dqsuf (h:Sat w0 w l) (i:Nat) (q:Nat) (hq:(q:Int)<n) (hi:l[i]? =some (.sem (Frame.dq E v n f)):=by exact rfl):Sat w0 w (l.set i (.sem (Frame.dq E (Xq v q) (n-q) (fun k=>f (k+q))))):=
 h.resem i hi (fun⟨h0,h1,hd⟩=>⟨by omega,Oa,by
   rcases hd with⟨rfl,rfl⟩|⟨g,off,cap,cur,rfl,hg,h2,h3,h4,h5⟩
   · omega
   · refine .inr ⟨g,off+q,cap-q,cur,?_,hg,Oa,Oa,Oa,fun k hk=> ?_⟩
     · unfold Xq;dsimp only;rw [if_neg Oa];simp;try omega
     · rw [show off+q+k=off+(k+q) by omega,h5 (k+q) Oa];congr 3⟩) (fun g ⟨a',lh,c,e,eb⟩=>by
   cases v with
   | slice a len cap=>cases a with
     |none=>simp [Xq] at e
     | some a=>
       unfold Xq at e;dsimp only at e
       split at e
       · cases e;exact⟨_,_,_,rfl,eb⟩
       · cases e;exact⟨_,_,_,rfl,eb⟩
   |_=>cases e)
theorem Zkk {u:Value} {b:Nat} {a:Int} {zv:Value} (i:Nat) (ht:Zr P T=some (E,1)) (he:ZM P E=some (zv,1,b)) (hS:Sat w0 w l) (hu:Row w u 1 1 (ints fun _=>a)) (ho:o.op= .call {callee:= .builtin .append,args:= #[x,y],argTypes:= #[T,T]}:=by exact rfl) (hz:zv.cells.size=1:=by exact rfl)
   (hi:l[i]? =some (.sem (Frame.dq E v n f)):=by exact rfl) (hx:evL L x=some v:=by exact rfl) (hy:evL L y=some u:=by exact rfl) (hb:b*(n+1)<=140737488355328:=by omega) (hnm:n+1<=140737488355328:=by omega):
   ∃q w',Runs P L w o (.value q) w'/\Sat w0 w' (l.set i (.sem (Frame.dq E q (n+1) (snoc f n a))))/\Slh q (n+1):=by
 obtain⟨hut,_⟩:=Zq ht
 obtain⟨inf,xP,hzz,hsz,hby⟩:=Yn he
 have hd:=hS.dqOf i hi
 have qt:=Frame.dq.row hd
 obtain⟨h0,h1,hd⟩:=hd
 obtain⟨_,_,ua,ucap,rfl,hua⟩:=hu.slh
 obtain⟨ub,uoff,rfl⟩:∃ub uoff,ua=some ⟨ub,uoff,none⟩:=by rcases hua with h|h;omega;exact h
 have xT:∀j t, [Value.int Oi a][j]? =some t->w.cell? ((⟨ub,uoff,none⟩:Addr).add j)=some t:=fun j t hj=>by
   rcases j with _|j
   · cases hj
     have:=hu.2 0 Oa
     rw [Addr.add_eq _ rfl];simpa [cad,ints] using this
   · simp at hj
 have eb:(n.toNat+1)*b<=140737488355328:=by
   have:(((n.toNat+1)*b:Nat):Int)=b*(n+1):=by rw [Int.natCast_mul,Int.natCast_add,Int.toNat_of_nonneg h0,Int.mul_comm];rfl
   omega
 have h':=hS
 rw [Z0 hi] at h'
 have key:∃q w',(∀ty:TypeId,(Builtin.append_ #[T,T] ty #[v,.slice (some ⟨ub,uoff,none⟩) 1 ucap]).run P w= .ok q w')/\(Frame.dq E q (n+1) (snoc f n a)).holds w'/\(∀k,k<w.heap.size->¬(Frame.dq E v n f).has k->w'.heap[k]? =w.heap[k]?)/\w'.tape=w.tape/\w'.os=w.os/\w'.output=w.output/\w.heap.size<=w'.heap.size/\
     (∀g,(Frame.dq E q (n+1) (snoc f n a)).has g->(Frame.dq E v n f).has g\/w.heap.size<=g):=by
   have gA:n.toNat+1<=maxLen:=by unfold maxLen;omega
   have grown:∀(old:Nat),old<n.toNat+1->∀(zs:List Value),zs.length=n.toNat->(∀k:Nat,(k:Int)<n->zs[k]? =some (.int Oi (f k)))->
       (Frame.dq E (.slice (some ⟨w.heap.size,0,none⟩) (n.toNat+1) (grownCap w (n.toNat+1) old E)) (n+1) (snoc f n a)).holds (w.drew.alloc (.cells (zs.toArray++ [Value.int Oi a].toArray++Builtin.zeroCells zv.cells (grownCap w (n.toNat+1) old E-(n.toNat+1))) E)):=fun old ho zs hzl hzs=>by
     have hge:=grownCap_ge w (n.toNat+1) old E
     have hcm:grownCap w (n.toNat+1) old E<=maxLen:=grownCap_le_maxLen w (n.toNat+1) old E gA
     refine⟨by omega,hnm,.inr ⟨w.heap.size,0,_,_,by rw [show(n+1).toNat=n.toNat+1 by omega],heap_alloc_new w.drew _,Oa,hcm,?_,fun k hk=> ?_⟩⟩
     · simp only [Array.size_append,List.size_toArray,size_zeroCells,hz,hzl,List.length_cons,List.length_nil];omega
     · have e1:(zs.toArray++ [Value.int Oi a].toArray++Builtin.zeroCells zv.cells (grownCap w (n.toNat+1) old E-(n.toNat+1)))[0+k]? =(zs++ [Value.int Oi a])[k]? :=by
         rw [Nat.zero_add,Array.getElem?_append_left (by simp;omega)];simp
       rw [e1,List.getElem?_append]
       by_cases hk2:(k:Int)<n
       · rw [if_pos Oa,hzs k hk2,Zt hk2]
       · rw [if_neg Oa,show k-zs.length=0 by omega,Zu hk2];rfl
   rcases hd with⟨rfl,rfl⟩|⟨g,off,cap,cur,rfl,hg,h2,h3,h4,h5⟩
   · refine⟨_,_,fun ty=>run_append_nil (P:=P) w T ty E inf zv hut xP hzz ⟨ub,uoff,none⟩ 1 ucap [Value.int Oi a] (by rw [hsz];rfl) xT Oa Oa (by rw [hby];omega),?_,fun k hk _=>heap_alloc_old w.drew _ hk,rfl,rfl,rfl,by simp,fun g ⟨_,_,_,e,eb⟩=>by cases e;exact .inr (Nat.le_of_eq eb)⟩
     have:=grown 0 Oa [] rfl (fun k hk=>Oa)
     simpa using this
   · by_cases qy:n.toNat+1<=cap
     · have yp:∀k,k<cur.size->w.cell? ⟨g,k,none⟩=cur[k]? :=fun k _=>cell_of_row w g k cur E (0,0) hg
       refine⟨_,_,fun ty=>run_append_room_cells (P:=P) w T ty E inf hut xP g off n.toNat cap ⟨ub,uoff,none⟩ 1 ucap [Value.int Oi a] (by rw [hsz];rfl) xT (fun u hu=>by simp at hu;subst hu;rfl) qy (fun j hj=>by
           simp at hj;subst hj
           rw [hsz,Nat.mul_one,yp _ Oa];simp;omega) (fun j hj=>by
           simp at hj;subst hj
           simp [World.frozen?,hg]),?_,fun k hk hne=> ?_,rfl,rfl,rfl,?_,fun g' ⟨_,_,_,e,eb⟩=> .inl (by cases e;exact⟨_,_,_,rfl,eb⟩)⟩
       · refine⟨by omega,hnm,.inr ⟨g,off,cap,cur.setIfInBounds (off+n.toNat) (.int Oi a),by rw [show(n+1).toNat=n.toNat+1 by omega],?_,Oa,h3,by simp;omega,fun k hk=> ?_⟩⟩
         · simp [World.setCells,World.setCell,Array.getElem?_modify,hg,hsz]
         · rw [Array.getElem?_setIfInBounds]
           by_cases hk2:(k:Int)<n
           · rw [if_neg Oa,h5 k hk2,Zt hk2]
           · rw [if_pos Oa,if_pos Oa,Zu hk2]
       · exact Below.heap_setCell _ _ _ _ fun e=>hne (by rw [e];exact⟨_,_,_,rfl,rfl⟩)
       · simp [World.setCells,World.setCell]
     · have hol:∀k:Nat,(k:Int)<n->(Zo f n|>.map (Value.int .i64))[k]? =some (.int Oi (f k)):=fun k hk=>by
         have hk3:k<n.toNat:=Oa
         simp [Zo,hk3]
       have hll:(Zo f n|>.map (Value.int .i64)).length=n.toNat:=by simp [Zo]
       refine⟨_,_,fun ty=>run_append_grow (P:=P) w T ty E inf zv hut xP hzz ⟨g,off,none⟩ n.toNat cap (Zo f n|>.map (Value.int .i64)) (by rw [hsz,hll];omega) (fun j t hj=> ?_) ⟨ub,uoff,none⟩ 1 ucap [Value.int Oi a] (by rw [hsz];rfl) xT Oa Oa (growslice_fits Oa (by rw [hby];exact eb)),?_,fun k hk _=>heap_alloc_old w.drew _ hk,rfl,rfl,rfl,by simp,fun g ⟨_,_,_,e,eb⟩=>by cases e;exact .inr (Nat.le_of_eq eb)⟩
       · have hj2:j<n.toNat:=by
           have:=(List.getElem?_eq_some_iff.1 hj).1;omega
         rw [hol j Oa] at hj;cases hj
         rw [Addr.add_eq _ rfl,cell_of_row w g _ cur E (0,0) hg];exact h5 j Oa
       · exact grown cap Oa _ hll hol
 obtain⟨q,w',hr,hq,hb1,ht1,ho1,hp1,hs1,hh⟩:=key
 refine⟨q,w',fun ρ h=> ?_,?_,(Frame.dq.row hq).slh⟩
 · simp [execOp,ho,resolve,invoke,builtin,h _ _ hx,h _ _ hy,hr]
 · rw [Ys hi]
   exact h'.turn hb1 ht1 ho1 hp1 hs1 hq hh
end
end Go.Proofs.Gw
namespace Go.Proofs.Gw
open Go Go.RowKit
variable {M cap i k m r y:Int} {A g x:Of}
structure DQ (A:Of) (M k q:Int) (g:Of):Prop where
  q0:0<=q
  rng:∀i,0<=i->i<q->max 0 (k-1-M)<=g i/\g i<=k-1
  mon:∀i,0<=i->i+1<q->g i<g (i+1)/\A (g (i+1))<A (g i)
  dom:∀j,max 0 (k-1-M)<=j->j<=k-1->∃i,0<=i/\i<q/\j<=g i/\A j<=A (g i)
structure DQp (A:Of) (M k q:Int) (g:Of):Prop where
  q0:0<=q
  rng:∀i,0<=i->i<q->max 0 (k-1-M)<=g i/\g i<=k-1
  mon:∀i,0<=i->i+1<q->g i<g (i+1)/\A (g (i+1))<A (g i)
  dom:∀j,max 0 (k-1-M)<=j->j<=k-1->(∃i,0<=i/\i<q/\j<=g i/\A j<=A (g i))\/A j<=A k
theorem DQ.start(A:Of)(M:Int)(g:Of):DQ A M 0 0 g:=⟨by omega,fun i _ _=>Oa,fun i _ _=>Oa,fun j _ _=>Oa⟩
theorem DQ.p{q:Int}(h:DQ A M k q g):DQp A M k q g:=⟨h.q0,h.rng,h.mon,fun j a b=> .inl (h.dom j a b)⟩
theorem DQp.pop{q:Int}(h:DQp A M k q g)(hq:0<q)(ha:A (g (q-1))<=A k):DQp A M k (q-1) g:=
 ⟨by omega,fun i i0 i1=>h.rng i i0 Oa,fun i i0 i1=>h.mon i i0 Oa,fun j j0 j1=>by
   rcases h.dom j j0 j1 with⟨i,i0,i1,h1,h2⟩|h1
   · by_cases e:i=q-1
     · subst e;exact .inr Oa
     · exact .inl ⟨i,i0,Oa,h1,h2⟩
   · exact .inr h1⟩
structure DQa (A:Of) (M k q:Int) (g:Of):Prop where
  q0:1<=q
  rng:∀i,0<=i->i<q->max 0 (k-1-M)<=g i/\g i<=k
  mon:∀i,0<=i->i+1<q->g i<g (i+1)/\A (g (i+1))<A (g i)
  dom:∀j,max 0 (k-1-M)<=j->j<=k->∃i,0<=i/\i<q/\j<=g i/\A j<=A (g i)
  last:g (q-1)=k
theorem DQp.push{q:Int}(h:DQp A M k q g)(k0:0<=k)(hM:0<=M)(hq:q<=0\/A k<A (g (q-1))):DQa A M k (q+1) (snoc g q k):=by
 have hq0:=h.q0
 refine⟨by omega,fun i i0 i1=> ?_,fun i i0 i1=> ?_,fun j j0 j1=> ?_,?_⟩
 · by_cases e:i<q
   · rw [Zt e];have:=h.rng i i0 e;omega
   · rw [Zu e];omega
 · rw [Zt (show i<q by omega)]
   by_cases e:i+1<q
   · rw [Zt e];exact h.mon i i0 e
   · rw [Zu e]
     obtain rfl:i=q-1:=Oa
     have:=h.rng (q-1) i0 Oa
     omega
 · by_cases e:j=k
   · subst e;exact⟨q,Oa,Oa,by rw [Zu Oa];omega,by rw [Zu Oa];omega⟩
   · rcases h.dom j j0 Oa with⟨i,i0,i1,h1,h2⟩|h1
     · exact⟨i,i0,Oa,by rw [Zt i1];exact h1,by rw [Zt i1];exact h2⟩
     · exact⟨q,Oa,Oa,by rw [Zu Oa];omega,by rw [Zu Oa];exact h1⟩
 · rw [Zu Oa]
theorem DQa.up{A:Of}{M k q:Int}{g:Of}(h:DQa A M k q g):∀i:Nat,(i:Int)<q->g 0+i<=g i/\A (g i)<=A (g 0)
 |0,_=>⟨by simp,Int.le_refl _⟩
 | i+1,hi=>by
   have h1:=h.up i Oa
   have h2:=h.mon i Oa Oa
   rw [show((i+1:Nat):Int)=(i:Int)+1 by omega]
   omega
theorem DQa.keep{q:Int}(h:DQa A M k q g)(k0:0<=k)(hg:¬g 0<k-M):DQ A M (k+1) q g:=by
 have hq:=h.q0
 refine⟨by omega,fun i i0 i1=> ?_,h.mon,fun j j0 j1=>h.dom j Oa Oa⟩
 have h1:=h.up i.toNat Oa
 rw [Int.toNat_of_nonneg i0] at h1
 have:=h.rng i i0 i1;have:=h.rng 0 Oa Oa
 omega
theorem DQa.more{q:Int}(h:DQa A M k q g)(hM:0<=M)(hg:g 0<k-M):1<q:=by
 have:=h.q0;have hl:=h.last
 by_cases e:q=1
 · subst e;rw [show(1:Int)-1=0 by omega] at hl;omega
 · omega
theorem DQa.drop{q p:Int}(h:DQa A M k q g)(k0:0<=k)(hM:0<=M)(hg:g 0<k-M)(e:q-1=p:=by omega):DQ A M (k+1) p (fun i=>g (i+1)):=by
 subst e
 have hq:=h.q0
 refine⟨by omega,fun i i0 i1=> ?_,fun i i0 i1=>h.mon (i+1) Oa Oa,fun j j0 j1=> ?_⟩
 · have h1:=h.up (i+1).toNat Oa
   rw [Int.toNat_of_nonneg Oa] at h1
   have h2:=h.rng (i+1) Oa Oa;have h3:=h.rng 0 Oa Oa
   omega
 · obtain⟨i,i0,i1,h1,h2⟩:=h.dom j Oa Oa
   by_cases e:i=0
   · subst e;omega
   · exact⟨i-1,Oa,Oa,by rw [show i-1+1=i by omega];exact h1,by rw [show i-1+1=i by omega];exact h2⟩
theorem DQ.best{q:Int}(h:DQ A M (k+1) q g)(k0:0<=k)(hM:0<=M):0<q/\max 0 (k-M)<=g 0/\g 0<=k/\∀j,max 0 (k-M)<=j->j<=k->A j<=A (g 0):=by
 obtain⟨i,i0,i1,_,_⟩:=h.dom k Oa Oa
 have hr:=h.rng 0 Oa Oa
 have up:∀i:Nat,(i:Int)<q->A (g i)<=A (g 0):=fun i=>by
   induction i with
   |zero=>intro _;exact Int.le_refl _
   | succ i ih=>
     intro hi
     have h1:=ih Oa
     have h2:=h.mon i Oa Oa
     rw [show((i+1:Nat):Int)=(i:Int)+1 by omega]
     omega
 refine⟨by omega,Oa,Oa,fun j j0 j1=> ?_⟩
 obtain⟨i,i0,i1,h1,h2⟩:=h.dom j Oa Oa
 have:=up i.toNat Oa
 rw [Int.toNat_of_nonneg i0] at this
 omega
theorem DQ.len{q:Int}(h:DQ A M k q g)(k0:0<=k):q<=k:=by
 have up:∀i:Nat,(i:Int)<q->g 0+i<=g i:=fun i=>by
   induction i with
   |zero=>intro _;simp
   | succ i ih=>
     intro hi
     have h1:=ih Oa
     have h2:=h.mon i Oa Oa
     rw [show((i+1:Nat):Int)=(i:Int)+1 by omega]
     omega
 rcases Int.lt_or_le 0 q with hq|hq
 · have h1:=up (q-1).toNat Oa
   rw [Int.toNat_of_nonneg Oa] at h1
   have h2:=h.rng 0 Oa hq;have h3:=h.rng (q-1) Oa Oa
   omega
 · omega
theorem U5 {T:Of} {s b:Int} (hs:1<=s) (hM:0<=M) (r0:0<=r) (r1:r<s) (k0:0<=k) (b0:max 0 (k-M)<=b) (b1:b<=k) (hb:∀j,max 0 (k-M)<=j->j<=k->T (r+j*s)-j*y<=T (r+b*s)-b*y):
   R T s y M.toNat (r+k*s)=T (r+b*s)-b*y+k*y:=by
 have hks:0<=k*s:=Int.mul_nonneg k0 Oa
 apply Int.le_antisymm
 · obtain⟨n,h1,h2,h3⟩:=Zc2 T s y M.toNat (r+k*s) Oa
   have hnk:(n:Int)<=k:=by
     rcases Int.lt_or_le k n with h|h
     · have:=Int.mul_le_mul_of_nonneg_right (show k+1<=(n:Int) by omega) (show 0<=s by omega)
       rw [Int.add_mul] at this;omega
     · exact h
   have h4:=hb (k-n) Oa Oa
   have e1:r+(k-n)*s=r+k*s-n*s:=by rw [Int.sub_mul];omega
   rw [e1,Int.sub_mul] at h4
   rw [h3];omega
 · have h1:=Zc1 T s y M.toNat (k-b).toNat (r+k*s) Oa (by
     have:=Int.mul_le_mul_of_nonneg_right (show(((k-b).toNat:Nat):Int)<=k by omega) (show 0<=s by omega);omega)
   rw [Int.toNat_of_nonneg Oa,Int.sub_mul,Int.sub_mul] at h1
   have e1:r+k*s-(k*s-b*s)=r+b*s:=Oa
   rw [e1] at h1;omega
def LY(T:Of)(s y m n r k:Int)(g:Of):Prop:=∀c,0<=c->c<n->(c%s<r\/(c%s=r/\c<r+k*s))->g c=R T s y m.toNat c
theorem ZfS{s:Int}(k0:0<=k)(hs:1<=s):k<=k*s:=by
 have:=Int.mul_le_mul_of_nonneg_left hs k0;omega
theorem RL{j s n:Int}(hs:1<=s)(r0:0<=r)(j0:0<=j)(jk:j<=k)(h:r+k*s<n):0<=j*s/\j*s<=k*s/\r+j*s<n:=by
 have h1:=Int.mul_nonneg j0 (show 0<=s by omega)
 have h2:=Int.mul_le_mul_of_nonneg_right jk (show 0<=s by omega)
 omega
theorem XY{j:Int}(j0:0<=j)(j1:j<=4001)(y0:0<=y)(y1:y<=1073741824):0<=j*y/\j*y<=4296041037824:=by
 have h1:=Int.mul_nonneg j0 y0
 have h2:=Int.mul_le_mul j1 y1 y0 Oa
 omega
theorem LY.start (T:Of) {s n:Int} (h:∀c,0<=c->c<n->c%s<r->g c=R T s y m.toNat c):LY T s y m n r 0 g:=fun c c0 c1 hc=>by
 rcases hc with hc|⟨_,hc⟩
 · exact h c c0 c1 hc
 · by_cases hs:c%s<r
   · exact h c c0 c1 hs
   · exfalso
     rename_i hr
     have:c%s<=c:=by
       by_cases hs0:0<s
       · rcases Int.lt_or_le c s with h1|h1
         · rw [Int.emod_eq_of_lt c0 h1];omega
         · have:=Int.emod_lt_of_pos c hs0;omega
       · by_cases e:s=0
         · subst e;simp
         · have h1:=Int.emod_lt_of_pos c (show 0< -s by omega)
           rw [Int.emod_neg] at h1
           have h2:=Int.emod_emod_of_dvd c (show(-s)∣s from⟨-1,Oa⟩)
           rcases Int.lt_or_le c (-s) with h3|h3
           · have:=Int.emod_eq_of_lt c0 h3;rw [Int.emod_neg] at this;omega
           · omega
     omega
theorem LY.step {T:Of} {s n v:Int} (h:LY T s y m n r k g) (hs:1<=s) (r0:0<=r) (r1:r<s) (k0:0<=k) (hv:R T s y m.toNat (r+k*s)=v):LY T s y m n r (k+1) (upd g (r+k*s) v):=fun c c0 c1 hc=>by
 by_cases e:c=r+k*s
 · subst e;rw [Zz,hv]
 · rw [upd_ne _ _ e]
   refine h c c0 c1 ?_
   rcases hc with hc|⟨hc,hc2⟩
   · exact .inl hc
   · refine .inr ⟨hc,?_⟩
     have h1:=Int.mul_ediv_add_emod c s
     rw [hc] at h1
     rcases Int.lt_trichotomy (c/s) k with h2|h2|h2
     · have:=Int.mul_le_mul_of_nonneg_left (show c/s+1<=k by omega) (show 0<=s by omega)
       rw [Int.mul_add,Int.mul_comm s k] at this;omega
     · rw [h2,Int.mul_comm] at h1;omega
     · have:=Int.mul_le_mul_of_nonneg_left (show k+1<=c/s by omega) (show 0<=s by omega)
       rw [Int.mul_add,Int.mul_comm s k] at this
       rw [Int.add_mul] at hc2;omega
theorem LY.fin{T:Of}{s n:Int}(h:LY T s y m n r k g)(hk:¬r+k*s<n):∀c,0<=c->c<n->c%s<r+1->g c=R T s y m.toNat c:=fun c c0 c1 hc=>h c c0 c1 Oa
structure Its where
  n:Int
  S:Of
  V:Of
  M:Of
def Y8(s v m:Int):Prop:=1<=s/\s<=4000/\0<=v/\v<=1073741824/\0<=m/\m<=1000
def Its.each(t:Its)(i:Int):Prop:=Y8 (t.S i) (t.V i) (t.M i)
structure Its.Ok (t:Its) (cap:Int):Prop where
  n:t.n<=20
  c0:0<=cap
  c1:cap<=4000
  all:∀i,0<=i->i<t.n->t.each i
def KT(t:Its):Nat->Int->Int
  |0=>fun _=>0
  |k+1=>R (KT t k) (t.S (t.n-1-k)) (t.V (t.n-1-k)) (t.M (t.n-1-k)).toNat
def KI(t:Its)(i:Int):Of:=KT t (t.n-i).toNat
theorem Znu(t:Its):KI t t.n=fun _=>0:=by unfold KI;rw [show(t.n-t.n).toNat=0 by omega];rfl
theorem Zd4(t:Its)(i0:0<=i)(i1:i<t.n):KI t i=R (KI t (i+1)) (t.S i) (t.V i) (t.M i).toNat:=by
 unfold KI
 rw [show(t.n-i).toNat=(t.n-(i+1)).toNat+1 by omega]
 show R _ _ _ _=_
 rw [show t.n-1-(((t.n-(i+1)).toNat:Nat):Int)=i by omega]
theorem Zb9{t:Its}{cap:Int}(h:t.Ok cap):∀k:Nat,(k:Int)<=t.n->∀c,0<=c->0<=KT t k c/\KT t k c<=c*1073741824
 |0,_,c,hc=>⟨Int.le_refl _,by show 0<=_;omega⟩
 | k+1,hk,c,hc=>by
   have he:=h.all (t.n-1-k) Oa Oa
   unfold Its.each Y8 at he
   exact ZaG he.1 he.2.2.1 he.2.2.2.1 (fun c c0=>Zb9 h k Oa c c0) _ c hc
theorem Wg{t:Its}(h:t.Ok cap)(i0:0<=i)(i1:i<=t.n){c:Int}(c0:0<=c):0<=KI t i c/\KI t i c<=c*1073741824:=Zb9 h _ Oa c c0
def KU(t:Its)(x:Of)(i:Nat):Int:=Zd (fun k=>x k*t.S k) i
def KW(t:Its)(x:Of)(i:Nat):Int:=Zd (fun k=>x k*t.V k) i
def KX(t:Its)(cap:Int)(x:Of)(n:Int):Prop:=∀i,0<=i->i<n->0<=x i/\x i<=t.M i/\x i*t.S i<=cap-KU t x i.toNat/\KI t (i+1) (cap-KU t x i.toNat-x i*t.S i)+x i*t.V i=KI t i (cap-KU t x i.toNat)/\
  ∀j,x i<j->j<=t.M i->j*t.S i<=cap-KU t x i.toNat->KI t (i+1) (cap-KU t x i.toNat-j*t.S i)+j*t.V i≠KI t i (cap-KU t x i.toNat)
theorem ZjN(t:Its)(x:Of)(h:0<=i):KU t x (i+1).toNat=KU t x i.toNat+x i*t.S i:=ZP _ h
theorem TT(t:Its){z:Of}{n:Nat}(h:∀i,0<=i->i<(n:Int)->x i=z i):KU t x n=KU t z n:=Zj fun i i0 i1=>by rw [h i i0 i1]
theorem KX.snoc{t:Its}{cap:Int}{x:Of}{i n:Int}(h:KX t cap x i)(i0:0<=i)(n0:0<=n)(n1:n<=t.M i)(n2:n*t.S i<=cap-KU t x i.toNat)(he:KI t (i+1) (cap-KU t x i.toNat-n*t.S i)+n*t.V i=KI t i (cap-KU t x i.toNat))
   (ha:∀j,n<j->j<=t.M i->j*t.S i<=cap-KU t x i.toNat->KI t (i+1) (cap-KU t x i.toNat-j*t.S i)+j*t.V i≠KI t i (cap-KU t x i.toNat)):KX t cap (snoc x i n) (i+1):=fun k k0 k1=>by
 have hu:KU t (Gw.snoc x i n) k.toNat=KU t x k.toNat:=TT t fun q q0 q1=>Zt Oa
 rw [hu]
 by_cases e:k<i
 · rw [Zt e];exact h k k0 e
 · obtain rfl:k=i:=Oa
   rw [Zu Oa];exact⟨n0,n1,n2,he,ha⟩
theorem ZjM(t:Its)(x:Of)(n:Int)(i0:0<=i):KU t (snoc x i n) (i+1).toNat=KU t x i.toNat+n*t.S i:=by
 rw [ZjN t _ i0,Zu Oa]
 congr 1
 exact TT t fun q q0 q1=>Zt Oa
theorem ZoW{t:Its}(h:t.Ok cap){c:Int}(i0:0<=i)(i1:i<t.n)(c0:0<=c):∃j,0<=j/\j<=t.M i/\j*t.S i<=c/\KI t (i+1) (c-j*t.S i)+j*t.V i=KI t i c:=by
 have he:=h.all i i0 i1
 unfold Its.each Y8 at he
 obtain⟨j,h1,h2,h3⟩:=Zc2 (KI t (i+1)) (t.S i) (t.V i) (t.M i).toNat c c0
 exact⟨j,Oa,Oa,h2,by rw [Zd4 t i0 i1,h3]⟩
theorem KX.same{t:Its}{cap:Int}{x z:Of}:∀{n:Nat},KX t cap x n->KX t cap z n->∀i,0<=i->i<(n:Int)->x i=z i
 |0,_,_,i,_,_=>Oa
 | n +1,hx,hz,i,i0,i1=>by
   have ih:=KX.same (n:=n) (fun i a b=>hx i a Oa) (fun i a b=>hz i a Oa)
   by_cases e:i=n
   · have hu:KU t x i.toNat=KU t z i.toNat:=TT t fun k k0 k1=>ih k k0 Oa
     obtain⟨a1,a2,a3,a4,a5⟩:=hx i i0 i1
     obtain⟨b1,b2,b3,b4,b5⟩:=hz i i0 i1
     rw [hu] at a3 a4 a5
     rcases Int.lt_trichotomy (x i) (z i) with h|h|h
     · exact absurd b4 (a5 _ h b2 b3)
     · exact h
     · exact absurd a4 (b5 _ h a2 a3)
   · exact ih i i0 Oa
theorem Ky(f:Of)(n:Nat):Zd f (n+1)=f 0+Zd (fun j=>f (j+1)) n:=by
 induction n with
 |zero=>simp [Zd]
 | succ n ih=>
   simp only [Zd] at*
   rw [ih,show((n+1:Nat):Int)=(n:Int)+1 by omega];omega
theorem ZhP{t:Its}(hS:∀i,0<=i->i<t.n->1<=t.S i){x:Of}(hx:∀i,0<=i->i<t.n->0<=x i/\x i<=t.M i):∀(k:Nat) (c:Int),(k:Int)<=t.n->Zd (fun j=>x (t.n-k+j)*t.S (t.n-k+j)) k<=c->Zd (fun j=>x (t.n-k+j)*t.V (t.n-k+j)) k<=KT t k c
 |0,c,_,_=>by simp [Zd,KT]
 | k+1,c,hk,hc=>by
   rw [Ky] at hc⊢
   have e1:∀f:Of,Zd (fun j=>f (t.n-((k+1:Nat):Int)+(j+1))) k=Zd (fun j=>f (t.n-k+j)) k:=fun f=>Zj fun j _ _=>by congr 1;omega
   rw [e1 (fun i=>x i*t.S i),show t.n-((k+1:Nat):Int)+0=t.n-1-k by omega] at hc
   rw [e1 (fun i=>x i*t.V i),show t.n-((k+1:Nat):Int)+0=t.n-1-k by omega]
   have h1:=hx (t.n-1-k) Oa Oa
   have hs:0<=Zd (fun j=>x (t.n-k+j)*t.S (t.n-k+j)) k:=Z4 fun j j0 j1=>Int.mul_nonneg (hx _ Oa Oa).1 (by have:=hS (t.n-k+j) Oa Oa;omega)
   have ih:=ZhP hS hx k (c-x (t.n-1-k)*t.S (t.n-1-k)) Oa Oa
   have h2:=Zc1 (KT t k) (t.S (t.n-1-k)) (t.V (t.n-1-k)) (t.M (t.n-1-k)).toNat (x (t.n-1-k)).toNat c Oa (by rw [Int.toNat_of_nonneg h1.1];omega)
   rw [Int.toNat_of_nonneg h1.1] at h2
   show _<=R _ _ _ _ _
   omega
theorem Znt{t:Its}(hn:0<=t.n)(hS:∀i,0<=i->i<t.n->1<=t.S i)(hx:∀i,0<=i->i<t.n->0<=x i/\x i<=t.M i)(hc:KU t x t.n.toNat<=cap):KW t x t.n.toNat<=KI t 0 cap:=by
 have:=ZhP hS hx t.n.toNat cap Oa
 rw [Int.toNat_of_nonneg hn] at this
 simp only [Int.sub_self,Int.zero_add] at this
 have h2:=this hc
 unfold KI;rwa [Int.sub_zero]
end Go.Proofs.Gw
namespace Go.Proofs.Gw
open Go Go.RowKit
variable {i k:Int}
def okF(kind k c:Int):Prop:=(kind=0/\k=0)\/(kind=1/\1<=k/\k<=100)\/(kind=2/\1<=k/\k<=c.tdiv 2)
def dfv(kind k x c:Int):Int:=
  if kind=0 then x else if kind=1 then(if((k+1)*x).tmod c=0 then k*x else((k+1)*x).tdiv c*c) else(if c-k<x then c else if x<k then 0 else x)
def Z1(W H N:Of):Int->Value:=fun k=>if k%3=0 then .int Oi (W (k/3)) else if k%3=1 then .int Oi (H (k/3)) else .int Oi (N (k/3))
theorem Zi5(W H N:Of)(h:k=3*i):Z1 W H N k= .int Oi (W i):=by
 subst h;unfold Z1;rw [if_pos Oa];congr 2;omega
theorem Zi4(W H N:Of)(h:k=3*i+1):Z1 W H N k= .int Oi (H i):=by
 subst h;unfold Z1;rw [if_neg Oa,if_pos Oa];congr 2;omega
theorem Zi3(W H N:Of)(h:k=3*i+2):Z1 W H N k= .int Oi (N i):=by
 subst h;unfold Z1;rw [if_neg Oa,if_neg Oa];congr 2;omega
theorem Uo(W H N:Of)(h:k=3*i):∀(j:Nat) u, [Value.int Oi (W i),.int Oi (H i),.int Oi (N i)][j]? =some u->Z1 W H N (k+j)=u:=fun j u hu=>by
 rcases j with _|_|_|j
 · cases hu;exact Zi5 W H N Oa
 · cases hu;exact Zi4 W H N Oa
 · cases hu;exact Zi3 W H N Oa
 · simp at hu
theorem ZcL(W H N:Of)(k:Int):(Z1 W H N k).oneCell'=true:=by
 unfold Z1
 split
 · rfl
 · split<;>rfl
theorem Zao{W H N W' H' N':Of}{n:Int}(h:∀k,0<=k->k<n->W k=W' k/\H k=H' k/\N k=N' k):∀k,0<=k->k<n*(3:Nat)->Z1 W H N k=Z1 W' H' N' k:=fun k k0 k1=>by
 obtain⟨h1,h2,h3⟩:=h (k/3) Oa Oa
 unfold Z1
 rw [h1,h2,h3]
structure DAt (w:World) (v:Value) (n:Int) (W H N:Of):Prop where
  row:Row w v 3 n (Z1 W H N)
  bw:∀i,-9223372036854775808<=W i/\W i<=9223372036854775807
  bh:∀i,-9223372036854775808<=H i/\H i<=9223372036854775807
  bn:∀i,-9223372036854775808<=N i/\N i<=9223372036854775807
theorem DAt.below{w w':World}{v:Value}{n:Int}{W H N:Of}(h:DAt w v n W H N)(hb:Below w.heap.size w w'):DAt w' v n W H N:=⟨h.row.below hb,h.bw,h.bh,h.bn⟩
theorem ZcW(W H N:Of)(n a b c:Int):cat (n*3) (Z1 W H N) (Z1 (fun _=>a) (fun _=>b) (fun _=>c))=Z1 (snoc W n a) (snoc H n b) (snoc N n c):=by
 funext k
 unfold cat Z1 snoc
 by_cases h:k<n*3
 · have:k/3<n:=Oa
   simp only [if_pos h,if_pos this]
 · have:¬k/3<n:=Oa
   have e:(k-n*3)%3=k%3:=Oa
   simp only [if_neg h,if_neg this,e]
end Go.Proofs.Gw
namespace Go.Proofs.Gw
open Go Go.RowKit
structure FL (l:List (Int×Int)) (n:Int) (K A:Of):Prop where
  len:(l.length:Int)=n
  get:∀(k:Nat) x,l[k]? =some x->K k=x.1/\A k=x.2
theorem FL.at{l:List (Int×Int)}{n:Int}{K A:Of}(h:FL l n K A){k:Int}(h0:0<=k)(h1:k<n):l[k.toNat]? =some (K k,A k):=by
 have hl:=h.len
 have hk:k.toNat<l.length:=Oa
 have:=h.get k.toNat _ (List.getElem?_eq_getElem hk)
 rw [Int.toNat_of_nonneg h0] at this
 rw [List.getElem?_eq_getElem hk,this.1,this.2]
def base(k:Nat):List (Int×Int):=(0,0)::(List.range k).map fun i:Nat=>(1,(i:Int)+1)
def CandL(S:Int->Prop)(l:List (Int×Int)):Prop:=∃m:List Int,l=base 5++m.map (fun a=>((2:Int),a))/\m.Pairwise (· < ·)/\∀a,a∈m↔S a
theorem CandL.len{S:Int->Prop}{l:List (Int×Int)}(h:CandL S l):6<=l.length/\l[0]? =some (0,0):=by
 obtain⟨m,rfl,_⟩:=h
 exact⟨by simp [base],rfl⟩
def before(i j I J:Int):Prop:=i<I\/(i=I/\j<J)
end Go.Proofs.Gw
namespace Go.Proofs.YtpnamgfdakfccaaGreat
open Go Go.RowKit Go.Proofs.Gw
variable {vI:Value}
theorem ZlH:Zc Om 286=true:=Oc
theorem ZlG:Zc Om 287=true:=Oc
theorem Zlz:Zc Om 310=true:=Oc
theorem Up:Zc Om 311=true:=Oc
theorem fd_247_0:Zs Om 247 0=some 0:=Oc
theorem fd_247_1:Zs Om 247 1=some 1:=Oc
theorem fd_247_2:Zs Om 247 2=some 2:=Oc
theorem XD:Zr Om 245=some (247,3):=Oc
theorem Kz:Zw Om 247=some 3:=Oc
theorem ZoJ{a b c:Int}(w0:World):
   Calls Om 286 [.agg #[.int Oi a,.int Oi b,.int Oi c]].toArray w0 fun e w=>∃v,e= .returned v/\v=B (¬Y8 a b c)/\Sat w0 w []:=by
 refine zenG Tryz.func286 Tryz.ntmps286 fun w hS=> ?_
 refine zsr<|zla (xbx (cs:= [_,_,_]) hS) ?_;rintro _ w ⟨g1,rfl,hS⟩
 refine(zP)<|zlz<|(zV (xfb 0 fd_247_0))<|(zV (xlb 0 pl_3 hS))<|(On)<|zlb 6 ?_ ?_<;>intro hc;rotate_left
 refine(zV (xfb 0 fd_247_0))<|(zV (xlb 0 pl_3 hS))<|(Oo)<|zlb 11 ?_ ?_<;>intro hc;rotate_left
 refine(zV (xfb 1 fd_247_1))<|(zV (xlb 0 pl_3 hS))<|(Oo)<|zlb 16 ?_ ?_<;>intro hc;rotate_left
 refine(zV (xfb 1 fd_247_1))<|(zV (xlb 0 pl_3 hS))<|(Oo)<|zlb 21 ?_ ?_<;>intro hc;rotate_left
 refine(zV (xfb 2 fd_247_2))<|(zV (xlb 0 pl_3 hS))<|(Oo)<|zlb 26 ?_ ?_<;>intro hc;rotate_left
 refine(zV (xfb 2 fd_247_2))<|(zV (xlb 0 pl_3 hS))<|(Oo)<|zx1<|Oj ?_
 exact⟨Zm (by unfold Y8;omega),hS.nl⟩
 all_goals
  refine zOps ?_
  refine zx1<|Oj ?_
  exact⟨YA (by unfold Y8;omega),hS.nl⟩
theorem Zho{t:Its}(w0:World)(hI:Row w0 vI 3 t.n (Z1 t.S t.V t.M)):
   Calls Om 310 [vI,.func (.func 286) #[] #[]].toArray w0 fun e w=>∃v,e= .returned v/\∃r:Int,v= .int Oi r/\((r= -1/\∀k,0<=k->k<t.n->¬(¬Y8 (t.S k) (t.V k) (t.M k)))\/(0<=r/\r<t.n/\(¬Y8 (t.S r) (t.V r) (t.M r))))/\Sat w0 w []:=by
 have hn:=hI.slh.n0;have hn1:=hI.slh.n1
 refine zenG Tryz.func310 Tryz.ntmps310 fun w hS=> ?_
 refine zsr<|(zP)<|zx5<|(zP)<|(zV (xln XD hI.slh))<|(zP)<|zx6<|zlp (fun mm M w=>∃(i:Int),mm=((t.n-i).toNat)/\(0<=i)/\(i<=t.n)/\(∀k,0<=k->k<i->¬(¬Y8 (t.S k) (t.V k) (t.M k)))/\M= [(0,vI),(1,.func (.func 286) #[] #[]),(7,.int Oi t.n),(8,.int Oi i)]/\Sat w0 w []) ⟨0,rfl,Oa,Oa,?_,rfl,hS⟩ ?_
 ·
  intro k h0 h1;omega
 clear hS w
 rintro mm M w ⟨i,rfl,h0,h1,qa,rfl,hS⟩
 refine zsr<|(zP)<|zx7<|Zf ?_ ?_<;>intro hc
 ·
  refine zx3<|(On)<|zlz<|(Oo)<|(zV (xix (kk:=3*i) XD hI.slh))<|(zV (xlw (cs:= [.int Oi (t.S i),.int Oi (t.V i),.int Oi (t.M i)]) Kz (hI.below hS.below) (Uo (k:=3*i) (i:=i) t.S t.V t.M Oa)))<|zlc (xc0 ZlH) (ZoJ (a:=(t.S i)) (b:=(t.V i)) (c:=(t.M i)) w) ?_;rintro _ w ⟨rfl,hS'⟩
  replace hS:=hS.cmp hS';clear hS'
  refine zlt<|Zf ?_ ?_<;>intro hc
  ·
   refine zsr<|(On)<|zx2<|Oj ?_
   exact⟨i,rfl,.inr ⟨by omega,Oa,‹¬Y8 (t.S i) (t.V i) (t.M i)›⟩,hS⟩
  refine zx4<|(zV (Zg (r:=i+1)))<|(zP)<|zln<|zlq ⟨i+1,rfl,Oa,Oa,?_,rfl,hS⟩
  ·
   intro k h0' h1';rcases Int.lt_or_eq_of_le (show k<=i by omega) with hk|hk;exact qa k h0' hk;rw [hk];assumption
 refine zx8<|(zP)<|zx1<|Oj ?_
 exact⟨-1,rfl,.inl ⟨rfl,fun k h0 h1=>qa k h0 Oa⟩,hS⟩
theorem Zhu{t:Its}(w0:World)(hI:Row w0 vI 3 t.n (Z1 t.S t.V t.M)):
   Calls Om 287 [vI,.func (.func 286) #[] #[]].toArray w0 fun e w=>∃v,e= .returned v/\v=B (∃k,0<=k/\k<t.n/\(¬Y8 (t.S k) (t.V k) (t.M k)))/\Sat w0 w []:=by
 refine zenG Tryz.func287 Tryz.ntmps287 fun w hS=> ?_
 refine zsr<|(zP)<|zlz<|(On)<|zlc (xc0 Zlz) (Zho w (hI.below hS.below)) ?_;rintro _ w ⟨r1,rfl,hr1,hS'⟩
 replace hS:=hS.cmp hS';clear hS'
 refine(On)<|zx1<|Oj ?_
 exact⟨Zm (by
  rcases hr1 with⟨h1,h2⟩|⟨h1,h2,h3⟩
  · exact⟨fun h=>Oa,fun⟨k,h4,h5,h6⟩=>absurd h6 (h2 k h4 h5)⟩
  · exact⟨fun _=>⟨_,h1,h2,h3⟩,fun _=>h1⟩),hS⟩
theorem Zhl{t:Its}{cap:Int}(w0:World)(hI:Row w0 vI 3 t.n (Z1 t.S t.V t.M)):
   Calls Om 233 [vI,.int Oi cap].toArray w0 fun e w=>∃v,e= .returned v/\v=B (t.Ok cap)/\Sat w0 w []:=by
 have hn:=hI.slh.n0
 refine zenG Tryz.func233 Tryz.ntmps233 fun w hS=> ?_
 refine zsr<|(zP)<|zlz<|(zP)<|zlz<|(zP)<|(zV (xln XD hI.slh))<|(On)<|zlb 9 ?_ ?_<;>intro hc
 ·
  refine zs4 ?_
  refine zlb 13 ?_ ?_<;>intro hc
  ·
   refine zs4 ?_
   refine zlb 17 ?_ ?_<;>intro hc
   ·
    refine(On)<|zlc (xc0 ZlG) (Zhu (t:=t) w (hI.below hS.below)) ?_;rintro _ w ⟨rfl,hS'⟩
    replace hS:=hS.cmp hS';clear hS'
    refine(Oo)<|zx1<|Oj ?_
    exact⟨Zm (by exact⟨fun hx=>⟨by omega,Oa,Oa,fun k k0 k1=>Od fun hh=>hx ⟨k,k0,k1,hh⟩⟩,fun hok ⟨k,k0,k1,hh⟩=>hh (hok.all k k0 k1)⟩),hS⟩
   iterate 4 refine zlo ?_
   refine(On)<|zx1<|Oj ?_
   exact⟨Zi (by rintro⟨h1,h2,h3,h4⟩;omega),hS⟩
  refine(zO)<|(zO)<|zs2 ?_
  iterate 4 refine zlo ?_
  refine(On)<|zx1<|Oj ?_
  exact⟨Zi (by rintro⟨h1,h2,h3,h4⟩;omega),hS⟩
 refine(zO)<|(zO)<|(On)<|(zO)<|zlo ?_
 refine zs2 ?_
 iterate 4 refine zlo ?_
 refine(On)<|zx1<|Oj ?_
 exact⟨Zi (by rintro⟨h1,h2,h3,h4⟩;omega),hS⟩
theorem Uq{vN:Value}{n s y m r:Int}{T:Of}{gn gr gx:Nat}{k:Int}(w0:World)(hGn:(Ent.blk gn [vN]).holds w0)(hGr:(Ent.blk gr [.int Oi r]).holds w0)(hGx:(Ent.blk gx [.int Oi s,.int Oi y,.int Oi m]).holds w0)(hN:Row w0 vN 1 n (ints T))(hTB:∀c,0<=c->c<n->0<=T c/\T c<=4398046511104)(hs:1<=s)(hn4:n<=4001)(hy:0<=y/\y<=1073741824)(r0:0<=r)(k0:0<=k)(hkn:r+k*s<n):
   Calls Om 311 [.int Oi k,Or gn,Or gr,Or gx].toArray w0 fun e w=>∃v,e= .returned v/\v= .int Oi (T (r+k*s)-k*y)/\Sat w0 w []:=by
 have hn1:=hN.slh.n1
 have gH:=ZfS k0 hs
 have hjs:=RL hs r0 k0 (Int.le_refl _) hkn
 have hjy:=XY k0 Oa hy.1 hy.2
 have htk:=hTB (r+k*s) Oa Oa
 refine zenG Tryz.func311 Tryz.ntmps311 fun w hS=> ?_
 refine zsr<|(zP)<|zx7<|zdst [] [] 1000 mx_ hS ?_;clear hS;intro w hS
 refine(zDl 0 (fun w hS=>(xlf pl_22 (Ent.holds.cell hGn (o:=0) rfl) hS)))<|(zDl 1 (fun w hS=>(xlf pl_3 (Ent.holds.cell hGr (o:=0) rfl) hS)))<|(zDw 2 xmv)<|(zDw 3 (xfb 0 fd_247_0))<|(zDl 4 (fun w hS=>(xlf pl_3 (Ent.holds.cell hGx (o:=0) rfl) hS)))<|(zDw 5 (Yf (r:=(k*s)) (e:=rfl)))<|(zDw 6 (Zg (r:=r+(k*s))))<|(zDw 7 (xix (kk:=r+(k*s)) Zb hN.slh))<|(zDl 8 (fun w hS=>(xlr (u:= .int Oi (T (r+(k*s)))) pl_3 (hN.below hS.below))))<|(zDw 9 xmv)<|(zDw 10 (xfb 1 fd_247_1))<|(zDl 11 (fun w hS=>(xlf pl_3 (Ent.holds.cell hGx (o:=1) rfl) hS)))<|(zDw 12 (Yf (r:=(k*y)) (e:=rfl)))<|(zDw 13 (Zp (r:=(T (r+(k*s)))-(k*y))))<|zDrv 14 xas ?_
 refine zdd<|ztn<|zrt<|Oj ?_
 exact⟨rfl,hS⟩
theorem Zjm{vN:Value}{n s y m:Int}{T:Of}(w0:World)(hN:Row w0 vN 1 n (ints T))(hTB:∀c,0<=c->c<n->0<=T c/\T c<=4398046511104)(hs:1<=s)(hs4:s<=4000)(hn4:n<=4001)(hy:0<=y/\y<=1073741824)(hm:0<=m/\m<=1000):
   Calls Om 288 [.agg #[.int Oi s,.int Oi y,.int Oi m],vN].toArray w0 fun e w=>∃v,e= .returned v/\∃r,v=r/\Slh r n/\Sat w0 w [.own r 1 3 n (ints (R T s y m.toNat))]:=by
 have hn0:=hN.slh.n0
 refine zenG Tryz.func288 Tryz.ntmps288 fun w hS=> ?_
 refine zsr<|zla (xbx (cs:= [_,_,_]) hS) ?_;rintro _ w ⟨g1,rfl,hS⟩
 refine zla (xbx (cs:= [_]) hS (hc:=Slh.cells hN.slh)) ?_;rintro _ w ⟨g2,rfl,hS⟩
 refine(zP)<|zlz<|(zV (xlb 1 pl_22 hS))<|(zV (xln Zb hN.slh))<|zla (xmk Zb ZG hS) ?_;rintro v1 w ⟨hS,hv1⟩
 refine(zP)<|zx5<|(zV (xfb 0 fd_247_0))<|(zV (xlb 0 pl_3 hS))<|(zV (xlb 1 pl_22 hS))<|(zV (xln Zb hN.slh))<|(zV (TU (r:=(min s n))))<|(zP)<|zx6<|zlp (fun mm M w=>∃(r:Int) (g:Of),mm=((min s n-r).toNat)/\(0<=r)/\(r<=min s n)/\(∀c,0<=c->c<n->c%s<r->g c=R T s y m.toNat c)/\M= [(2,Or g1),(3,Or g2),(4,Oh),(5,v1),(17,.int Oi (min s n)),(18,.int Oi r)]/\Sat w0 w [.blk g1 [.int Oi s,.int Oi y,.int Oi m],.blk g2 [vN],.own v1 1 3 n (ints g)]) ⟨0,(fun _=>0),rfl,Oa,Oa,?_,rfl,hS⟩ ?_
 ·
  intro c c0 c1 c2;have:=Int.emod_nonneg c (show s≠0 by omega);omega
 clear hS w
 rintro mm M w ⟨r,g,rfl,r0,r1,hg,rfl,hS⟩
 refine zsr<|(zP)<|zx7<|Zf ?_ ?_<;>intro hc
 ·
  refine zx3<|(zP)<|zla (xal (cs:= [_]) ZG hS) ?_;rintro _ w ⟨g3,rfl,hS⟩
  refine zle (xsb 3 pl_3 hS) ?_;clear hS;rintro w hS
  refine zlz<|(zP)<|zlz<|(zV xmf)<|(zP)<|zlz<|(zP)<|zx6 ?_
  replace hS:=hS.dqnil 3 (fun _=>0)
  refine zlp (fun mm M w=>∃(q:Int) (k:Int) (gg2:Of) (wq:Value) (fq:Of),mm=((n-k).toNat)/\(0<=k)/\(k<=n)/\(DQ (fun j=>T (r+j*s)-j*y) m k q fq)/\(LY T s y m n r k gg2)/\(Slh wq q)/\M= [(2,Or g1),(3,Or g2),(4,Oh),(5,v1),(6,Or g3),(7,wq),(8,.func (.func 311) #[] #[Or g2,Or g3,Or g1]),(9,.int Oi k),(17,.int Oi (min s n)),(18,.int Oi r)]/\Sat w0 w [.blk g1 [.int Oi s,.int Oi y,.int Oi m],.blk g2 [vN],.own v1 1 3 n (ints gg2),.blk g3 [.int Oi r],.sem (Frame.dq 3 wq q fq)]) ⟨0,0,g,Oh,(fun _=>0),rfl,Oa,Oa,?_,?_,?_,rfl,hS⟩ ?_
  ·
   exact DQ.start _ _ _
  ·
   exact LY.start T hg
  ·
   exact slh_nil
  clear hS w
  rintro mm M w ⟨q,k,gg2,wq,fq,rfl,k0,k1,hdq,hLY,hwq,rfl,hS⟩
  refine zsq<|zsr<|(zV (xlb 3 pl_3 hS))<|(zP)<|(zV (xfb 0 fd_247_0))<|(zV (xlb 0 pl_3 hS))<|zlv (Yf (r:=(k*s)) (e:=rfl) (hr:=(by have h1:=Int.mul_nonneg k0 (show 0<=s by omega);have h2:=Int.mul_le_mul (show k<=4001 by omega) hs4 Oa (show 0<=(4001:Int) by omega);unfold I64;omega))) ?_
  have gH:=ZfS k0 hs
  have kM:0<=k*s/\k*s<=16008000:=by have h1:=Int.mul_nonneg k0 (show 0<=s by omega);have h2:=Int.mul_le_mul (show k<=4001 by omega) hs4 Oa (show 0<=(4001:Int) by omega);omega
  refine(zV (Zg (r:=r+(k*s))))<|(zV (xlb 1 pl_22 hS))<|(zV (xln Zb hN.slh))<|(zP)<|zlt<|Zf ?_ ?_<;>intro hc
  ·
   refine zsk<|ztn<|zsq<|zbk<|zsq<|zbk ?_
   have gT:=hdq.p
   refine zlp (fun mm M w=>∃(q3:Int) (wp:Value),mm=q3.toNat/\(DQp (fun j=>T (r+j*s)-j*y) m k q3 fq)/\(q3<=k)/\(Slh wp q3)/\M= [(2,Or g1),(3,Or g2),(4,Oh),(5,v1),(6,Or g3),(7,wp),(8,.func (.func 311) #[] #[Or g2,Or g3,Or g1]),(9,.int Oi k),(17,.int Oi (min s n)),(18,.int Oi r)]/\Sat w0 w [.blk g1 [.int Oi s,.int Oi y,.int Oi m],.blk g2 [vN],.own v1 1 3 n (ints gg2),.blk g3 [.int Oi r],.sem (Frame.dq 3 wp q3 fq)]) ⟨q,wq,rfl,?_,?_,?_,rfl,hS⟩ ?_
   ·
    exact gT
   ·
    exact hdq.len k0
   ·
    exact hwq
   clear hS w
   rintro mm M w ⟨q3,wp,rfl,hdp,hqk,hwp,rfl,hS⟩
   have kz:=hdp.q0
   refine zsq<|zsr<|(zP)<|(zV (xln Zb hwp))<|(On)<|zlb 36 ?_ ?_<;>intro hc
   ·
    refine(Oo)<|(zV (xln Zb hwp))<|(zV (Zp (r:=q3-1)))<|(zV (xix (kk:=q3-1) Zb hwp))<|zlv (xlr (u:= .int Oi (fq (q3-1))) pl_3 (Frame.dq.row (hS.dqOf 4 rfl))) ?_
    have hq9:=hdp.rng (q3-1) Oa Oa
    have kN:=RL hs r0 (show 0<=fq (q3-1) by omega) (show fq (q3-1)<=k by omega) (show r+k*s<n by omega)
    refine zlc (xcc (vs:= [_]) Up) (Uq (k:=(fq (q3-1))) (n:=n) (T:=T) w (hS.holds _ (List.mem_of_getElem? (i:=1) rfl)) (hS.holds _ (List.mem_of_getElem? (i:=3) rfl)) (hS.holds _ (List.mem_of_getElem? (i:=0) rfl)) (hN.below hS.below) hTB hs hn4 hy Oa Oa Oa) ?_;rintro _ w ⟨rfl,hS'⟩
    replace hS:=hS.cmp hS';clear hS'
    refine(On)<|zlc (xcc (vs:= [_]) Up) (Uq (k:=k) (n:=n) (T:=T) w (hS.holds _ (List.mem_of_getElem? (i:=1) rfl)) (hS.holds _ (List.mem_of_getElem? (i:=3) rfl)) (hS.holds _ (List.mem_of_getElem? (i:=0) rfl)) (hN.below hS.below) hTB hs hn4 hy Oa Oa Oa) ?_;rintro _ w ⟨rfl,hS'⟩
    replace hS:=hS.cmp hS';clear hS'
    refine(On)<|zlt<|Zf ?_ ?_<;>intro hc
    ·
     refine zsk<|ztn<|zbk<|zrg<|(On)<|(zV (xln Zb hwp))<|(zV (Zp (r:=q3-1)))<|zlv (Zcb (i:=q3-1) (q3-1).toNat Zb hwp (Frame.dq.roomy (hS.dqOf 4 rfl))) ?_
     have zR:=(R4 (e:=q3-1) hwp Oa Oa)
     replace hS:=hS.dqpre (n:=q3) 4 (q3-1).toNat Oa
     replace hS:=hS.dqn 4 (by omega:((q3-1).toNat:Int)=q3-1)
     refine(zP)<|zln<|zbn<|zlq ⟨q3-1,(TX wp (q3-1).toNat),rfl,?_,?_,?_,rfl,hS⟩
     ·
      exact hdp.pop Oa (by show T _-_<=T _-_;omega)
     ·
      omega
     ·
      exact zR
    refine zx8<|(On)<|zla (xli (n:=1) (len:=1) (pv:= [(0,.int Oi k)]) (cs:= [.int Oi k]) (c:=ints (fun _=>k)) Zb ZG hS) ?_;rintro v2 w ⟨hS,hv2⟩
    refine zla (Zkk 4 Zb ZG hS (hS.rowN 5 rfl)) ?_;rintro v3 w ⟨hS,hv3⟩
    have hda:=hdp.push k0 hm.1 (by show _<=_\/T _-_<T _-_;omega)
    have hdr:=hda.rng 0 Oa Oa
    refine(zP)<|zlt<|zsq<|zsq<|zdst [0,1,2,3,4,5] [0,1,2,3,4,5] 1000 mx_ hS ?_;clear hS;intro w hS
    refine(zDw 0 xmv)<|(zDw 1 (xix (kk:=0) Zb hv3))<|(zDl 2 (fun w hS=>(xlr (u:= .int Oi ((snoc fq q3 k) 0)) pl_3 (Frame.dq.row (hS.dqOf 4 rfl)))))<|(zDw 3 xmv)<|(zDw 4 (xfb 2 fd_247_2))<|(zDl 5 (fun w hS=>(xlb 0 pl_3 hS)))<|(zDw 6 (Zp (r:=k-m)))<|(zDw 7 Z9)<|zdd<|ztn ?_
    refine Zf ?_ ?_<;>intro hc
    ·
     refine zrg<|zlv xmv ?_
     have hdm:=hda.more hm.1 Oa
     refine Ko rfl rfl rfl (YN (q:=1) rfl Zb rfl rfl rfl hv3 rfl Oa Oa) ?_
     have ci:=(R3 (m:=q3) hv3 (Frame.dq.roomy (hS.dqOf 4 rfl)) Oa Oa)
     replace hS:=hS.dqsuf (n:=q3+1) 4 1 Oa
     replace hS:=hS.dqn 4 (by omega:(q3+1-((1:Nat):Int):Int)=q3)
     replace hS:Sat w0 w [.blk g1 [.int Oi s,.int Oi y,.int Oi m],.blk g2 [vN],.own v1 1 3 n (ints gg2),.blk g3 [.int Oi r],.sem (Frame.dq 3 (Xq v3 1) q3 (fun z9=>(snoc fq q3 k) (z9+1))),.own v2 1 3 1 (ints (fun _=>k))]:=hS
     refine(zP)<|zlt<|zdst [0,1,2,3,4,5] [0,1,3,4,5] 18 mx_ hS ?_;clear hS;intro w hS
     refine zDrv 0 xmv ?_
     have yo:DQ (fun j=>T (r+j*s)-j*y) m (k+1) (q3) ((fun z9=>(snoc fq q3 k) (z9+1))):=hda.drop k0 hm.1 Oa
     have qK:=yo.best k0 hm.1
     have hb2:max 0 (k-m)<=((fun z9=>(snoc fq q3 k) (z9+1))) 0:=qK.2.1
     have hb3:((fun z9=>(snoc fq q3 k) (z9+1))) 0<=k:=qK.2.2.1
     have dc:=RL hs r0 (show 0<=((fun z9=>(snoc fq q3 k) (z9+1))) 0 by omega) hb3 (show r+k*s<n by omega)
     have c8:=XY k0 Oa hy.1 hy.2
     have da:=XY (show 0<=((fun z9=>(snoc fq q3 k) (z9+1))) 0 by omega) Oa hy.1 hy.2
     have cM:=hTB (r+((fun z9=>(snoc fq q3 k) (z9+1))) 0*s) Oa Oa
     refine(zDl 1 (fun w hS=>(xlb 2 pl_3 hS)))<|(zDw 2 xmv)<|(zDw 3 (xfb 0 fd_247_0))<|(zDl 4 (fun w hS=>(xlb 0 pl_3 hS)))<|(zDw 5 (Yf (r:=(k*s)) (e:=rfl)))<|(zDw 6 (Zg (r:=r+(k*s))))<|(zDw 7 xmv)<|(zDw 8 xmv)<|(zDw 9 (xix (kk:=0) Zb ci))<|(zDl 10 (fun w hS=>(xlr (u:= .int Oi ((fun z9=>(snoc fq q3 k) (z9+1)) 0)) pl_3 (Frame.dq.row (hS.dqOf 3 rfl)))))<|(zDw 12 xmv)<|(zDw 13 (xfb 1 fd_247_1))<|(zDl 14 (fun w hS=>(xlb 0 pl_3 hS)))<|(zDw 15 (Yf (r:=(k*y)) (e:=rfl)))<|zdc 11 (xcc (vs:= [_]) Up) (Uq (k:=((fun z9=>(snoc fq q3 k) (z9+1)) 0)) (n:=n) (T:=T) w (hS.holds _ (List.mem_of_getElem? (i:=1) rfl)) (hS.holds _ (List.mem_of_getElem? (i:=3) rfl)) (hS.holds _ (List.mem_of_getElem? (i:=0) rfl)) (hN.below hS.below) hTB hs hn4 hy Oa Oa Oa) ?_;rintro _ w ⟨rfl,hS'⟩
     replace hS:=hS.cmp hS';clear hS'
     refine⟨⟨fun _=>hS,hS.pk [0,1,3,4,5]⟩,?_⟩
     refine(zDw 16 (Zg (r:=(T (r+((fun z9=>(snoc fq q3 k) (z9+1)) 0)*s)-((fun z9=>(snoc fq q3 k) (z9+1)) 0)*y)+(k*y))))<|(zDw 17 (xix (kk:=r+(k*s)) Zb hv1))<|zde 18 (xso 2 pl_3 hS (ZA _ _ _)) ?_;clear hS;rintro w hS
     refine⟨⟨fun h=>absurd h (by decide),hS.pk [0,1,3,4,5]⟩,?_⟩
     refine zdd<|zbn<|ztn<|zrg ?_
     refine(zP)<|(zV (Zg (r:=k+1)))<|(zP)<|zln<|zlq ⟨q3,k+1,(upd gg2 (r+(k*s)) ((T (r+((fun z9=>(snoc fq q3 k) (z9+1)) 0)*s)-((fun z9=>(snoc fq q3 k) (z9+1)) 0)*y)+(k*y))),(Xq v3 1),(fun z9=>(snoc fq q3 k) (z9+1)),rfl,Oa,Oa,?_,?_,?_,rfl,hS.pk [0,1,2,3,4]⟩
     ·
      exact yo
     ·
      exact hLY.step hs r0 Oa k0 (U5 hs hm.1 r0 Oa k0 qK.2.1 qK.2.2.1 (fun j j0 j1=>qK.2.2.2 j j0 j1))
     ·
      exact ci
    refine zsk<|ztn<|zdst [0,1,2,3,4,5] [0,1,3,4,5] 18 mx_ hS ?_;clear hS;intro w hS
    refine zDrv 0 xmv ?_
    have yo:DQ (fun j=>T (r+j*s)-j*y) m (k+1) (q3+1) ((snoc fq q3 k)):=hda.keep k0 Oa
    have qK:=yo.best k0 hm.1
    have hb2:max 0 (k-m)<=((snoc fq q3 k)) 0:=qK.2.1
    have hb3:((snoc fq q3 k)) 0<=k:=qK.2.2.1
    have dc:=RL hs r0 (show 0<=((snoc fq q3 k)) 0 by omega) hb3 (show r+k*s<n by omega)
    have c8:=XY k0 Oa hy.1 hy.2
    have da:=XY (show 0<=((snoc fq q3 k)) 0 by omega) Oa hy.1 hy.2
    have cM:=hTB (r+((snoc fq q3 k)) 0*s) Oa Oa
    refine(zDl 1 (fun w hS=>(xlb 2 pl_3 hS)))<|(zDw 2 xmv)<|(zDw 3 (xfb 0 fd_247_0))<|(zDl 4 (fun w hS=>(xlb 0 pl_3 hS)))<|(zDw 5 (Yf (r:=(k*s)) (e:=rfl)))<|(zDw 6 (Zg (r:=r+(k*s))))<|(zDw 7 xmv)<|(zDw 8 xmv)<|(zDw 9 (xix (kk:=0) Zb hv3))<|(zDl 10 (fun w hS=>(xlr (u:= .int Oi ((snoc fq q3 k) 0)) pl_3 (Frame.dq.row (hS.dqOf 3 rfl)))))<|(zDw 12 xmv)<|(zDw 13 (xfb 1 fd_247_1))<|(zDl 14 (fun w hS=>(xlb 0 pl_3 hS)))<|(zDw 15 (Yf (r:=(k*y)) (e:=rfl)))<|zdc 11 (xcc (vs:= [_]) Up) (Uq (k:=((snoc fq q3 k) 0)) (n:=n) (T:=T) w (hS.holds _ (List.mem_of_getElem? (i:=1) rfl)) (hS.holds _ (List.mem_of_getElem? (i:=3) rfl)) (hS.holds _ (List.mem_of_getElem? (i:=0) rfl)) (hN.below hS.below) hTB hs hn4 hy Oa Oa Oa) ?_;rintro _ w ⟨rfl,hS'⟩
    replace hS:=hS.cmp hS';clear hS'
    refine⟨⟨fun _=>hS,hS.pk [0,1,3,4,5]⟩,?_⟩
    refine(zDw 16 (Zg (r:=(T (r+((snoc fq q3 k) 0)*s)-((snoc fq q3 k) 0)*y)+(k*y))))<|(zDw 17 (xix (kk:=r+(k*s)) Zb hv1))<|zde 18 (xso 2 pl_3 hS (ZA _ _ _)) ?_;clear hS;rintro w hS
    refine⟨⟨fun h=>absurd h (by decide),hS.pk [0,1,3,4,5]⟩,?_⟩
    refine zdd<|zbn<|ztn<|zrg ?_
    refine(zP)<|(zV (Zg (r:=k+1)))<|(zP)<|zln<|zlq ⟨q3+1,k+1,(upd gg2 (r+(k*s)) ((T (r+((snoc fq q3 k) 0)*s)-((snoc fq q3 k) 0)*y)+(k*y))),v3,(snoc fq q3 k),rfl,Oa,Oa,?_,?_,?_,rfl,hS.pk [0,1,2,3,4]⟩
    ·
     exact yo
    ·
     exact hLY.step hs r0 Oa k0 (U5 hs hm.1 r0 Oa k0 qK.2.1 qK.2.2.1 (fun j j0 j1=>qK.2.2.2 j j0 j1))
    ·
     exact hv3
   iterate 12 refine zlo ?_
   refine(zP)<|zlt<|zcf<|zxt<|ztx<|ztx<|zbh<|ztn<|zsr ?_
   refine(On)<|zla (xli (n:=1) (len:=1) (pv:= [(0,.int Oi k)]) (cs:= [.int Oi k]) (c:=ints (fun _=>k)) Zb ZG hS) ?_;rintro v4 w ⟨hS,hv4⟩
   refine zla (Zkk 4 Zb ZG hS (hS.rowN 5 rfl)) ?_;rintro v5 w ⟨hS,hv5⟩
   have hda:=hdp.push k0 hm.1 (by show _<=_\/T _-_<T _-_;omega)
   have hdr:=hda.rng 0 Oa Oa
   refine(zP)<|zlt<|zsq<|zsq<|zdst [0,1,2,3,4,5] [0,1,2,3,4,5] 1000 mx_ hS ?_;clear hS;intro w hS
   refine(zDw 0 xmv)<|(zDw 1 (xix (kk:=0) Zb hv5))<|(zDl 2 (fun w hS=>(xlr (u:= .int Oi ((snoc fq q3 k) 0)) pl_3 (Frame.dq.row (hS.dqOf 4 rfl)))))<|(zDw 3 xmv)<|(zDw 4 (xfb 2 fd_247_2))<|(zDl 5 (fun w hS=>(xlb 0 pl_3 hS)))<|(zDw 6 (Zp (r:=k-m)))<|(zDw 7 Z9)<|zdd<|ztn ?_
   refine Zf ?_ ?_<;>intro hc
   ·
    refine zrg<|zlv xmv ?_
    have hdm:=hda.more hm.1 Oa
    refine Ko rfl rfl rfl (YN (q:=1) rfl Zb rfl rfl rfl hv5 rfl Oa Oa) ?_
    have cg:=(R3 (m:=q3) hv5 (Frame.dq.roomy (hS.dqOf 4 rfl)) Oa Oa)
    replace hS:=hS.dqsuf (n:=q3+1) 4 1 Oa
    replace hS:=hS.dqn 4 (by omega:(q3+1-((1:Nat):Int):Int)=q3)
    replace hS:Sat w0 w [.blk g1 [.int Oi s,.int Oi y,.int Oi m],.blk g2 [vN],.own v1 1 3 n (ints gg2),.blk g3 [.int Oi r],.sem (Frame.dq 3 (Xq v5 1) q3 (fun z9=>(snoc fq q3 k) (z9+1))),.own v4 1 3 1 (ints (fun _=>k))]:=hS
    refine(zP)<|zlt<|zdst [0,1,2,3,4,5] [0,1,3,4,5] 18 mx_ hS ?_;clear hS;intro w hS
    refine zDrv 0 xmv ?_
    have yo:DQ (fun j=>T (r+j*s)-j*y) m (k+1) (q3) ((fun z9=>(snoc fq q3 k) (z9+1))):=hda.drop k0 hm.1 Oa
    have qK:=yo.best k0 hm.1
    have hb2:max 0 (k-m)<=((fun z9=>(snoc fq q3 k) (z9+1))) 0:=qK.2.1
    have hb3:((fun z9=>(snoc fq q3 k) (z9+1))) 0<=k:=qK.2.2.1
    have dc:=RL hs r0 (show 0<=((fun z9=>(snoc fq q3 k) (z9+1))) 0 by omega) hb3 (show r+k*s<n by omega)
    have c8:=XY k0 Oa hy.1 hy.2
    have da:=XY (show 0<=((fun z9=>(snoc fq q3 k) (z9+1))) 0 by omega) Oa hy.1 hy.2
    have cM:=hTB (r+((fun z9=>(snoc fq q3 k) (z9+1))) 0*s) Oa Oa
    refine(zDl 1 (fun w hS=>(xlb 2 pl_3 hS)))<|(zDw 2 xmv)<|(zDw 3 (xfb 0 fd_247_0))<|(zDl 4 (fun w hS=>(xlb 0 pl_3 hS)))<|(zDw 5 (Yf (r:=(k*s)) (e:=rfl)))<|(zDw 6 (Zg (r:=r+(k*s))))<|(zDw 7 xmv)<|(zDw 8 xmv)<|(zDw 9 (xix (kk:=0) Zb cg))<|(zDl 10 (fun w hS=>(xlr (u:= .int Oi ((fun z9=>(snoc fq q3 k) (z9+1)) 0)) pl_3 (Frame.dq.row (hS.dqOf 3 rfl)))))<|(zDw 12 xmv)<|(zDw 13 (xfb 1 fd_247_1))<|(zDl 14 (fun w hS=>(xlb 0 pl_3 hS)))<|(zDw 15 (Yf (r:=(k*y)) (e:=rfl)))<|zdc 11 (xcc (vs:= [_]) Up) (Uq (k:=((fun z9=>(snoc fq q3 k) (z9+1)) 0)) (n:=n) (T:=T) w (hS.holds _ (List.mem_of_getElem? (i:=1) rfl)) (hS.holds _ (List.mem_of_getElem? (i:=3) rfl)) (hS.holds _ (List.mem_of_getElem? (i:=0) rfl)) (hN.below hS.below) hTB hs hn4 hy Oa Oa Oa) ?_;rintro _ w ⟨rfl,hS'⟩
    replace hS:=hS.cmp hS';clear hS'
    refine⟨⟨fun _=>hS,hS.pk [0,1,3,4,5]⟩,?_⟩
    refine(zDw 16 (Zg (r:=(T (r+((fun z9=>(snoc fq q3 k) (z9+1)) 0)*s)-((fun z9=>(snoc fq q3 k) (z9+1)) 0)*y)+(k*y))))<|(zDw 17 (xix (kk:=r+(k*s)) Zb hv1))<|zde 18 (xso 2 pl_3 hS (ZA _ _ _)) ?_;clear hS;rintro w hS
    refine⟨⟨fun h=>absurd h (by decide),hS.pk [0,1,3,4,5]⟩,?_⟩
    refine zdd<|zbn<|ztn<|zrg ?_
    refine(zP)<|(zV (Zg (r:=k+1)))<|(zP)<|zln<|zlq ⟨q3,k+1,(upd gg2 (r+(k*s)) ((T (r+((fun z9=>(snoc fq q3 k) (z9+1)) 0)*s)-((fun z9=>(snoc fq q3 k) (z9+1)) 0)*y)+(k*y))),(Xq v5 1),(fun z9=>(snoc fq q3 k) (z9+1)),rfl,Oa,Oa,?_,?_,?_,rfl,hS.pk [0,1,2,3,4]⟩
    ·
     exact yo
    ·
     exact hLY.step hs r0 Oa k0 (U5 hs hm.1 r0 Oa k0 qK.2.1 qK.2.2.1 (fun j j0 j1=>qK.2.2.2 j j0 j1))
    ·
     exact cg
   refine zsk<|ztn<|zdst [0,1,2,3,4,5] [0,1,3,4,5] 18 mx_ hS ?_;clear hS;intro w hS
   refine zDrv 0 xmv ?_
   have yo:DQ (fun j=>T (r+j*s)-j*y) m (k+1) (q3+1) ((snoc fq q3 k)):=hda.keep k0 Oa
   have qK:=yo.best k0 hm.1
   have hb2:max 0 (k-m)<=((snoc fq q3 k)) 0:=qK.2.1
   have hb3:((snoc fq q3 k)) 0<=k:=qK.2.2.1
   have dc:=RL hs r0 (show 0<=((snoc fq q3 k)) 0 by omega) hb3 (show r+k*s<n by omega)
   have c8:=XY k0 Oa hy.1 hy.2
   have da:=XY (show 0<=((snoc fq q3 k)) 0 by omega) Oa hy.1 hy.2
   have cM:=hTB (r+((snoc fq q3 k)) 0*s) Oa Oa
   refine(zDl 1 (fun w hS=>(xlb 2 pl_3 hS)))<|(zDw 2 xmv)<|(zDw 3 (xfb 0 fd_247_0))<|(zDl 4 (fun w hS=>(xlb 0 pl_3 hS)))<|(zDw 5 (Yf (r:=(k*s)) (e:=rfl)))<|(zDw 6 (Zg (r:=r+(k*s))))<|(zDw 7 xmv)<|(zDw 8 xmv)<|(zDw 9 (xix (kk:=0) Zb hv5))<|(zDl 10 (fun w hS=>(xlr (u:= .int Oi ((snoc fq q3 k) 0)) pl_3 (Frame.dq.row (hS.dqOf 3 rfl)))))<|(zDw 12 xmv)<|(zDw 13 (xfb 1 fd_247_1))<|(zDl 14 (fun w hS=>(xlb 0 pl_3 hS)))<|(zDw 15 (Yf (r:=(k*y)) (e:=rfl)))<|zdc 11 (xcc (vs:= [_]) Up) (Uq (k:=((snoc fq q3 k) 0)) (n:=n) (T:=T) w (hS.holds _ (List.mem_of_getElem? (i:=1) rfl)) (hS.holds _ (List.mem_of_getElem? (i:=3) rfl)) (hS.holds _ (List.mem_of_getElem? (i:=0) rfl)) (hN.below hS.below) hTB hs hn4 hy Oa Oa Oa) ?_;rintro _ w ⟨rfl,hS'⟩
   replace hS:=hS.cmp hS';clear hS'
   refine⟨⟨fun _=>hS,hS.pk [0,1,3,4,5]⟩,?_⟩
   refine(zDw 16 (Zg (r:=(T (r+((snoc fq q3 k) 0)*s)-((snoc fq q3 k) 0)*y)+(k*y))))<|(zDw 17 (xix (kk:=r+(k*s)) Zb hv1))<|zde 18 (xso 2 pl_3 hS (ZA _ _ _)) ?_;clear hS;rintro w hS
   refine⟨⟨fun h=>absurd h (by decide),hS.pk [0,1,3,4,5]⟩,?_⟩
   refine zdd<|zbn<|ztn<|zrg ?_
   refine(zP)<|(zV (Zg (r:=k+1)))<|(zP)<|zln<|zlq ⟨q3+1,k+1,(upd gg2 (r+(k*s)) ((T (r+((snoc fq q3 k) 0)*s)-((snoc fq q3 k) 0)*y)+(k*y))),v5,(snoc fq q3 k),rfl,Oa,Oa,?_,?_,?_,rfl,hS.pk [0,1,2,3,4]⟩
   ·
    exact yo
   ·
    exact hLY.step hs r0 Oa k0 (U5 hs hm.1 r0 Oa k0 qK.2.1 qK.2.2.1 (fun j j0 j1=>qK.2.2.2 j j0 j1))
   ·
    exact hv5
  refine zxt<|ztx<|ztx<|zbh<|zbn<|ztn<|zrg<|(zV (Zg (r:=r+1)))<|(zP)<|zln<|zlq ⟨r+1,gg2,rfl,Oa,Oa,?_,rfl,hS.pk [0,1,2]⟩
  ·
   exact hLY.fin Oa
 refine zx8<|(On)<|zx1<|Oj ?_
 obtain⟨hs1,hs2⟩:r=min s n/\r<=n:=Oa
 replace hS:=hS.recont 2 rfl (d:=ints (R T s y m.toNat)) (fun c c0 c1=>by
   unfold ints;rw [hg c c0 Oa (by rcases Int.lt_or_le c s with h1|h1;rw [Int.emod_eq_of_lt c0 h1];omega;have:=Int.emod_lt_of_pos c (show 0<s by omega);omega)])
 exact⟨_,rfl,hv1,hS.pk [2]⟩
end Go.Proofs.YtpnamgfdakfccaaGreat
namespace Go.Proofs.YtpnamgfdakfccaaGreat
open Go Go.RowKit Go.Proofs.Gw
theorem ZlF:Zc Om 288=true:=Oc
theorem Sat.revrows{w w0:World}{l:List Ent}{E:TypeId}{n:Int}{vv:Int->Value}{ln:Of}{f:Og}(i:Nat)(h:Sat w0 w l)(hi:l[i]? =some (.sem (Frame.rows E n vv ln f))):Sat w0 w (l.set i (.sem (Frame.rows E n (fun k=>vv (n-1-k)) (fun k=>ln (n-1-k)) (fun k=>f (n-1-k))))):=
 h.resem i hi (fun⟨h1,h2⟩=>⟨fun k k0 k1=>h1 (n-1-k) Oa Oa,fun a b a0 a1 b0 b1 hab=>h2 (n-1-a) (n-1-b) Oa Oa Oa Oa Oa⟩) fun g ⟨k,k0,k1,hk⟩=>⟨n-1-k,Oa,Oa,hk⟩
theorem Zks{w:World}{v:Value}{n:Int}{f g:Of}(h:Row w v 1 n (ints f))(e:f=g):Row w v 1 n (ints g):=e▸h
theorem Zhk{vI:Value}{t:Its}{cap:Int}(w0:World)(hI:Row w0 vI 3 t.n (Z1 t.S t.V t.M))(hk:t.Ok cap):
   Calls Om 234 [vI,.int Oi cap].toArray w0 fun e w=>∃v,e= .returned v/\∃r vv,v=r/\Slh r (t.n+1)/\Sat w0 w [.own r 1 22 (t.n+1) vv,.sem (Frame.rows 3 (t.n+1) vv (fun _=>cap+1) (KI t))]:=by
 have hn:=hI.slh.n0
 have hk1:=hk.n;have hk2:=hk.c0;have hk3:=hk.c1
 refine zenG Tryz.func234 Tryz.ntmps234 fun w hS=> ?_
 refine zsr<|(zP)<|zlz<|(zP)<|(zV (xln XD hI.slh))<|(zV (Zg (r:=t.n+1)))<|zla (xmk Zk Yj hS) ?_;rintro v1 w ⟨hS,hv1⟩
 refine(zP)<|zlz<|(On)<|(zV (xln XD hI.slh))<|(zP)<|(zV (Zg (r:=cap+1)))<|zla (xmk Zb ZG hS) ?_;rintro v2 w ⟨hS,hv2⟩
 refine(zV (xix (kk:=t.n) Zk hv1))<|zle (xso 0 pl_22 hS rfl (hv:=hv2.one)) ?_;clear hS;rintro w hS
 refine zx5<|(zP)<|(zV (xln XD hI.slh))<|(zV (Zp (r:=t.n-1)))<|(zP)<|zx6 ?_
 replace hS:=hS.addrows 3 (fun _=>Oh) (fun _=>cap+1) (fun j=>KI t (t.n-j))
 have aK:=fun k (k0:0<=k) (k1:k<0)=>hS.slhIn 2 rfl k0 k1
 replace hS:=Sat.merge2 (l1:= [_]) (l2:= []) (l3:= []) hS Oa
 have xl:=fun k (k0:0<=k) (k1:k<1)=>hS.slhIn 1 rfl k0 k1
 replace hS:=hS.rerows (vv':=gsn (fun _=>Oh) 0 v2) (ln':=fun _=>cap+1) (f':=fun j=>KI t (t.n-j)) 1 rfl (fun k k0 k1=>by
   by_cases e:k<0
   · exact⟨rfl,Zv e,fun j _ _=>by rw [Zv e]⟩
   · have hk9:k=0:=Oa
     refine⟨rfl,ZF e,fun j _ _=> ?_⟩
     rw [ZF e,hk9];rw [show t.n-(0:Int)=t.n by omega,Znu])
 have jP:=fun k (k0:0<=k) (k1:k<1)=>hS.slhIn 1 rfl k0 k1
 refine zlp (fun mm M w=>∃(nC:Int) (wv:Int->Value) (rv:Int->Value) (i:Int),mm=((i+1).toNat)/\(-1<=i)/\(i<=t.n-1)/\(nC=t.n-i)/\(∀j,0<=j->j<nC->wv (t.n-j)=rv j)/\M= [(0,vI),(4,Oh),(5,v1),(6,.int Oi i)]/\Sat w0 w [.own v1 1 22 (t.n+1) wv,.sem (Frame.rows 3 nC rv (fun _=>cap+1) (fun j=>KI t (t.n-j)))]) ⟨1,upd (fun _=> Oh) t.n (v2),gsn (fun _=>Oh) 0 v2,(t.n-1),rfl,Oa,Oa,Oa,?_,rfl,hS⟩ ?_
 ·
  intro j j0 j1;obtain rfl:j=0:=Oa
  rw [show t.n-(0:Int)=t.n by omega,gu_self,ZF Oa]
 clear hS w
 rintro mm M w ⟨nC,wv,rv,i,rfl,i0,i1,hnC,hwv,rfl,hS⟩
 have y4:=fun k (k0:0<=k) (k1:k<nC)=>hS.slhIn 1 rfl k0 k1
 refine zsq<|zsr<|(On)<|zlt<|Zf ?_ ?_<;>intro hc
 ·
  refine zsk<|ztn<|zsq<|zbk<|zdst [0,1] [1] 13 mx_ hS ?_;clear hS;intro w hS
  refine(zDw 0 xmv)<|(zDw 1 xmv)<|(zDw 2 xmv)<|(zDw 3 xmv)<|(zDw 4 (xix (kk:=3*i) XD hI.slh))<|YB 5 (fun w hS=>(xlw (cs:= [.int Oi (t.S i),.int Oi (t.V i),.int Oi (t.M i)]) Kz (hI.below hS.below) (Uo (k:=3*i) (i:=i) t.S t.V t.M Oa))) ?_
  have hev:=hk.all i Oa Oa;unfold Its.each Y8 at hev
  refine(zDw 6 xmv)<|(zDw 7 xmv)<|(zDw 8 (Zg (r:=i+1)))<|(zDw 9 (xix (kk:=i+1) Zk hv1))<|zdl 10 (fun w hS=>(xlr (u:=(rv (t.n-i-1))) pl_22 (hS.rowN 0 rfl) (e:=(by have:=hwv (t.n-i-1) Oa Oa;rwa [show t.n-(t.n-i-1)=i+1 by omega] at this)))) ?_
  refine zdc 11 (xc0 ZlF) (Zjm (n:=cap+1) (s:=(t.S i)) (y:=(t.V i)) (m:=(t.M i)) (T:=KI t (i+1)) w (Zks (hS.rowIn (k:=t.n-i-1) 1 rfl Oa Oa) (by show KI t (t.n-(t.n-i-1))=_;congr 1;omega)) (fun c c0 c1=>by have:=Wg hk (i:=i+1) Oa Oa c0;omega) Oa Oa Oa Oa Oa) ?_;rintro aj w ⟨_,rfl,cD,hS'⟩
  replace hS:=(hS.comp hS').n3;clear hS'
  refine⟨⟨fun _=>hS.pk [0,1],hS.pk [1]⟩,?_⟩
  refine(zDw 12 (xix (kk:=i) Zk hv1))<|zde 13 (xso 0 pl_22 hS rfl (hv:=cD.one)) ?_;clear hS;rintro w hS
  refine⟨⟨fun h=>absurd h (by decide),hS.pk [1]⟩,?_⟩
  refine zdd<|zbn<|ztn<|zrg ?_
  refine(zP)<|(zV (Zp (r:=i-1)))<|(zP)<|zln ?_
  replace hS:=Sat.merge (l1:= [_]) (l2:= []) (l3:= []) hS Oa
  have kx:=fun k (k0:0<=k) (k1:k<nC+1)=>hS.slhIn 1 rfl k0 k1
  replace hS:=hS.rerows (vv':=gsn rv nC aj) (ln':=fun _=>cap+1) (f':=fun j=>KI t (t.n-j)) 1 rfl (fun k k0 k1=>by
    by_cases e:k<nC
    · exact⟨rfl,Zv e,fun j _ _=>by rw [Zv e]⟩
    · have hk9:k=nC:=Oa
      refine⟨rfl,ZF e,fun j _ _=> ?_⟩
      rw [ZF e,hk9];rw [hnC,show t.n-(t.n-i)=i by omega,Zd4 t (i:=i) Oa Oa])
  have jO:=fun k (k0:0<=k) (k1:k<nC+1)=>hS.slhIn 1 rfl k0 k1
  refine zlq ⟨nC+1,upd wv i (aj),gsn rv nC aj,i-1,rfl,Oa,Oa,Oa,?_,rfl,hS⟩
  ·
   intro j j0 j1;by_cases e:j=nC
   · rw [e,hnC,show t.n-(t.n-i)=i by omega,gu_self,ZF Oa]
   · rw [gu_ne Oa,Zv Oa];exact hwv j j0 Oa
 refine zx8<|(On)<|zx1<|Oj ?_
 obtain rfl:i= -1:=Oa
 obtain rfl:nC=t.n+1:=Oa
 replace hS:=Sat.revrows 1 hS rfl
 replace hS:=hS.rerows (vv':=wv) (ln':=fun _=>cap+1) (f':=KI t) 1 rfl (fun k k0 k1=>⟨by rw [<-hwv _ Oa Oa];congr 1;omega,rfl,fun j _ _=>by show KI t (t.n-(t.n+1-1-k)) j=_;congr 1;omega⟩)
 exact⟨_,_,rfl,hv1,hS.pk [0,1]⟩
variable {cap i j:Int}
theorem ZlW:Zc Om 233=true:=Oc
theorem ZlV:Zc Om 234=true:=Oc
theorem ZcJ:ZM Om 247=some (.agg #[.int Oi 0,.int Oi 0,.int Oi 0],3,24):=Oc
def ZoV(t:Its)(cap n:Int)(x:Of)(val e:Int):Prop:=(¬t.Ok cap/\n=0/\val=0/\e=1)\/(t.Ok cap/\n=t.n/\KX t cap x t.n/\val=KI t 0 cap/\e=0)
theorem Zdr{t:Its}(hk:t.Ok cap){c:Int}(i0:0<=i)(i1:i<t.n)(j0:0<=j)(j1:j<=c.tdiv (t.S i))(c0:0<=c):0<=j*t.S i/\j*t.S i<=c:=by
 have he:=hk.all i i0 i1
 unfold Its.each Y8 at he
 have hq:=YI (a:=c) (b:=t.S i) c0 he.1
 have h1:=Int.mul_nonneg j0 (show 0<=t.S i by omega)
 have h2:=Int.mul_le_mul_of_nonneg_right j1 (show 0<=t.S i by omega)
 omega
theorem ZfW{t:Its}(hk:t.Ok cap){c:Int}(i0:0<=i)(i1:i<t.n)(h:j*t.S i<=c)(c0:0<=c):j<=c.tdiv (t.S i):=by
 have he:=hk.all i i0 i1
 unfold Its.each Y8 at he
 rw [Int.tdiv_eq_ediv_of_nonneg c0]
 exact(Int.le_ediv_iff_mul_le Oa).2 h
theorem ZfV{t:Its}(hk:t.Ok cap)(i0:0<=i)(i1:i<t.n)(j0:0<=j)(j1:j<=4001):0<=j*t.V i/\j*t.V i<=4296041037824:=by
 have he:=hk.all i i0 i1
 unfold Its.each Y8 at he
 exact XY j0 j1 he.2.2.1 he.2.2.2.1
theorem Zhm{vI:Value}{t:Its}(w0:World)(hI:Row w0 vI 3 t.n (Z1 t.S t.V t.M)):
   Calls Om 166 [vI,.int Oi cap].toArray w0 fun e w=>∃v,e= .returned v/\∃r n x val e,v= .tuple #[r,.int Oi val,.int Oi e]/\ZoV t cap n x val e/\Slh r n/\Sat w0 w [.own r 1 3 n (ints x)]:=by
 have hn:=hI.slh.n0
 refine zenG Tryz.func166 Tryz.ntmps166 fun w hS=> ?_
 refine zsr<|(Oo)<|zx5<|(On)<|zlc (xc0 ZlW) (Zhl (t:=t) (cap:=cap) w (hI.below hS.below)) ?_;rintro _ w ⟨rfl,hS'⟩
 replace hS:=hS.cmp hS';clear hS'
 refine(zP)<|zlt<|Zf ?_ ?_<;>intro hc
 ·
  refine zsr<|(Oo)<|zx14<|zf3 ⟨_,rfl,?_⟩
  exact⟨_,0,fun _=>0,0,1,rfl,.inl ⟨‹¬t.Ok cap›,rfl,rfl,rfl⟩,slh_nil,(hS.addnil 1 3 (ints fun _=>0)).pk [0]⟩
 refine ZY<|zlv xmv ?_
 have hk:t.Ok cap:=by first|assumption|exact Od ‹_›
 refine(zP)<|zlc (xc0 ZlV) (Zhk (t:=t) (cap:=cap) w (hI.below hS.below) hk) ?_;rintro yB w ⟨_,x8,rfl,yF,hS'⟩
 replace hS:=(hS.comp hS').n2;clear hS'
 have zq:=fun k (k0:0<=k) (k1:k<(t.n+1))=>hS.slhIn 1 rfl k0 k1
 refine(zP)<|zlz<|(On)<|zx5<|(zP)<|(zV (xln XD hI.slh))<|(zP)<|zx6 ?_
 replace hS:=hS.addnil 1 3 (ints (fun _=>0))
 have hk1:=hk.n;have hk2:=hk.c0;have hk3:=hk.c1
 refine zlp (fun mm M w=>∃(nx:Int) (c:Int) (i:Int) (wx:Value) (fx:Of),mm=((t.n-i).toNat)/\(0<=i)/\(i<=t.n)/\(nx=i)/\(0<=c)/\(c<=cap)/\(c=cap-KU t fx i.toNat)/\(KX t cap fx i)/\(Slh wx nx)/\M= [(1,.int Oi cap),(4,wx),(5,.int Oi 0),(6,.int Oi 0),(7,yB),(8,.int Oi c),(20,vI),(21,.int Oi t.n),(22,.int Oi i)]/\Sat w0 w [.own yB 1 22 (t.n+1) x8,.sem (Frame.rows 3 (t.n+1) x8 (fun _=>cap+1) (KI t)),.own wx 1 3 nx (ints fx)]) ⟨0,cap,0,Oh,(fun _=>0),rfl,Oa,Oa,Oa,Oa,Oa,?_,?_,?_,rfl,hS⟩ ?_
 ·
  show cap=cap-0;omega
 ·
  intro k k0 k1;omega
 ·
  exact slh_nil
 clear hS w
 rintro mm M w ⟨nx,c,i,wx,fx,rfl,i0,i1,hnx,c0,c1,hcu,hkx,hwx,rfl,hS⟩
 refine zsr<|(zP)<|zx7<|Zf ?_ ?_<;>intro hc
 ·
  refine zx3<|(zP)<|(zV (xix (kk:=3*i) XD hI.slh))<|zlv (xlw (cs:= [.int Oi (t.S i),.int Oi (t.V i),.int Oi (t.M i)]) Kz (hI.below hS.below) (Uo (k:=3*i) (i:=i) t.S t.V t.M Oa)) ?_
  have hev:=hk.all i i0 Oa;unfold Its.each Y8 at hev
  obtain⟨j0,hj0,hj1,hj2,hj3⟩:=ZoW hk i0 (by omega:i<t.n) (c:=c) Oa
  have hjd:=ZfW hk i0 (by omega:i<t.n) hj2 Oa
  have hqf:=YI (a:=c) (b:=t.S i) Oa hev.1
  refine zla (xal (cs:= [_,_,_]) ZcJ hS) ?_;rintro _ w ⟨g1,rfl,hS⟩
  refine(zP)<|zle (xsw 3 Kz hS) ?_;clear hS;rintro w hS
  refine zx7<|zdst [0,1,2,3] [0,1,2,3] 1000 mx_ hS ?_;clear hS;intro w hS
  refine(zDw 0 (xfb 2 fd_247_2))<|(zDl 1 (fun w hS=>(xlb 3 pl_3 hS)))<|(zDw 2 xmv)<|(zDw 3 (xfb 0 fd_247_0))<|(zDl 4 (fun w hS=>(xlb 3 pl_3 hS)))<|(zDw 5 (UK (r:=(Int.tdiv c (t.S i)))))<|(zDw 6 (TU (r:=(min (t.M i) (Int.tdiv c (t.S i))))))<|(zDw 7 xas)<|zdd<|ztn<|zsq<|zbk<|zlp (fun mm M w=>∃(n:Int),mm=((n-j0).toNat)/\(j0<=n)/\(n<=min (t.M i) (c.tdiv (t.S i)))/\(∀j,n<j->j<=t.M i->j*t.S i<=c->KI t (i+1) (c-j*t.S i)+j*t.V i≠KI t i c)/\M= [(1,.int Oi cap),(4,wx),(5,.int Oi 0),(6,.int Oi 0),(7,yB),(8,.int Oi c),(9,.int Oi i),(10,Or g1),(11,.int Oi n),(20,vI),(21,.int Oi t.n),(22,.int Oi i)]/\Sat w0 w [.own yB 1 22 (t.n+1) x8,.sem (Frame.rows 3 (t.n+1) x8 (fun _=>cap+1) (KI t)),.own wx 1 3 nx (ints fx),.blk g1 [.int Oi (t.S i),.int Oi (t.V i),.int Oi (t.M i)]]) ⟨(min (t.M i) (c.tdiv (t.S i))),rfl,Oa,Oa,?_,rfl,hS⟩ ?_
  ·
   intro j h1 h2 h3;have:=ZfW hk i0 (by omega:i<t.n) h3 Oa;omega
  clear hS w
  rintro mm M w ⟨n,rfl,hnj,hnm,qa,rfl,hS⟩
  refine zsq<|zsq<|zdst [0,1,2,3] [0,1,2,3] 1000 mx_ hS ?_;clear hS;intro w hS
  refine(zDw 0 xmv)<|(zDw 1 xmv)<|(zDw 2 (Zg (r:=i+1)))<|(zDw 3 (xix (kk:=i+1) Zk yF))<|(zDl 4 (fun w hS=>(xlr (u:=(x8 (i+1))) pl_22 (hS.rowN 0 rfl))))<|(zDw 5 xmv)<|zDrv 6 xmv ?_
  have hjs:=Zdr hk i0 (by omega:i<t.n) (show 0<=n by omega) (show n<=c.tdiv (t.S i) by omega) Oa
  have hjv:=ZfV hk i0 (by omega:i<t.n) (show 0<=n by omega) Oa
  have hkb:=Wg hk (i:=i+1) Oa Oa (c:=c-n*t.S i) Oa
  have hkc:=Wg hk (i:=i) Oa Oa (c:=c) Oa
  refine(zDw 7 (xfb 0 fd_247_0))<|(zDl 8 (fun w hS=>(xlb 3 pl_3 hS)))<|(zDw 9 (Yf (r:=(n*(t.S i))) (e:=rfl)))<|(zDw 10 (Zp (r:=c-(n*(t.S i)))))<|(zDw 11 (xix (kk:=c-(n*(t.S i))) Zb (zq (i+1) Oa Oa)))<|(zDl 12 (fun w hS=>(xlr (u:= .int Oi ((KI t) (i+1) (c-(n*(t.S i))))) pl_3 (hS.rowIn (k:=i+1) 1 rfl Oa Oa))))<|(zDw 13 xmv)<|(zDw 14 (xfb 1 fd_247_1))<|(zDl 15 (fun w hS=>(xlb 3 pl_3 hS)))<|(zDw 16 (Yf (r:=(n*(t.V i))) (e:=rfl)))<|(zDw 17 (Zg (r:=((KI t) (i+1) (c-(n*(t.S i))))+(n*(t.V i)))))<|(zDw 18 xmv)<|(zDw 19 xmv)<|(zDw 20 (xix (kk:=i) Zk yF))<|YB 21 (fun w hS=>(xlr (u:=(x8 i)) pl_22 (hS.rowN 0 rfl))) ?_
  refine(zDw 22 xmv)<|(zDw 23 (xix (kk:=c) Zb (zq i Oa Oa)))<|(zDl 24 (fun w hS=>(xlr (u:= .int Oi ((KI t) i c)) pl_3 (hS.rowIn (k:=i) 1 rfl Oa Oa))))<|(zDw 25 Y9)<|zdd<|ztn ?_
  refine Zf ?_ ?_<;>intro hc
  ·
   refine zsk<|ztn<|zbk<|zrg<|(zP)<|(zV (Zp (r:=n-1)))<|(zP)<|zln<|zbn ?_
   have hne:j0≠n:=fun hh=>by rw [hh] at hj3;omega
   refine zlq ⟨n-1,rfl,Oa,Oa,?_,rfl,hS⟩
   ·
    intro j h1 h2 h3;by_cases e:j=n
    · rw [e];assumption
    · exact qa j Oa h2 h3
  refine zx8<|zlv xmv ?_
  have hjs:=Zdr hk i0 (by omega:i<t.n) (show 0<=n by omega) (show n<=c.tdiv (t.S i) by omega) Oa
  have hjv:=ZfV hk i0 (by omega:i<t.n) (show 0<=n by omega) Oa
  have hkb:=Wg hk (i:=i+1) Oa Oa (c:=c-n*t.S i) Oa
  have hkc:=Wg hk (i:=i) Oa Oa (c:=c) Oa
  have hqe:KI t (i+1) (c-n*t.S i)+n*t.V i=KI t i c:=Oa
  refine(zP)<|zla (xli (n:=1) (len:=1) (pv:= [(0,.int Oi n)]) (cs:= [.int Oi n]) (c:=ints (fun _=>n)) Zb ZG hS) ?_;rintro v1 w ⟨hS,hv1⟩
  refine zla (xap 2 (r:=nx+1) Zb ZG hS (hS.rowN 4 rfl) (We _ _ _)) ?_;rintro v2 w ⟨hS,hv2⟩
  refine(zP)<|zlt<|zrg<|(On)<|(zV (xfb 0 fd_247_0))<|(zV (xlb 3 pl_3 hS))<|(zV (Yf (r:=(n*(t.S i))) (e:=rfl)))<|(zV (Zp (r:=c-(n*(t.S i)))))<|(zP)<|zx10<|(zV (Zg (r:=i+1)))<|(zP)<|zln<|zlq ⟨nx+1,c-(n*(t.S i)),i+1,v2,(snoc fx nx n),rfl,Oa,Oa,Oa,Oa,Oa,?_,?_,?_,rfl,hS.pk [0,1,2]⟩
  ·
   rw [hnx,ZjM t fx n i0];omega
  ·
   rw [hnx];rw [hcu] at qa hjs hqe;exact KX.snoc hkx i0 Oa Oa Oa hqe (fun j j0 j1 j2=>qa j j0 j1 j2)
  ·
   exact hv2
 refine zxt<|ztx<|ztx<|zbh<|ztn<|zsq<|zdst [0,1,2] [0,1,2] 1000 mx_ hS ?_;clear hS;intro w hS
 refine(zDw 0 xmv)<|(zDw 1 xmv)<|zDrv 2 (xix (kk:=0) Zk yF) ?_
 have hk0:=Wg hk (i:=0) Oa Oa (c:=cap) Oa
 refine(zDl 3 (fun w hS=>(xlr (u:=(x8 0)) pl_22 (hS.rowN 0 rfl))))<|(zDw 4 xmv)<|(zDw 5 (xix (kk:=cap) Zb (zq 0 Oa Oa)))<|(zDl 6 (fun w hS=>(xlr (u:= .int Oi ((KI t) 0 cap)) pl_3 (hS.rowIn (k:=0) 1 rfl Oa Oa))))<|(zDw 7 xas)<|(zDw 8 xas)<|(zDw 9 xas)<|zdd<|ztn<|zrt<|zf3 ⟨_,rfl,?_⟩
 obtain rfl:i=t.n:=Oa
 subst hnx
 exact⟨_,_,_,_,0,rfl,.inr ⟨hk,rfl,hkx,rfl,rfl⟩,hwx,hS.pk [2]⟩
end Go.Proofs.YtpnamgfdakfccaaGreat
namespace Go.Proofs.YtpnamgfdakfccaaGreat
open Go Go.RowKit Go.Proofs.Gw
variable {y:Of}
theorem Zmd:Zc Om 165=true:=Oc
theorem Zmc:Zc Om 166=true:=Oc
theorem ZlX:Zc Om 232=true:=Oc
def Tp(n:Int):Prop:=n<0\/1073741824<n
def ZhM(p:Prob)(n:Int)(y:Of):Prop:=p.Ok/\n=p.m/\Vw p y
def XU(p:Prob)(y:Of):Its:=⟨p.m,fun i=>p.L i+p.kerf,y,p.D⟩
theorem ZkF{p:Prob}(hp:p.Ok)(hy:Vw p y):(XU p y).Ok (p.stock+p.kerf):=by
 have h1:=hp.m2;have h2:=hp.s1;have h3:=hp.s2;have h4:=hp.k1;have h5:=hp.k2
 refine⟨h1,Oa,Oa,fun i i0 i1=> ?_⟩
 have h6:=hp.all i i0 i1
 have h7:=hy i i0 i1
 unfold Prob.each at h6
 show Y8 (p.L i+p.kerf) (y i) (p.D i)
 unfold Y8;omega
def WC(p:Prob)(y:Of):Int:=KI (XU p y) 0 (p.stock+p.kerf)
noncomputable def aC(p:Prob)(y:Of):Of:= @dite _ (∃x,KX (XU p y) (p.stock+p.kerf) x p.m) (Classical.propDecidable _) (fun h=>Classical.choose h) fun _ _=>0
theorem ZoR{p:Prob}(hm:0<=p.m){x:Of}(h:KX (XU p y) (p.stock+p.kerf) x p.m):∀i,0<=i->i<p.m->x i=aC p y i:=by
 have hex:∃x,KX (XU p y) (p.stock+p.kerf) x p.m:=⟨x,h⟩
 have h2:=Classical.choose_spec hex
 unfold aC
 rw [dif_pos hex]
 intro i i0 i1
 exact KX.same (n:=p.m.toNat) (by rw [Int.toNat_of_nonneg hm];exact h) (by rw [Int.toNat_of_nonneg hm];exact h2) i i0 Oa
def Zc3(p:Prob)(n:Int)(y:Of)(na:Int)(a:Of)(worth e:Int):Prop:=(¬ZhM p n y/\na=0/\worth=0/\e=1)\/(ZhM p n y/\na=p.m/\a=aC p y/\(∃x,KX (XU p y) (p.stock+p.kerf) x p.m)/\worth=WC p y/\e=0)
theorem ZmK{x:Int}(w0:World):
   Calls Om 232 [.int Oi x].toArray w0 fun e w=>∃v,e= .returned v/\v=B (Tp x)/\Sat w0 w []:=by
 refine zenG Tryz.func232 Tryz.ntmps232 fun w hS=> ?_
 refine zsr<|(zP)<|zlz<|(Oo)<|zlb 5 ?_ ?_<;>intro hc
 ·
  refine(zO)<|(zO)<|(On)<|zx1<|Oj ?_
  exact⟨YA (by unfold Tp;omega),hS⟩
 refine zs4 ?_
 refine zx1<|Oj ?_
 exact⟨Zm (by unfold Tp;omega),hS⟩
theorem Zjn{v:Value}{n:Int}{f:Of}(w0:World)(hR:Row w0 v 1 n (ints f)):
   Calls Om 147 [v,.func (.func 232) #[] #[]].toArray w0 fun e w=>∃v,e= .returned v/\∃r:Int,v= .int Oi r/\((r= -1/\∀k,0<=k->k<n->¬(Tp (f k)))\/(0<=r/\r<n/\(Tp (f r))))/\Sat w0 w []:=by
 have hn:=hR.slh.n0;have hn1:=hR.slh.n1
 refine zenG Tryz.func147 Tryz.ntmps147 fun w hS=> ?_
 refine zsr<|(zP)<|zx5<|(zP)<|(zV (xln Zb hR.slh))<|(zP)<|zx6<|zlp (fun mm M w=>∃(i:Int),mm=((n-i).toNat)/\(0<=i)/\(i<=n)/\(∀k,0<=k->k<i->¬(Tp (f k)))/\M= [(0,v),(1,.func (.func 232) #[] #[]),(7,.int Oi n),(8,.int Oi i)]/\Sat w0 w []) ⟨0,rfl,Oa,Oa,?_,rfl,hS⟩ ?_
 ·
  intro k h0 h1;omega
 clear hS w
 rintro mm M w ⟨i,rfl,h0,h1,qa,rfl,hS⟩
 refine zsr<|(zP)<|zx7<|Zf ?_ ?_<;>intro hc
 ·
  refine zx3<|(On)<|zlz<|(Oo)<|(zV (xix (kk:=i) Zb hR.slh))<|(zV (xlr (u:= .int Oi (f i)) pl_3 (hR.below hS.below)))<|zlc (xc0 ZlX) (ZmK (x:=(f i)) w) ?_;rintro _ w ⟨rfl,hS'⟩
  replace hS:=hS.cmp hS';clear hS'
  refine zlt<|Zf ?_ ?_<;>intro hc
  ·
   refine zsr<|(On)<|zx2<|Oj ?_
   exact⟨i,rfl,.inr ⟨by omega,Oa,‹Tp (f i)›⟩,hS⟩
  refine zx4<|(zV (Zg (r:=i+1)))<|(zP)<|zln<|zlq ⟨i+1,rfl,Oa,Oa,?_,rfl,hS⟩
  ·
   intro k h0' h1';rcases Int.lt_or_eq_of_le (show k<=i by omega) with hk|hk;exact qa k h0' hk;rw [hk];assumption
 refine zx8<|(zP)<|zx1<|Oj ?_
 exact⟨-1,rfl,.inl ⟨rfl,fun k h0 h1=>qa k h0 Oa⟩,hS⟩
theorem Zjw{v:Value}{n:Int}{f:Of}(w0:World)(hR:Row w0 v 1 n (ints f)):
   Calls Om 90 [v,.func (.func 232) #[] #[]].toArray w0 fun e w=>∃v,e= .returned v/\v=B (∃k,0<=k/\k<n/\(Tp (f k)))/\Sat w0 w []:=by
 refine zenG Tryz.func90 Tryz.ntmps90 fun w hS=> ?_
 refine zsr<|(zP)<|zlz<|(On)<|zlc (xc0 WN) (Zjn w (hR.below hS.below)) ?_;rintro _ w ⟨r1,rfl,hr1,hS'⟩
 replace hS:=hS.cmp hS';clear hS'
 refine(On)<|zx1<|Oj ?_
 exact⟨Zm (by
  rcases hr1 with⟨h1,h2⟩|⟨h1,h2,h3⟩
  · exact⟨fun h=>Oa,fun⟨k,h4,h5,h6⟩=>absurd h6 (h2 k h4 h5)⟩
  · exact⟨fun _=>⟨_,h1,h2,h3⟩,fun _=>h1⟩),hS⟩
theorem Zg9{vL vD:Value}{p:Prob}{vY:Value}{n:Int}(w0:World)(h:PAt w0 vL vD p)(hY:Row w0 vY 1 n (ints y)):
   Calls Om 165 [.agg #[vL,vD,.int Oi p.stock,.int Oi p.kerf],vY].toArray w0 fun e w=>∃v,e= .returned v/\v=B (ZhM p n y)/\Sat w0 w []:=by
 obtain⟨hm,hm1,hd,hd1,hs,hk⟩:=h.Oq
 have hn0:=hY.slh.n0;have hn1:=hY.slh.n1
 refine zenG Tryz.func165 Tryz.ntmps165 fun w hS=> ?_
 refine zsr<|zla (xbx (cs:= [_,_,_,_]) hS) ?_;rintro _ w ⟨g1,rfl,hS⟩
 refine(zP)<|zlz<|(zV (xls 0 st_27 hS))<|zlc (xc0 XJ) (Z8 (p:=p) w (h.below hS.below)) ?_;rintro _ w ⟨rfl,hS'⟩
 replace hS:=hS.cmp hS';clear hS'
 refine(zP)<|zlb 7 ?_ ?_<;>intro hc
 ·
  refine(zP)<|(zV (xln Zb hY.slh))<|(zV (xfb 0 fd_27_0))<|(zV (xlb 0 pl_22 hS))<|(zV (xln Zb h.L.slh))<|(Oo)<|zlb 15 ?_ ?_<;>intro hc
  ·
   refine(zP)<|zlc (xc0 UH) (Zjw (n:=n) (f:=y) w (hY.below hS.below)) ?_;rintro _ w ⟨rfl,hS'⟩
   replace hS:=hS.cmp hS';clear hS'
   refine(Oo)<|zx1<|Oj ?_
   exact⟨Zm (by exact⟨fun hx=>⟨by assumption,Oa,fun k k0 k1=>by have:¬Tp (y k):=fun hh=>hx ⟨k,k0,Oa,hh⟩;unfold Tp at this;omega⟩,fun⟨h1,h2,h3⟩ ⟨k,k0,k1,hk⟩=>by have:=h3 k k0 Oa;unfold Tp at hk;omega⟩),hS.nl⟩
  iterate 3 refine zlo ?_
  refine(On)<|zx1<|Oj ?_
  exact⟨Zi (by rintro⟨h1,h2,h3⟩;first|exact absurd h1 ‹_›|omega),hS.nl⟩
 iterate 6 refine zlo ?_
 refine zs2 ?_
 iterate 3 refine zlo ?_
 refine(On)<|zx1<|Oj ?_
 exact⟨Zi (by rintro⟨h1,h2,h3⟩;first|exact absurd h1 ‹_›|omega),hS.nl⟩
theorem Zji{vL vD:Value}{p:Prob}{vY:Value}{n:Int}(w0:World)(h:PAt w0 vL vD p)(hY:Row w0 vY 1 n (ints y)):
   Calls Om 88 [.agg #[vL,vD,.int Oi p.stock,.int Oi p.kerf],vY].toArray w0 fun e w=>∃v,e= .returned v/\∃r na a worth e,v= .tuple #[r,.int Oi worth,.int Oi e]/\Zc3 p n y na a worth e/\Slh r na/\Sat w0 w [.own r 1 3 na (ints a)]:=by
 obtain⟨hm,hm1,hd,hd1,hs,hk⟩:=h.Oq
 have hn0:=hY.slh.n0;have hn1:=hY.slh.n1
 refine zenG Tryz.func88 Tryz.ntmps88 fun w hS=> ?_
 refine zsr<|zla (xbx (cs:= [_,_,_,_]) hS) ?_;rintro _ w ⟨g1,rfl,hS⟩
 refine(Oo)<|zx5<|(zV (xls 0 st_27 hS))<|(zP)<|zlc (xc0 Zmd) (Zg9 (p:=p) (n:=n) (y:=y) w (h.below hS.below) (hY.below hS.below)) ?_;rintro _ w ⟨rfl,hS'⟩
 replace hS:=hS.cmp hS';clear hS'
 refine(zP)<|zlt<|Zf ?_ ?_<;>intro hc
 ·
  refine zsr<|(Oo)<|zx14<|zf3 ⟨_,rfl,?_⟩
  exact⟨_,0,fun _=>0,0,1,rfl,.inl ⟨‹¬ZhM p n y›,rfl,rfl,rfl⟩,slh_nil,(hS.addnil 1 3 (ints fun _=>0)).pk [1]⟩
 refine ZY<|(zP)<|zx5<|(zV (xfb 0 fd_27_0))<|(zV (xlb 0 pl_22 hS))<|(zV (xln Zb h.L.slh))<|(zP)<|zx6 ?_
 have hpr:ZhM p n y:=by first|assumption|exact Od ‹_›
 obtain⟨hok,hnm,hyp⟩:=id hpr
 have hs1:=hok.s1;have hs2:=hok.s2;have hk1:=hok.k1;have hk2:=hok.k2;have hm2:=hok.m2;have hmd:=hok.d
 replace hS:=hS.addnil 3 247 (Z1 (fun _=>0) (fun _=>0) (fun _=>0))
 refine zlp (fun mm M w=>∃(nC:Int) (fS:Of) (fV:Of) (fM:Of) (i:Int) (wC:Value),mm=((p.m-i).toNat)/\(0<=i)/\(i<=p.m)/\(nC=i)/\(∀k,0<=k->k<i->fS k=(XU p y).S k/\fV k=(XU p y).V k/\fM k=(XU p y).M k)/\(Slh wC nC)/\M= [(1,vY),(2,Or g1),(4,Oh),(5,.int Oi 0),(6,.int Oi 0),(7,wC),(15,vL),(16,.int Oi p.m),(17,.int Oi i)]/\Sat w0 w [.blk g1 [vL,vD,.int Oi p.stock,.int Oi p.kerf],.own wC 3 247 nC (Z1 fS fV fM)]) ⟨0,(fun _=>0),(fun _=>0),(fun _=>0),0,Oh,rfl,Oa,Oa,Oa,?_,?_,rfl,hS⟩ ?_
 ·
  intro k k0 k1;omega
 ·
  exact slh_nil
 clear hS w
 rintro mm M w ⟨nC,fS,fV,fM,i,wC,rfl,h0,h1,hnC,hcc,hwC,rfl,hS⟩
 refine zsr<|(zP)<|zx7<|Zf ?_ ?_<;>intro hc
 ·
  refine zx3<|(zP)<|(zV (xix (kk:=i) Zb h.L.slh))<|zlv (xlr (u:= .int Oi (p.L i)) pl_3 (h.L.below hS.below)) ?_
  have hbv:=h.iL i
  have he:=hok.all i h0 Oa;unfold Prob.each at he
  refine(On)<|zlt<|zdst [0] [0] 1000 mx_ hS ?_;clear hS;intro w hS
  refine(zDw 0 xmv)<|(zDw 1 xmv)<|(zDw 2 (xfb 3 fd_27_3))<|(zDl 3 (fun w hS=>(xlb 0 pl_3 hS)))<|(zDw 4 (Zg (r:=p.L i+p.kerf)))<|(zDw 5 xmv)<|(zDw 6 xmv)<|(zDw 7 (xix (kk:=i) Zb hY.slh))<|(zDl 8 (fun w hS=>(xlr (u:= .int Oi (y i)) pl_3 (hY.below hS.below))))<|(zDw 9 (xfb 1 fd_27_1))<|(zDl 10 (fun w hS=>(xlb 0 pl_22 hS)))<|(zDw 11 xmv)<|(zDw 12 (xix (kk:=i) Zb h.D.slh))<|YB 13 (fun w hS=>(xlr (u:= .int Oi (p.D i)) pl_3 (h.D.below hS.below))) ?_
  have hbv:=h.iD i
  refine(zDw 14 (xany (v:= .agg #[.int Oi (p.L i+p.kerf),.int Oi (y i),.int Oi (p.D i)])))<|zda 15 (xli (n:=1) (len:=1) (pv:= [(0,.agg #[.int Oi (p.L i+p.kerf),.int Oi (y i),.int Oi (p.D i)])]) (cs:= [.int Oi (p.L i+p.kerf),.int Oi (y i),.int Oi (p.D i)]) (c:=Z1 (fun _=>p.L i+p.kerf) (fun _=>(y i)) (fun _=>p.D i)) XD ZcJ hS) ?_;rintro v1 w ⟨hS,hv1⟩
  refine⟨⟨fun _=>hS.pk [0],hS.pk [0]⟩,?_⟩
  refine zda 16 (xap 1 (r:=nC+1) XD ZcJ hS (hS.rowN 2 rfl) (ZcW ..) (h1:=(fun k _ _=>ZcL _ _ _ k))) ?_;rintro v2 w ⟨hS,hv2⟩
  refine⟨⟨fun _=>hS.pk [0],hS.pk [0]⟩,?_⟩
  refine(zDw 17 xas)<|zdd<|zbn<|ztn<|zrg ?_
  refine(zV (Zg (r:=i+1)))<|(zP)<|zln<|zlq ⟨nC+1,(snoc fS nC (p.L i+p.kerf)),(snoc fV nC (y i)),(snoc fM nC (p.D i)),i+1,v2,rfl,Oa,Oa,Oa,?_,?_,rfl,hS.pk [0,1]⟩
  ·
   intro k k0 k1;by_cases e:k<i
   · rw [Zt Oa,Zt Oa,Zt Oa];exact hcc k k0 e
   · obtain rfl:k=i:=Oa
     rw [Zu Oa,Zu Oa,Zu Oa];exact⟨rfl,rfl,rfl⟩
  ·
   exact hv2
 refine zx8<|zlv xmv ?_
 obtain rfl:i=p.m:=Oa
 subst hnC
 replace hS:=hS.recont 1 rfl (d:=Z1 (XU p y).S (XU p y).V (XU p y).M) (Zao hcc)
 refine(zV (xfb 2 fd_27_2))<|(zV (xlb 0 pl_3 hS))<|(zV (xfb 3 fd_27_3))<|(zV (xlb 0 pl_3 hS))<|(zV (Zg (r:=p.stock+p.kerf)))<|zlc (xc0 Zmc) (Zhm (t:=(XU p y)) (cap:=(p.stock+p.kerf)) w (hS.rowN 1 rfl)) ?_;rintro _ w ⟨jw,dV,ju,jv,kg,rfl,c7,cE,hS'⟩
 replace hS:=(hS.comp hS').n3;clear hS'
 refine zs6 ?_
 refine zx1<|zf3 ⟨_,rfl,?_⟩
 have hio:=ZkF hok hyp
 obtain⟨_,q2,q3,q4,q5⟩:=c7.resolve_left (fun hh=>hh.1 hio)
 replace q2:dV=p.m:=q2
 subst q2
 replace hS:=hS.recont 2 rfl (d:=ints (aC p y)) (fun k k0 k1=>by unfold ints;rw [ZoR Oa q3 k k0 Oa])
 exact⟨_,_,_,_,_,rfl,.inr ⟨hpr,rfl,rfl,⟨_,q3⟩,q4,q5⟩,cE,hS.pk [2]⟩
end Go.Proofs.YtpnamgfdakfccaaGreat
namespace Go.Proofs.Gw
open Go Go.RowKit
section
variable {P:Program} {L:List (Nat×Value)} {w w0:World} {o:Oper} {x y z:Operand} {T T':TypeId} {l:List Ent} {E:TypeId}
theorem UB (g q:Nat) (E:TypeId):∀(vs:List Value) (k:Nat) (cur:List Value) (w:World),w.heap[g]? =some (.cells cur.toArray E (0,0))->q+k+vs.length<=cur.length->(∀v∈vs,v.oneCell'=true)->
   ∃w',(storeCells ⟨g,q,none⟩ vs k).run P w= .ok () w'/\w'.heap[g]? =some (.cells (cur.take (q+k)++vs++cur.drop (q+k+vs.length)).toArray E (0,0))/\(∀j,j≠g->w'.heap[j]? =w.heap[j]?)/\w'.tape=w.tape/\w'.os=w.os/\w'.output=w.output/\w'.heap.size=w.heap.size
 | [],k,cur,w,hg,hk,_=>⟨w,rfl,by simp [hg],fun _ _=>rfl,rfl,rfl,rfl,rfl⟩
 | v ::vs,k,cur,w,hg,hk,h1=>by
   simp only [List.length_cons] at hk
   have hv:=h1 v (by simp)
   have hlt:q+k<cur.length:=Oa
   have hc:w.cell? ⟨g,q+k,none⟩=some cur[q+k]:=by simp [World.cell?,hg,hlt]
   have hf:w.frozen? ⟨g,q+k,none⟩=false:=by simp [World.frozen?,hg]
   have hg':(w.setCell ⟨g,q+k,none⟩ v).heap[g]? =some (.cells (cur.set (q+k) v).toArray E (0,0)):=by simp [World.setCell,Array.getElem?_modify,hg]
   obtain⟨w',h2,h3,h4,h5,h6,h7,h8⟩:=UB g q E vs (k+1) (cur.set (q+k) v) (w.setCell ⟨g,q+k,none⟩ v) hg' (by simp;omega) (fun u hu=>h1 u (by simp [hu]))
   refine⟨w',?_,?_,fun j hj=> ?_,h5,h6,h7,?_⟩
   · have e0:(⟨g,q,none⟩:Addr).add k=⟨g,q+k,none⟩:=by rw [Addr.add_eq _ rfl]
     simp only [storeCells,Sem.run_bind,e0]
     rw [run_store P w _ v _ hv,hc]
     simp only [hf]
     exact h2
   · rw [h3]
     congr 3
     have e1:(cur.set (q+k) v).take (q+(k+1))=cur.take (q+k)++ [v]:=by
       rw [show q+(k+1)=q+k+1 by omega,List.take_set,List.take_succ_eq_append_getElem hlt,List.set_append_right _ _ (by simp;omega)]
       simp [Nat.min_eq_left (Nat.le_of_lt hlt)]
     have e2:(cur.set (q+k) v).drop (q+(k+1)+vs.length)=cur.drop (q+k+(v::vs).length):=by
       rw [List.drop_set_of_lt Oa];congr 1;simp;omega
     rw [e1,e2];simp
   · rw [h4 j hj];exact Below.heap_setCell _ _ _ _ hj
   · rw [h8];simp [World.setCell]
theorem xsp(i:Nat){g q k:Nat}{cs ds es:List Value}(ht:Zw P T=some k)(hS:Sat w0 w l)(ho:o.op= .store T x y:=by exact rfl)(hi:l[i]? =some (.blk g cs):=by exact rfl)(hx:evL L x=some (.pointer (some ⟨g,q,none⟩)):=by exact rfl)(hy:evL L y=some (.agg ds.toArray):=by exact rfl)
   (hl:ds.length=k:=by exact rfl) (hc:Nat.ble (q+ds.length) cs.length=true:=by exact rfl) (he:cs.take q++ds++cs.drop (q+ds.length)=es:=by exact rfl) (hd:∀v∈ds,v.oneCell'=true:=by repeat' first|exact Zh|apply Za rfl):∃w',Runs P L w o .skip w'/\Sat w0 w' (l.set i (.blk g es)):=by
 obtain⟨_,hsz⟩:=Xc (w:=w) ht
 obtain⟨E,hg⟩:=hS.holds _ (List.mem_of_getElem? hi)
 obtain⟨w',h3,h4,h5,h6,h7,h8,h9⟩:=UB (P:=P) g q E ds 0 cs w hg (by have:=Nat.le_of_ble_eq_true hc;omega) hd
 refine⟨w',fun ρ h=> ?_,?_⟩
 · simp [execOp,ho,h _ _ hx,h _ _ hy,Instr.storeAt,Instr.sureAddr,storeVar,Value.cells,hsz,hl,h3]
 · have hS':=hS
   rw [Z0 hi] at hS'
   rw [Ys hi]
   refine hS'.turn (fun j _ hj=>h5 j (fun e=>hj (by rw [e];rfl))) h6 h7 h8 Oa ⟨E,?_⟩ (fun _ h=> .inl h)
   rw [h4,Nat.add_zero,he]
theorem Znk {l:List Ent} (h:(Frame.bun l).holds w) (is:List Nat) (hn:is.Nodup:=by decide):(Frame.bun (pkL l is)).holds w:=by
 refine⟨fun e he=> ?_,?_⟩
 · obtain⟨i,_,hi⟩:=XR he;exact h.1 e (List.mem_of_getElem? hi)
 · have hs:=h.2
   induction is with
   |nil=>exact List.Pairwise.nil
   | cons i is ih=>
     obtain⟨hni,hn⟩:=List.nodup_cons.1 hn
     unfold pkL
     cases hi:l[i]? with
     |none=>exact ih hn
     | some e=>
       refine List.pairwise_cons.2 ⟨fun e' he'=> ?_,ih hn⟩
       obtain⟨j,hj,hj'⟩:=XR he'
       have hil:=(List.getElem?_eq_some_iff.1 hi)
       have hjl:=(List.getElem?_eq_some_iff.1 hj')
       obtain⟨e7,eZ⟩:=hil
       obtain⟨eY,eX⟩:=hjl
       have hij:i≠j:=fun e=>hni (e▸hj)
       rcases Nat.lt_or_gt_of_ne hij with h1|h1
       · have:=List.pairwise_iff_getElem.1 hs i j e7 eY h1
         rw [eZ,eX] at this;exact this
       · have:=List.pairwise_iff_getElem.1 hs j i eY e7 h1
         rw [eZ,eX] at this;exact this.symm
theorem ZjG{l:List Ent}(is:List Nat){g:Nat}(h:(Frame.bun (pkL l is)).has g):(Frame.bun l).has g:=by
 obtain⟨e,he,hg⟩:=h
 obtain⟨i,_,hi⟩:=XR he
 exact⟨e,List.mem_of_getElem? hi,hg⟩
def Frame.gives(F:Frame)(l:List Ent):Prop:=(∀w,F.holds w->(Frame.bun l).holds w)/\∀g,(Frame.bun l).has g->F.has g
theorem TB{l m:List Ent}(is:List Nat)(e:pkL l is=m:=by exact rfl)(hn:is.Nodup:=by decide):(Frame.bun l).gives m:=by
 subst e;exact⟨fun w h=>Znk h is hn,fun g h=>ZjG is h⟩
theorem Sat.given{l:List Ent}(h:Sat w0 w l)(i:Nat){F:Frame}{m:List Ent}(hF:F.gives m)(hi:l[i]? =some (.sem F):=by exact rfl):Sat w0 w (l.set i (.sem (Frame.bun m))):=by
 have h':=h
 rw [Z0 hi] at h'
 rw [Ys hi]
 exact h'.turn (d:= .sem F) (fun k _ _=>rfl) rfl rfl rfl (Nat.le_refl _) (hF.1 _ (h.holds _ (List.mem_of_getElem? hi))) (fun g hg=> .inl (hF.2 g hg))
end
end Go.Proofs.Gw
namespace Go.Proofs.Gw
open Go Go.RowKit
def FZ(r:Option Nat):Fence:={fn:=fun _=>True,depth:=none,alive:=false,round:=r}
theorem Wh{P:Program}{f:FuncId}{args:Array Value}{w:World}{R:Ending->World->Prop}{r:Option Nat}{n:Nat}(h:Calls P f args w R):CallsIn (FZ r) n P f args w R:=
 (callsIn_wide (n:=n)).2 h
theorem Ux{P:Program}{f:FuncId}{args:Array Value}{w:World}{R:Ending->World->Prop}{r:Option Nat}{n:Nat}(h:CallsIn (FZ r) n P f args w R):Calls P f args w R:=
 (callsIn_wide (n:=n)).1 h
abbrev Frd(a:Act)(n:Nat)(ds:List Deferred)(L:List (Nat×Value)):Prop:=Fr a n ds L
def ndf(o:Oper):Bool:=match o.op with
  | .defer _=>false
  |_=>true
theorem YQ{o:Oper}(h:ndf o=true)(r:Option Nat)(ρ:Operand->Value):o.semAt r ρ=execOp ρ o:=
 Oper.semAt_eq _ _ _ (by intro c hc;unfold ndf at h;rw [hc] at h;cases h)
section
variable {P:Program} {l rest:List Oper} {Q Q':Exit->Act->World->Prop} {w w' w0:World} {o:Oper} {n d:Nat} {L M:List (Nat×Value)} {x y:Code} {c:Operand} {e:Exit} {p:Prop} {r:Option Nat} {ds:List Deferred}
def Hl(P:Program)(r:Option Nat)(n:Nat)(l:List Oper)(Q:Exit->Act->World->Prop)(rest:List Oper)(ds:List Deferred)(L:List (Nat×Value))(w:World):Prop:=∀a,Frd a n ds L->wpListIn (FZ r) 0 P l.toArray Q rest a w
def Hc(P:Program)(r:Option Nat)(n:Nat)(Q:Exit->Act->World->Prop)(x:Code)(ds:List Deferred)(L:List (Nat×Value))(w:World):Prop:=∀a,Frd a n ds L->x.wpIn (FZ r) 0 P Q a w
abbrev He(n:Nat)(Q:Exit->Act->World->Prop)(e:Exit)(ds:List Deferred)(L:List (Nat×Value))(w:World):Prop:=Ge n ds Q e L w
theorem Tz{b:Bool}{a:Act}(hF:Frd a n ds L)(h:gdB l L o=some b):Region.wanted o (yielded l.toArray a.tmps)=b:=by
 exact(Z7 h).wanted hF
theorem hlv{v:Value}(hr:Runs P L w o (.value v) w')(K:Hl P r n l Q rest ds ((d,v)::L) w')(hg:gdB l L o=some true:=by exact rfl)(hd:o.dst=some d:=by exact rfl)(hdn:Nat.blt d n=true:=by exact rfl)(hn:ndf o=true:=by exact rfl):Hl P r n l Q (o::rest) ds L w:=fun a hF=>by
 unfold wpListIn
 rw [if_pos (Tz hF hg)]
 refine⟨fun _ _=>trivial,?_⟩
 rw [YQ hn,hr _ hF.agr,Oper.uponIn_value,hd]
 exact K _ (hF.put (by simpa [Nat.blt_eq] using hdn) v)
theorem hlo(K:Hl P r n l Q rest ds ((d,undef)::L) w)(hg:gdB l L o=some false:=by exact rfl)(hd:o.dst=some d:=by exact rfl)(hdn:Nat.blt d n=true:=by exact rfl):Hl P r n l Q (o::rest) ds L w:=fun a hF=>by
 unfold wpListIn
 rw [if_neg (by rw [Tz hF hg];simp)]
 refine⟨fun _ _=>trivial,?_⟩
 rw [hd]
 exact K _ (hF.put (by simpa [Nat.blt_eq] using hdn) undef)
def Yld(P:Program)(l:Nat)(vs:List Value)(w:World)(R:Value->World->Prop):Prop:=
  ∃fn tmps assign body,(Instr.yield l vs.toArray).run P w= .ok (.round l fn tmps assign body) w/\RoundIn (FZ none) 0 P l fn tmps assign body w fun e w'=>∃v,e= .returned v/\R v w'
theorem xyl{l0:Nat}{xs:Array Operand}{ts:Array TypeId}{vs:List Value}{z:Operand}{N:Next}(hy:(Instr.yield l0 vs.toArray).run P w= .ok N w)(ho:o.op= .call {callee:= .value z,args:=xs,argTypes:=ts})(hx:evL L z=some (.func (.yield l0) #[] #[]))(ha:Uy L xs vs):Runs P L w o N w:=fun ρ h=>by
 have h1:=ha ρ h
 simp [execOp,ho,resolve,h _ _ hx,Deferred.ofValue,invoke,h1,hy]
theorem hly{l0:Nat}{xs:Array Operand}{ts:Array TypeId}{vs:List Value}{z:Operand}{R:Value->World->Prop}(hY:Yld P l0 vs w R)(K:∀v w',R v w'->Hl P none n l Q rest ds ((d,v)::L) w')
   (ho:o.op= .call {callee:= .value z,args:=xs,argTypes:=ts}:=by exact rfl) (hx:evL L z=some (.func (.yield l0) #[] #[]):=by exact rfl) (ha:Uy L xs vs:=by repeat' first|exact Zb1|apply Wf rfl)
   (hg:gdB l L o=some true:=by exact rfl) (hd:o.dst=some d:=by exact rfl) (hdn:Nat.blt d n=true:=by exact rfl):Hl P none n l Q (o::rest) ds L w:=fun a hF=>by
 obtain⟨fn,tmps,assign,body,hy,hR⟩:=hY
 have hr:=xyl (P:=P) (L:=L) (o:=o) hy ho hx ha
 unfold wpListIn
 rw [if_pos (Tz hF hg)]
 refine⟨fun _ _=>trivial,?_⟩
 rw [YQ (by unfold ndf;rw [ho]),hr _ hF.agr,Oper.uponIn_round]
 refine⟨fun h=>(by cases h),hR.mono fun e w' ⟨v,he,hR⟩=> ?_⟩
 subst he
 rw [hd]
 exact K v w' hR _ (hF.put (by simpa [Nat.blt_eq] using hdn) v)
theorem hln(K:He n Q .normal ds L w):Hl P r n l Q [] ds L w:=K
theorem hsq(h:Hc P r n (Exit.then (y.wpIn (FZ r) 0 P Q) Q) x ds L w):Hc P r n Q (.seq x y) ds L w:=fun a hF=>wpIn_seq (h a hF)
theorem hrg{id:Nat}(h:Hl P r n l Q l ds L w):Hc P r n Q (.region id l.toArray false) ds L w:=fun a hF=>wpIn_region_lit (h a hF)
def Tq(Q:Exit->Act->World->Prop):Exit->Act->World->Prop:=fun e a w=>e= .normal/\Q .normal a w
theorem Zbm:¬LetsOut (Tq Q):=fun⟨_,_,h⟩=>by cases h.1
theorem Zic{row:String}{args:Array Value}{R:Value->World->Prop}(h:Rows P row args w R):RowsIn (FZ r) 0 P row args w R:=fun c cs _=>by
 obtain⟨v,w',h1,h2⟩:=h c cs
 exact⟨v,w',h1,(stepsIn_wide (P:=P)).2 h2⟩
theorem Wo {ops:Array Oper} {Qn:Exit->Act->World->Prop} (q1:∀a w,Qn .normal a w->Q .normal a w) (q2:∀ch a w,¬Qn (.panic ch) a w) (q3:¬LetsOut Qn) (hn:ops.toList.all ndf=true):∀(is:List Nat) (a:Act) (w:World),wpOps P ops Qn is a w->wpOpsIn (FZ r) 0 P ops Q is a w
 | [],a,w,h=>q1 _ _ h
 | i ::is,a,w,h=>by
   unfold wpOps at h
   unfold wpOpsIn
   cases ho:ops[i]? with
   |none=>simp only [ho] at h⊢;exact Wo q1 q2 q3 hn is a w h
   | some o=>
     simp only [ho] at h⊢
     have gz:ndf o=true:=List.all_eq_true.1 hn o (by
       obtain⟨hi,rfl⟩:=Array.getElem?_eq_some_iff.1 ho
       simp)
     by_cases hw:Region.wanted o (yielded ops a.tmps)=true
     · rw [if_pos hw] at h⊢
       refine⟨fun _ _=>trivial,?_⟩
       rw [YQ gz]
       rcases h with h|h
       · unfold Oper.wp at h
         cases he:(execOp a.eval o).run P w with
         | ok N w1=>
           rw [he] at h
           cases N with
           |value v=>exact Wo q1 q2 q3 hn is _ _ h
           |skip=>exact Wo q1 q2 q3 hn is _ _ h
           |defer d=>exact Wo q1 q2 q3 hn is _ _ h
           | enter f args=>
             refine⟨fun h=>(by cases h),Wh (Calls.mono h fun e w' hh=> ?_)⟩
             cases e with
             |returned v=>exact Wo q1 q2 q3 hn is _ _ hh
             |panicked ch=>exact absurd hh (q2 _ _ _)
             |outgrown=>exact absurd hh q3
           | row rw args=>
             refine⟨fun h=>(by cases h),Zic (Rows.mono h fun v w' hh=>Wo q1 q2 q3 hn is _ _ hh)⟩
           |_=>exact h.elim
         | halt x w1=>
           rw [he] at h
           cases x with
           |panic v=>exact absurd h (q2 _ _ _)
           |_=>exact h.elim
       · exact absurd h.2 q3
     · rw [if_neg hw] at h⊢
       exact⟨fun _ _=>trivial,Wo q1 q2 q3 hn is _ _ h⟩
theorem ZnP:∀a w,Tq Q .normal a w->Q .normal a w:=fun _ _ h=>h.2
theorem ZnO:∀ch a w,¬Tq Q (.panic ch) a w:=fun _ _ _ h=>by cases h.1
theorem zh(h:Ge n ds Q .normal L w):Ge n ds (Tq Q) .normal L w:=fun a hF=>⟨rfl,h a hF⟩
theorem Zbj{ops:Array Oper}{a:Act}(h:wpList P ops Q ops.toList a w):wpOps P ops Q (List.range ops.size) a w:=by
 rw [List.range_eq_range',<-Array.length_toList,wpOps_eq_wpList ops.toList 0 (by simp)];exact h
theorem hrz{id:Nat}(h:Gl P n ds l (Tq Q) l L w)(hn:l.all ndf=true:=by exact rfl):Hc P r n Q (.region id l.toArray false) ds L w:=fun a hF=>
 wpIn_region (Wo ZnP ZnO Zbm (by simpa using hn) _ _ _ (Zbj (by have:=h a hF;simpa using this)))
theorem hdst{w0:World}{id:Nat}{m m0 m1:List Ent}{fuel:Nat}(is js:List Nat)(brk:Nat)(hm:P.follows .mixedOrders=true)(hS:Sat w0 w m)(K:∀w',Sat w0 w' m->Gd P n ds l (Tq Q) (fun w'=>Sat w0 w' m0) (fun w'=>Sat w0 w' m1) brk fuel (Array.replicate fuel false) L w')
   (h0:pkL m is=m0:=by exact rfl) (h1:pkL m js=m1:=by exact rfl) (hn0:is.Nodup:=by decide) (hn1:js.Nodup:=by decide) (hn:l.length=fuel:=by exact rfl) (hnd:l.all ndf=true:=by exact rfl):Hc P r n Q (.region id l.toArray true) ds L w:=fun a hF=>by
 subst h0;subst h1;subst hn
 refine wpIn_region_draw fun t=>Wo (Qn:=NoPanic (Tq Q)) (fun _ _ h=>h.2) (fun _ _ _ h=>h.elim) (fun⟨_,_,h⟩=>by cases h.1) (by simpa using hnd) _ _ _ ?_
 simp only [Region.schedule,hm,Bool.true_or,if_true]
 have hcl:Closed l.toArray (Array.replicate l.length false):=by have:=Closed.start (ops:=l.toArray);simpa using this
 have h2:=Vh _ _ _ _ (K w.drew hS.draw hcl ⟨fun _=>hS.draw.pk is hn0,hS.draw.pk js hn1⟩ a hF)
 have h3:=wpAny_sound l.length t _ a _ h2
 have e:l.toArray.size=l.length:=by simp
 first|exact h3|(unfold Region.linearise;rw [e];exact h3)
theorem YS(ht:p->Hc P r n Q x ds L w)(hf:¬p->Hc P r n Q y ds L w)(hc:evL L c=some (B p):=by exact rfl):Hc P r n Q (.cond c x y) ds L w:=fun a hF=>by
 have:=hF.agr _ _ hc
 by_cases hp:p
 · exact wpIn_cond_true (by rw [this,ZS hp]) (ht hp a hF)
 · exact wpIn_cond_false (by rw [this,Zy hp]) (hf hp a hF)
theorem hct(h:Hc P r n Q x ds L w)(hc:evL L c=some (.bool true):=by exact rfl):Hc P r n Q (.cond c x y) ds L w:=fun a hF=>wpIn_cond_true (hF.agr _ _ hc) (h a hF)
theorem hcf(h:Hc P r n Q y ds L w)(hc:evL L c=some (.bool false):=by exact rfl):Hc P r n Q (.cond c x y) ds L w:=fun a hF=>wpIn_cond_false (hF.agr _ _ hc) (h a hF)
theorem hsk(h:He n Q .normal ds L w):Hc P r n Q .skip ds L w:=fun a hF=>wpIn_skip (h a hF)
theorem hrt(h:He n Q .ret ds L w):Hc P r n Q .ret ds L w:=fun a hF=>wpIn_ret (h a hF)
theorem hxt{id:Nat}(h:He n Q (.exit id) ds L w):Hc P r n Q (.exit id) ds L w:=fun a hF=>wpIn_exit (h a hF)
theorem hbk{id:Nat}(h:Hc P r n (Exit.inBlock id Q) x ds L w):Hc P r n Q (.block id x) ds L w:=fun a hF=>wpIn_block (h a hF)
theorem htn(h:Hc P r n Q y ds L w):He n (Exit.then (y.wpIn (FZ r) 0 P Q) Q') .normal ds L w:=h
theorem wpIn_loopJ {F:Fence} {nn:Nat} {body:Code} {a:Act} (I:Nat->Act->World->Prop) {m:Nat} (h0:I m a w) (round:∀m a w,I m a w->body.wpIn F nn P (Exit.then (fun a' w'=>∃m',m'<m/\I m' a' w') Q) a w):(Code.loop body).wpIn F nn P Q a w:=by
 intro b k cs hro hb hr
 have key:∀m a w,I m a w->∃e a' w',Q e a' w'/\ArrivesIn (Machine.fenced P F) P (lone (b.atR a (.code body:: .inLoop body::k)) cs w) b k cs e a' w':=by
   intro m
   induction m using Nat.strongRecOn with
   | _ m ih=>
     intro a w hI
     obtain⟨e,a₁,w₁,hq,qF⟩:=round m a w hI b (.inLoop body::k) cs hro hb hr
     cases e with
     | normal=>
       obtain⟨m',hlt,hI₁⟩:=hq
       obtain⟨e₂,a₂,w₂,hq₂,harr₂⟩:=ih m' hlt a₁ w₁ hI₁
       exact⟨e₂,a₂,w₂,hq₂,.of_steps (StepsIn.trans qF (.one (fenced_calm hb hr rfl) stepR_inLoop)) harr₂⟩
     |exit id=>exact⟨_,a₁,w₁,hq,.pass (x:= .inLoop body) rfl (fun _ _=> .inl (by simp)) qF⟩
     |goto l=>exact⟨_,a₁,w₁,hq,.pass (x:= .inLoop body) rfl (fun _ _=> .inl (by simp)) qF⟩
     |ret=>exact⟨_,a₁,w₁,hq,.pass (x:= .inLoop body) rfl (fun _ _=> .inl (by simp)) qF⟩
     |panic ch=>exact⟨_,a₁,w₁,hq,.pass (x:= .inLoop body) rfl (fun _ _=> .inl (by simp)) qF⟩
     |outgrown=>exact⟨_,a₁,w₁,hq,.pass (x:= .inLoop body) rfl (fun _ _=> .inl (by simp)) qF⟩
 obtain⟨e,a',w',hq,qF⟩:=key m a w h0
 exact⟨e,a',w',hq,.of_steps (.one (fenced_calm hb hr rfl) stepR_loop) qF⟩
theorem hlp(J:Nat->List (Nat×Value)->World->Prop){m:Nat}(h0:J m M w)(round:∀m M w,J m M w->Hc P r n (Exit.then (fun a w=>∃m',m'<m/\∃M',J m' M' w/\Frd a n ds M') Q) x ds M w)
   (hM:Sub L M:=by repeat' first|exact Kn|refine zpk rfl ?_):Hc P r n Q (.loop x) ds L w:=fun a hF=>
 wpIn_loopJ (fun m a w=>∃M,J m M w/\Frd a n ds M) ⟨M,h0,hF.sub hM⟩ fun m a w ⟨M',hJ,hF'⟩=>round m M' w hJ a hF'
theorem hlq{J:Nat->List (Nat×Value)->World->Prop}{m m':Nat}(hJ:J m' M w)(hlt:m'<m:=by omega)(hM:Sub L M:=by repeat' first|exact Kn|refine zpk rfl ?_):He n (Exit.then (fun a w=>∃m',m'<m/\∃M',J m' M' w/\Frd a n ds M') Q) .normal ds L w:=
 fun a hF=>⟨m',hlt,M,hJ,hF.sub hM⟩
theorem ZiI{f:FuncId}{fn:Func}{vs:List Value}{R:Ending->World->Prop}(hf:P.funcs[f]? =some fn)(hn:fn.ntmps=n)(K:∀w,Sat w0 w []->Hc P none n (bodyPostM (FZ none) 0 P fn R) x [] (num 0 vs) w)(hb:fn.body=some x:=by exact rfl)(hv:Nat.ble vs.length n=true:=by exact rfl):Calls P f vs.toArray w0 R:=
 Ux (r:=none) (n:=0) (callsIn_of_wp_marks hf hb trivial (by
   rw [hn]
   exact K _ (Sat.start w0) _ ((Fr.enter (vs:=vs.toArray) (by simpa using Nat.le_of_ble_eq_true hv) fun t v ht=>by have:=(KR vs 0 t v ht).2;simpa using this))))
theorem ZfZ{f:FuncId}{fn:Func}{vs:List Value}{R:Ending->World->Prop}(hf:P.funcs[f]? =some fn)(hn:fn.ntmps=n)(K:Hc P none n (bodyPost P fn R) x [] (num 0 vs) w)(hb:fn.body=some x:=by exact rfl)(hv:Nat.ble vs.length n=true:=by exact rfl):Calls P f vs.toArray w R:=
 enter hf hb hn hv fun a hF=>(wpIn_wide (n:=0)).1 (K a hF)
theorem ZkM{fn:Func}{R:Ending->World->Prop}(h:Ge n [] (bodyPost P fn R) .ret L w):He n (bodyPostM (FZ none) 0 P fn R) .ret [] L w:=fun a hF=>by
 obtain⟨_,v,h1,h2⟩:=h a hF
 have e:=hF.defers
 show LeavesInM _ _ _ _ _ _ a.defers _ _
 rw [e]
 exact⟨v,h1,h2⟩
def Frame.obj(g:Nat)(o:Obj):Frame where
  holds w:=w.heap[g]? =some o
  has k:=k=g
  keep h hk:=(hk g rfl).trans h
  lt h hg:=by rw [hg];exact(Array.getElem?_eq_some_iff.1 h).1
abbrev dfE(D:Nat)(b:Bool):Ent:= .sem (Frame.obj D (.deferred (if b then some [] else none)))
def mrk(D:Nat):Deferred:={target:= .collected D,args:= #[]}
theorem Sat.putObj{l1 l2:List Ent}{g:Nat}{o o':Obj}(h:Sat w0 w (l1++ .sem (Frame.obj g o)::l2)):Sat w0 (w.putObj g o') (l1++ .sem (Frame.obj g o')::l2):=by
 have hg:w.heap[g]? =some o:=h.get
 refine h.turn (d:= .sem (Frame.obj g o)) (fun k _ hk=>World.putObj_heap_other (fun e=>hk e)) rfl rfl rfl (by simp) ?_ (fun _ h=> .inl h)
 exact World.putObj_heap_same (Array.getElem?_eq_some_iff.1 hg).1
theorem ZcC{fn:Func}{R:Ending->World->Prop}{E:List Ent}{D:Nat}(i:Nat)(hS:Sat w0 w E)(K:∀w',Sat w0 w' (E.set i (dfE D false))->Ge n [] (bodyPost P fn R) .ret L w')(hi:E[i]? =some (dfE D true):=by exact rfl):He n (bodyPostM (FZ none) 0 P fn R) .ret [mrk D] L w:=fun a hF=>by
 have e:=hF.defers
 show LeavesInM _ _ _ _ _ _ a.defers _ _
 rw [e]
 have hD:w.heap[D]? =some (.deferred (some [])):=hS.holds _ (List.mem_of_getElem? hi)
 refine⟨by simp,.inl ⟨D,_,rfl,run_takeDeferred hD,?_⟩⟩
 have h1:Sat w0 (w.putObj D (.deferred none)) (E.set i (dfE D false)):=by
   have h':=hS
   rw [Z0 hi] at h'
   rw [Ys hi]
   exact h'.putObj
 obtain⟨_,v,h2,h3⟩:=K _ h1 {a with defers:= []} ⟨hF.size,rfl,hF.get⟩
 exact⟨v,h2,h3⟩
end
theorem Zf0{J:List (Nat×Value)->List Ent->Prop}{F:List Ent->List Ent}{Q:Exit->Act->World->Prop}{w w0:World}{n:Nat}{L M:List (Nat×Value)}{es:List Ent}(hJ:J M es)(hS:Sat w0 w (F es))(hM:Sub L M:=by repeat' first|exact Kn|refine zpk rfl ?_):
 Ge n [] (Exit.then (fun a w'=>∃M es,J M es/\Frd a n [] M/\Sat w0 w' (F es)) Q) .normal L w:=fun a hF=>⟨M,es,hJ,hF.sub hM,hS⟩
theorem ZnA{P:Program}{L:List (Nat×Value)}{w:World}{n:Nat}{fn:Func}{R:Ending->World->Prop}{T1 T2:TypeId}{s1 s2:Nat}{a1 a2:Addr}{v1 v2:Value}(t1:ZB P T1=true)(t2:ZB P T2=true)(c1:w.cell? a1=some v1)(c2:w.cell? a2=some v2)(h:R (.returned (.tuple #[v1,v2])) w)
   (hr:fn.results= #[.cell s1 T1,.cell s2 T2]:=by exact rfl) (h1:lk L s1=some (.pointer (some a1)):=by exact rfl) (h2:lk L s2=some (.pointer (some a2)):=by exact rfl):Ge n [] (bodyPost P fn R) .ret L w:=fun a hF=>by
 refine⟨hF.defers,_,?_,h⟩
 obtain⟨⟨_,_,q1⟩,_⟩:=XE (w:=w) t1
 obtain⟨⟨_,_,q2⟩,_⟩:=XE (w:=w) t2
 have e1:=hF.get s1 _ h1
 have e2:=hF.get s2 _ h2
 rw [Array.getD_eq_getD_getElem?] at e1 e2
 simp [results,hr,e1,e2,asAddr,loadVar,q1,q2,c1,c2]
theorem Yb{l m:List Ent}(h:∀f:Ent->Nat,(l.map f).sum=(m.map f).sum):l.Perm m:=by
 classical
 rw [List.perm_iff_count]
 intro z
 have:=h (fun x=>if x=z then 1 else 0)
 have e:∀l:List Ent,(l.map fun x=>if x=z then 1 else 0).sum=l.count z:=fun l=>by
   induction l with
   |nil=>rfl
   | cons x l ih=>
     rw [List.map_cons,List.sum_cons,ih,List.count_cons]
     by_cases hx:x=z
     · subst hx;simp;omega
     · simp [hx]
 rw [e,e] at this
 exact this
section
variable {P:Program} {Q:Exit->Act->World->Prop} {w w' w0:World} {n:Nat} {L:List (Nat×Value)} {ds:List Deferred}
def ItC {St X Tt:Type} (P:Program) (w0:World) (gf:FuncId) (lb:List Value) (Sh:List Ent) (enc:X->List Value) (Pre:St->X->Frame->Prop) (Nx:St->X->St->Prop) (Sx:St->X->Tt->Prop) (s0:St) (Fin:St->Frame->Prop) (FinX:Tt->Frame->Prop):Prop:=
  ∀ (l:Nat) (C:St->Frame) (D:Tt->Frame) (w:World),Sat w0 w (.sem (C s0)::Sh)->
    (∀s x rest w,Pre s x rest->Sat w0 w (.sem (C s)::(Sh++ [.sem rest]))->Yld P l (enc x) w fun v w'=>
      (v= .bool true/\∃s',Nx s x s'/\Sat w0 w' (.sem (C s')::(Sh++ [.sem rest])))\/(v= .bool false/\∃t,Sx s x t/\Sat w0 w' (.sem (D t)::(Sh++ [.sem rest]))))->
    Calls P gf (.func (.yield l) #[] #[]::lb).toArray w fun e w'=>∃v,e= .returned v/\
      ((∃s rest,Fin s rest/\Sat w0 w' (.sem (C s)::(Sh++ [.sem rest])))\/(∃t rest,FinX t rest/\Sat w0 w' (.sem (D t)::(Sh++ [.sem rest]))))
def Kr:List Nat->List Value->List (Nat×Value)->List (Nat×Value)
  |t::ts,v::vs,L=>Kr ts vs ((t,v)::L)
  |_,_,L=>L
theorem Kq{a:Act}:∀(ts:List Nat) (vs:List Value) (T:Array Value) {L:List (Nat×Value)},Frd {tmps:=T,defers:= []} n [] L->(ts.all fun t=>Nat.blt t n)=true->
   Frd {tmps:=(ts.zip vs).foldl (fun t (p:Nat×Value)=>t.setIfInBounds p.1 p.2) T,defers:= []} n [] (Kr ts vs L)
 | [],vs,T,L,h,_=>by simpa [Kr] using h
 |t::ts, [],T,L,h,_=>by simpa [Kr] using h
 | t::ts,v::vs,T,L,h,hb=>by
   simp only [List.all_cons,Bool.and_eq_true] at hb
   have h1:=h.put (by simpa [Nat.blt_eq] using hb.1) v
   simp only [List.zip_cons_cons,List.foldl_cons,Kr]
   exact Kq (a:=a) ts vs _ h1 hb.2
def rdQ{St Tt:Type}(w0:World)(C:St->List Ent)(D:Tt->List Ent)(jc:Tt->Code)(Sh:List Ent)(N:St->Prop)(S:Tt->Prop)(rest:Frame):Exit->Act->World->Prop
  | .normal,_,w'=>∃s',N s'/\Sat w0 w' (C s'++(Sh++ [.sem rest]))
  | .ret,_,w'=>∃t,S t/\jc t= .ret/\Sat w0 w' (D t++(Sh++ [.sem rest]))
  | .exit id,_,w'=>∃t,S t/\jc t= .exit id/\Sat w0 w' (D t++(Sh++ [.sem rest]))
  |_,_,_=>False
theorem ZcB{St Tt:Type}{w0 w:World}{C:St->List Ent}{D:Tt->List Ent}{jc:Tt->Code}{Sh:List Ent}{N:St->Prop}{S:Tt->Prop}{rest:Frame}{n:Nat}{L:List (Nat×Value)}(s':St)(hN:N s')(hS:Sat w0 w (C s'++(Sh++ [.sem rest]))):Ge n [] (rdQ w0 C D jc Sh N S rest) .normal L w:=fun _ _=>⟨s',hN,hS⟩
theorem ZfY{St Tt:Type}{w0 w:World}{C:St->List Ent}{D:Tt->List Ent}{jc:Tt->Code}{Sh:List Ent}{N:St->Prop}{S:Tt->Prop}{rest:Frame}{n:Nat}{L:List (Nat×Value)}(t:Tt)(hN:S t)(hj:jc t= .ret)(hS:Sat w0 w (D t++(Sh++ [.sem rest]))):Ge n [] (rdQ w0 C D jc Sh N S rest) .ret L w:=fun _ _=>⟨t,hN,hj,hS⟩
def Zgg:Code->Exit
  | .ret=> .ret
  | .exit id=> .exit id
  |_=> .normal
theorem Sat.unbun{l1 l2 l3:List Ent}(h:Sat w0 w (l1++ .sem (Frame.bun l2)::l3)):Sat w0 w (l1++(l2++l3)):=h.unbundle
theorem hrf {St X Tt:Type} {gf:FuncId} {lb:List Value} {g:Operand} {ps:Array Tmp} {assign body:Code} {Sh:List Ent} {enc:X->List Value} {Pre:St->X->Frame->Prop} {Nx:St->X->St->Prop} {Sx:St->X->Tt->Prop} {Fin:St->Frame->Prop} {FinX:Tt->Frame->Prop}
   (C:St->List Ent) (D:Tt->List Ent) (jc:Tt->Code) (s0:St) (J:X->List (Nat×Value)->List Ent->Prop) (hit:ItC P w0 gf lb Sh enc Pre Nx Sx s0 Fin FinX) (hS:Sat w0 w (C s0++Sh)) (hcl:Zc P gf=true)
   (hpl:∀x,(enc x).length=ps.size) (hjc:∀t,jc t= .ret\/∃id,jc t= .exit id)
   (yQ:∀l s x rest w,Pre s x rest->∀rest',(∀w,rest'.holds w->rest.holds w)->Sat w0 w (C s++(Sh++ [.sem rest']))->Hc P (some l) n (Exit.then (fun a w'=>∃M es,J x M es/\Frd a n [] M/\Sat w0 w' (C s++(Sh++(.sem rest'::es)))) (fun _ _ _=>False)) assign [] (Kr ps.toList (enc x) L) w)
   (bk:∀l s x M es rest w,Pre s x rest->J x M es->∀rest',(∀w,rest'.holds w->rest.holds w)->Sat w0 w (C s++(Sh++(.sem rest'::es)))->Hc P (some l) n (rdQ w0 C D jc Sh (Nx s x) (Sx s x) rest') body [] M w)
   (y5:∀Dk s rest w',Fin s rest->Sat w0 w' (C s++(Sh++ [.sem rest,dfE Dk true]))->He n Q .normal (mrk Dk::ds) L w')
   (aI:∀Dk t rest w',FinX t rest->Sat w0 w' (D t++(Sh++ [.sem rest,dfE Dk true]))->He n Q (Zgg (jc t)) (mrk Dk::ds) L w')
   (hg:evL L g=some (.func (.func gf) #[] lb.toArray):=by exact rfl) (hpb:(ps.toList.all fun t=>Nat.blt t n)=true:=by exact rfl):Hc P none n Q (.rangeFunc g ps assign body) ds L w:=by
 intro a hF
 refine wpIn_rangeFunc ?_
 intro fn hfn
 obtain⟨rec,q9⟩:∃rec:LoopState->Option Code->Loop,rec=fun st pe=>{state:=st,pending:=pe,fn,tmps:=a.tmps,params:=ps,assign,body,defers:=w.heap.size}:=⟨_,rfl⟩
 obtain⟨W1,hW1⟩:∃W1,(w.alloc (.deferred (some []))).alloc (.loop (rec .ready none))=W1:=⟨_,rfl⟩
 obtain⟨l,hl⟩:∃l,w.heap.size+1=l:=⟨_,rfl⟩
 obtain⟨Dk,hDk⟩:∃Dk,w.heap.size=Dk:=⟨_,rfl⟩
 have hS1:Sat w0 W1 ((C s0++Sh)++ [dfE Dk true]++ [.sem (Frame.obj l (.loop (rec .ready none)))]):=by
   rw [<-hW1]
   refine(hS.alloc _ (e:=dfE Dk true) ?_ ?_).alloc _ (e:= .sem (Frame.obj l (.loop (rec .ready none)))) ?_ ?_
   · rw [<-hDk];exact heap_alloc_new w _
   · intro g hg;rw [<-hDk] at hg;exact hg
   · have:=heap_alloc_new (w.alloc (.deferred (some []))) (.loop (rec .ready none))
     rw [World.size_alloc,hl] at this;exact this
   · intro g hg;rw [World.size_alloc,hl];exact hg
 have eval:a.eval g= .func (.func gf) #[] lb.toArray:=hF.agr _ _ hg
 have df:∃fnn,P.funcs[gf]? =some fnn/\fnn.body.isSome=true/\(fnn.name== "runtime.NumGoroutine")=false:=by
   unfold Zc at hcl
   cases hf:P.funcs[gf]? with
   |none=>simp [hf] at hcl
   | some fnn=>
     simp only [hf,Bool.and_eq_true,Bool.not_eq_true'] at hcl
     exact⟨fnn,rfl,hcl.1,hcl.2⟩
 obtain⟨fnn,hf1,hf2,hf3⟩:=df
 have dk:fnn.body≠none:=by intro e;rw [e] at hf2;simp at hf2
 have di:fnn.name≠ "runtime.NumGoroutine" :=by simpa using hf3
 let C':St->Frame:=fun s=>Frame.bun (C s++ [.sem (Frame.obj l (.loop (rec .ready none))),dfE Dk true])
 let D':Tt->Frame:=fun t=>Frame.bun (D t++ [.sem (Frame.obj l (.loop (rec .done (some (jc t))))),dfE Dk true])
 have hS2:Sat w0 W1 (.sem (C' s0)::Sh):=by
   have h1:Sat w0 W1 (Sh++(C s0++ [.sem (Frame.obj l (.loop (rec .ready none))),dfE Dk true])):=hS1.perm (Yb fun f=>by simp only [List.map_append,List.map_cons,List.map_nil,List.sum_append,List.sum_cons,List.sum_nil];omega)
   have h2:=h1.bundle
   exact h2.perm List.perm_append_comm
 refine⟨l, [mrk Dk],W1,{target:= .fn (.func gf) lb.toArray,args:= #[.func (.yield l) #[] #[]]},W1,gf, #[.func (.yield l) #[] #[]]++lb.toArray,W1,?_,?_,?_,?_,fun h=>(by cases h),?_⟩
 · rw [<-hW1,q9,<-hl,<-hDk];exact run_enterLoop_outer _ _ _ _ _
 · simp only [resolve,eval]
   simp [go_sem]
 · intro f' hf';trivial
 · simp [invoke,go_sem,callFunc,hf1,dk,di]
 have eargs:(#[.func (.yield l) #[] #[]]++lb.toArray:Array Value)=(.func (.yield l) #[] #[]::lb).toArray:=by simp
 rw [eargs]
 refine Wh ((hit l C' D' W1 hS2 ?_).mono ?_)
 ·
   intro s x rest W qr hSW
   have h1:Sat w0 W (C s++(Sh++ [.sem rest,.sem (Frame.obj l (.loop (rec .ready none))),dfE Dk true])):=by
     have:=Sat.unbun (l1:= []) hSW
     exact this.perm (Yb fun f=>by simp only [List.map_append,List.map_cons,List.map_nil,List.sum_append,List.sum_cons,List.sum_nil];omega)
   have hlr:W.heap[l]? =some (.loop (rec .ready none)):=h1.holds (.sem (Frame.obj l (.loop (rec .ready none)))) (by simp)
   have hy:=run_yield (P:=P) (args:=(enc x).toArray) hlr (by rw [q9];simp [hpl x])
   rw [q9] at hy
   refine⟨fn,_,assign,body,hy,roundIn_of_wpIn trivial ?_⟩
   clear hy
   let r1:Frame:=Frame.bun [.sem rest,.sem (Frame.obj l (.loop (rec .ready none))),dfE Dk true]
   have h2:Sat w0 W (C s++(Sh++ [.sem r1])):=by
     rw [<-List.append_assoc] at h1⊢
     exact h1.bundle
   have hfr:Frd {tmps:=(ps.zip (enc x).toArray).foldl (fun t (p,v)=>t.setIfInBounds p v) a.tmps,defers:= []} n [] (Kr ps.toList (enc x) L):=by
     have:=Kq (a:=a) (n:=n) ps.toList (enc x) a.tmps (L:=L) ⟨hF.size,rfl,hF.get⟩ hpb
     have e:(ps.zip (enc x).toArray).foldl (fun t (p,v)=>t.setIfInBounds p v) a.tmps=(ps.toList.zip (enc x)).foldl (fun t (p:Nat×Value)=>t.setIfInBounds p.1 p.2) a.tmps:=by
       rw [<-Array.foldl_toList,Array.toList_zip]
     rw [e];exact this
   refine Go.wpIn_mono (yQ l s x rest W qr r1 (fun w h=>h.1 (.sem rest) (by simp)) h2 _ hfr) ?_
   intro e a1 Wa hp
   cases e<;>try exact hp.elim
   obtain⟨M,es,hJ,hFM,hSa⟩:=hp
   have h3:Sat w0 Wa ((C s++(Sh++([.sem rest]++es))++ [dfE Dk true])++ .sem (Frame.obj l (.loop (rec .ready none))):: []):=by
     have:=Sat.unbun (l1:=C s++Sh) (l3:=es) (by rw [List.append_assoc];exact hSa)
     exact this.perm (Yb fun f=>by simp only [List.map_append,List.map_cons,List.map_nil,List.sum_append,List.sum_cons,List.sum_nil];omega)
   have hlr:Wa.heap[l]? =some (.loop (rec .ready none)):=h3.get
   refine⟨_,run_beginRound hlr (by rw [q9]),?_⟩
   have h4:=h3.putObj (o':= .loop {rec .ready none with state:= .busy})
   let r2:Frame:=Frame.bun [.sem rest,.sem (Frame.obj l (.loop {rec .ready none with state:= .busy})),dfE Dk true]
   have h5:Sat w0 (Wa.putObj l (.loop {rec .ready none with state:= .busy})) (C s++(Sh++(.sem r2::es))):=by
     have h:Sat w0 (Wa.putObj l (.loop {rec .ready none with state:= .busy})) ((C s++(Sh++es))++ [.sem rest,.sem (Frame.obj l (.loop {rec .ready none with state:= .busy})),dfE Dk true]):=by
       exact h4.perm (Yb fun f=>by simp only [List.map_append,List.map_cons,List.map_nil,List.sum_append,List.sum_cons,List.sum_nil];omega)
     have hb:Sat w0 (Wa.putObj l (.loop {rec .ready none with state:= .busy})) ((C s++(Sh++es))++ [.sem r2]):=h.bundle
     exact hb.perm (Yb fun f=>by simp only [List.map_append,List.map_cons,List.map_nil,List.sum_append,List.sum_cons,List.sum_nil];omega)
   refine Go.wpIn_mono (bk l s x M es rest _ qr hJ r2 (fun w h=>h.1 (.sem rest) (by simp)) h5 _ hFM) ?_
   have fin:∀(jump:Option Code) (A:List Ent) (W3:World),Sat w0 W3 (A++(Sh++ [.sem r2]))->
       (Instr.endRound l jump).run P W3= .ok (.bool jump.isNone) (W3.putObj l (.loop (rec (if jump.isNone then .ready else .done) jump)))/\
       Sat w0 (W3.putObj l (.loop (rec (if jump.isNone then .ready else .done) jump))) (.sem (Frame.bun (A++ [.sem (Frame.obj l (.loop (rec (if jump.isNone then .ready else .done) jump))),dfE Dk true]))::(Sh++ [.sem rest])):=fun jump A W3 hA=>by
     have h6:Sat w0 W3 ((Sh++ [.sem rest]++(A++ [dfE Dk true]))++ .sem (Frame.obj l (.loop {rec .ready none with state:= .busy})):: []):=by
       have:=Sat.unbun (l1:=A++Sh) (l3:= []) (by rw [List.append_assoc];exact hA)
       exact this.perm (Yb fun f=>by simp only [List.map_append,List.map_cons,List.map_nil,List.sum_append,List.sum_cons,List.sum_nil];omega)
     have hlb:W3.heap[l]? =some (.loop {rec .ready none with state:= .busy}):=h6.get
     have hr:=run_endRound (P:=P) jump hlb
     have h7:=h6.putObj (o':= .loop (rec (if jump.isNone then .ready else .done) jump))
     refine⟨by rw [q9] at hr⊢;exact hr,?_⟩
     have h8:Sat w0 (W3.putObj l (.loop (rec (if jump.isNone then .ready else .done) jump))) ((Sh++ [.sem rest])++(A++ [.sem (Frame.obj l (.loop (rec (if jump.isNone then .ready else .done) jump))),dfE Dk true])):=by
       exact h7.perm (Yb fun f=>by simp only [List.map_append,List.map_cons,List.map_nil,List.sum_append,List.sum_cons,List.sum_nil];omega)
     exact h8.bundle.perm List.perm_append_comm
   intro e a3 W3 hp
   cases e with
   | normal=>
     obtain⟨s',hn,hA⟩:=hp
     obtain⟨hr,h6⟩:=fin none _ _ hA
     exact⟨_,_,hr,_,rfl,.inl ⟨rfl,s',hn,h6⟩⟩
   | ret=>
     obtain⟨t,hn,hj,hA⟩:=hp
     obtain⟨hr,h6⟩:=fin (some .ret) _ _ hA
     refine⟨_,_,hr,_,rfl,.inr ⟨rfl,t,hn,?_⟩⟩
     simp only [D',hj];exact h6
   | exit id=>
     obtain⟨t,hn,hj,hA⟩:=hp
     obtain⟨hr,h6⟩:=fin (some (.exit id)) _ _ hA
     refine⟨_,_,hr,_,rfl,.inr ⟨rfl,t,hn,?_⟩⟩
     simp only [D',hj];exact h6
   |goto t=>exact hp.elim
   |panic ch=>exact hp.elim
   |outgrown=>exact hp.elim
 ·
   have out:∀(st:LoopState) (pe:Option Code) (A:List Ent) (rest:Frame) (W2:World),st≠ .busy->Sat w0 W2 (.sem (Frame.bun (A++ [.sem (Frame.obj l (.loop (rec st pe))),dfE Dk true]))::(Sh++ [.sem rest]))->
       (Instr.endLoop l).run P W2= .ok pe (W2.putObj l (.loop {rec st pe with state:= .exhausted}))/\Sat w0 (W2.putObj l (.loop {rec st pe with state:= .exhausted})) (A++(Sh++ [.sem rest,dfE Dk true])):=fun st pe A rest W2 hst h=>by
     have h1:=Sat.unbun (l1:= []) h
     have h2:Sat w0 W2 ((A++(Sh++ [.sem rest,dfE Dk true]))++ .sem (Frame.obj l (.loop (rec st pe))):: []):=by
       exact h1.perm (Yb fun f=>by simp only [List.map_append,List.map_cons,List.map_nil,List.sum_append,List.sum_cons,List.sum_nil];omega)
     have hl:W2.heap[l]? =some (.loop (rec st pe)):=h2.get
     have h3:=h2.putObj (o':= .loop {rec st pe with state:= .exhausted})
     refine⟨?_,h3.sub (List.sublist_append_left _ _)⟩
     have:=run_endLoop (P:=P) hl (by rw [q9];exact hst)
     rw [q9] at this⊢;exact this
   rintro e W2 ⟨v,rfl,h⟩
   have hF':∀{L'},Frd a n ds L'->Frd {a with defers:= [mrk Dk]++a.defers} n (mrk Dk::ds) L':=fun h=>⟨h.size,by rw [<-h.defers];rfl,h.get⟩
   rcases h with⟨s,rest,qs,h⟩|⟨t,rest,qs,h⟩
   · obtain⟨h1,h2⟩:=out .ready none _ rest W2 (by simp) h
     exact⟨none,_,h1,y5 Dk s rest _ qs h2 _ (hF' hF)⟩
   · obtain⟨h1,h2⟩:=out .done (some (jc t)) _ rest W2 (by simp) h
     refine⟨some (jc t),_,h1,?_⟩
     have h3:=aI Dk t rest _ qs h2 _ (hF' hF)
     rcases hjc t with hj|⟨id,hj⟩
     · rw [hj] at h3⊢;exact wpIn_ret h3
     · rw [hj] at h3⊢;exact wpIn_exit h3
end
end Go.Proofs.Gw
namespace Go.Proofs.YtpnamgfdakfccaaGreat
open Go Go.RowKit Go.Proofs.Gw
theorem Zoc:Zc Om 85=true:=Oc
theorem Zob:Zc Om 86=true:=Oc
theorem cl_87:Zc Om 87=true:=Oc
theorem Zoa:Zc Om 88=true:=Oc
theorem ZcK:ZM Om 100=some (.agg #[Oh,Oh,Oh,.int Oi 0,.int Oi 0,.int Oi 0],6,96):=Oc
theorem fd_100_0:Zs Om 100 0=some 0:=Oc
theorem WK:Zs Om 100 1=some 5:=Oc
theorem fd_56_1:Zs Om 56 1=some 1:=Oc
theorem pl_35:ZB Om 35=true:=Oc
theorem V9:Zw Om 100=some 6:=Oc
structure CX where
  u:Int
  vP:Value
  vv:Int->Value
  ml:Of
  mf:Og
  vX:Value
  vY:Value
  s:So
  e:Int
inductive CRn (p:Prob):Int->(Of)->(Og)->Int->Prop
  |start {u e:Int} {ml:Of} {mf:Og} (h:Zd3 p u ml mf e):CRn p u ml mf e
  |go {u na worth f:Int} {ml:Of} {mf:Og} {a:Of} {s:So} (h:CRn p u ml mf 0) (hs:MSolveR p u ml mf s 0) (hp:Zc3 p s.m s.Y na a worth f) (hn:¬(f=0/\worth<=s.den)):CRn p (u+1) (gsn ml u na) (gsn mf u a) f
def ZhR(p:Prob)(s:So):Prop:=∃na a worth,Zc3 p s.m s.Y na a worth 0/\worth<=s.den
def Zpp(x:CX):List Ent:= [.own x.vP 1 22 x.u x.vv,.sem (Frame.rows 3 x.u x.vv x.ml x.mf),.own x.vX 1 3 x.s.n (ints x.s.X),.own x.vY 1 3 x.s.m (ints x.s.Y)]
def ZjO(p:Prob)(s:List CX)(x:CX)(rest:Gw.Frame):Prop:=(∀y∈s,y.e=0)/\Slh x.vP x.u/\Slh x.vX x.s.n/\Slh x.vY x.s.m/\(x.e=0->Frame.gives rest (Zpp x))/\
  ∃e,CRn p x.u x.ml x.mf e/\((e≠0/\x.e=e/\x.s=So.zero)\/(e=0/\MSolveR p x.u x.ml x.mf x.s x.e))
def Zpq(p:Prob)(s:List CX)(rest:Gw.Frame):Prop:=∃s' x,s=s'++ [x]/\ZjO p s' x rest/\(x.e=0->ZhR p x.s)
theorem MSolveR.few{p:Prob}{u:Int}{ml:Of}{mf:Og}{s:So}(h:MSolveR p u ml mf s 0):p.Ok/\u<=60/\s.m=p.m:=by
 rcases h with⟨_,_,h⟩|⟨_,_,_,h⟩|⟨_,_,_,_,_,_,h⟩|⟨h1,h2,h3,h4,h5,h6,h7⟩|⟨h1,h2,h3,h4,h5⟩
 · omega
 · omega
 · omega
 · exact⟨h1.1,h3,by rw [h6];rfl⟩
 · refine⟨h1.1,h3,?_⟩
   have:=(SolveR.chk (p:=Ziy p u mf) (by have:=h1.1.m1;show 0<=p.m;omega) h5 rfl).m
   exact this
theorem Zhv {v:Value} {n:Int} {vv:Int->Value} (w0:World) (ho:(Ent.own v 1 22 n vv).holds w0) (h1:∀k,0<=k->k<n->(vv k).oneCell'=true) (hn:n<=1000000):Calls Om 86 [v].toArray w0 fun e w=>∃u,e= .returned u/\∃r,u=r/\Slh r n/\Sat w0 w [.own r 1 22 n vv]:=by
 have qt:=ho.row
 obtain⟨hn0,hn1,⟨rfl,rfl⟩|⟨g,cap,cur,rfl,hg,h2,h3,h4,h5⟩⟩:=ho
 · refine(WF 0 0 w0).mono fun e w ⟨he,hw⟩=>⟨_,he,_,rfl,slh_nil,?_⟩
   rw [hw]
   exact(Sat.start w0).addnil 1 22 vv
 · obtain⟨i,hi,hz,hs,hb⟩:=Yn Yj
   refine(Ua i Oh 1 24 hi hz hs hb rfl (by decide) (fun w=>by simp [sizeOf,typeInfo,hi,hs]) g 0 n.toNat cap (cellsOf vv n.toNat) w0 (by rw [Yv];omega) (by unfold maxLen;omega) Oa (fun j u hj=> ?_) (fun u hu=> ?_)).mono fun e w ⟨r,he,hr,_,hB⟩=>⟨r,he,r,rfl,?_⟩
   · rw [cellsOf_get] at hj
     split at hj
     · rename_i hlt
       cases hj
       have:=qt.2 j Oa
       rw [<-this];simp [cad]
     · cases hj
   · obtain⟨j,hj⟩:=List.getElem?_of_mem hu
     rw [cellsOf_get] at hj
     split at hj
     · cases hj;exact h1 j Oa Oa
     · cases hj
   · have hE:(Ent.own r 1 22 n vv).holds w:=Ent.holds.of_owns hn0 Oa (by rw [Nat.mul_one];exact hr)
     exact⟨hE.row.slh,hB,fun e he=>by obtain rfl:=List.mem_singleton.1 he;exact hE,fun e he g hg=>by obtain rfl:=List.mem_singleton.1 he;exact(hr.lt g hg).1,List.pairwise_singleton _ _⟩
theorem ZcZ{vL vD:Value}{p:Prob}{gp:Nat}(w0:World)(h:PAt w0 vL vD p):ItC (St:=List CX) (X:=CX) (Tt:=CX) Om w0 84 [Or gp] [.blk gp [vL,vD,.int Oi p.stock,.int Oi p.kerf]] (fun x=> [.agg #[x.vP,x.vX,x.vY,.int Oi x.s.val,.int Oi x.s.den,.int Oi x.e]]) (ZjO p) (fun s x s1=>s1=s++ [x]) (fun _ _ _=>False) ([]) (Zpq p) (fun _ _=>False):=by
 intro l C D w hS hY
 obtain⟨hm,hm1,hd,hd1,hs,hk⟩:=h.Oq
 refine ZfZ Tryz.func84 Tryz.ntmps84 ?_
 refine hsq<|hrz ?_
 refine zlv (xls 1 st_27 hS) ?_
 refine zlc (xc0 Zoc) (Zhf (p:=p) w (h.below hS.below)) ?_;rintro _ w ⟨bH,zE,ao,bI,bJ,jf,rfl,aT,cQ,hS'⟩
 replace hS:Sat w0 w [.sem (C []),.blk gp [vL,vD,.int Oi p.stock,.int Oi p.kerf],.own bH 1 22 zE ao,.sem (Frame.rows 3 zE ao bI bJ)]:=hS.comp hS';clear hS'
 have fU:=fun k (k0:0<=k) (k1:k<zE)=>hS.slhIn 3 rfl k0 k1
 refine zs5 ?_
 refine zln<|zh<|htn<|hbk<|hlp (fun mm M w=>∃(s:List CX) (u:Int) (wP:Value) (vv:Int->Value) (ml:Of) (mf:Og) (e:Int),mm=((62-u).toNat)/\(CRn p u ml mf e)/\(∀y∈s,y.e=0)/\(Slh wP u)/\(u<=61)/\M= [(0,.func (.yield l) #[] #[]),(1,Or gp),(3,wP),(4,.int Oi e)]/\Sat w0 w [.sem (C s),.blk gp [vL,vD,.int Oi p.stock,.int Oi p.kerf],.own wP 1 22 u vv,.sem (Frame.rows 3 u vv ml mf)]) ⟨[],zE,bH,ao,bI,bJ,jf,rfl,?_,?_,?_,?_,rfl,hS⟩ ?_
 ·
  exact .start aT
 ·
  intro y hy;cases hy
 ·
  exact cQ
 ·
  rcases aT with⟨_,h9,_⟩|⟨h9,h8,_⟩
  · omega
  · have:=KA p p.m.toNat;have:=h9.m2;have:=h9.m1;omega
 clear hS w
 rintro mm M w ⟨s,u,wP,vv,ml,mf,e,rfl,hRn,xM,hsP,kw,rfl,hS⟩
 have hrs:=fun k (k0:0<=k) (k1:k<u)=>hS.slhIn 3 rfl k0 k1
 have hu0:=hsP.n0
 refine hbk<|hsq<|hrz ?_
 refine zlv xmv ?_
 refine zlc (xc0 Zob) (Zhv w (hS.holds _ (List.mem_of_getElem? (i:=2) rfl)) (fun k k0 k1=>(hS.slhIn 3 rfl k0 k1).one) Oa) ?_;rintro qW w ⟨_,rfl,yb,hS'⟩
 replace hS:Sat w0 w [.sem (C s),.blk gp [vL,vD,.int Oi p.stock,.int Oi p.kerf],.own wP 1 22 u vv,.sem (Frame.rows 3 u vv ml mf),.own qW 1 22 u vv]:=hS.comp hS';clear hS'
 refine zlv (xany (v:= .agg #[qW,Oh,Oh,.int Oi 0,.int Oi 0]) (hr:=by obtain⟨_,_,_,_,rfl,_⟩:=yb;kernel_rfl)) ?_
 refine zlv xmv ?_
 refine zlv (xany (v:= .agg #[qW,Oh,Oh,.int Oi 0,.int Oi 0,.int Oi e]) (hr:=by obtain⟨_,_,_,_,rfl,_⟩:=yb;kernel_rfl)) ?_
 refine zla (xal (cs:= [_,_,_,_,_,_]) ZcK hS) ?_;rintro _ w ⟨g1,rfl,hS⟩
 replace hS:=hS.n6
 refine zle (xsw 5 V9 hS (hd:=(Za yb.one (Za rfl (Za rfl (Za rfl (Za rfl (Za rfl Zh)))))))) ?_;clear hS;rintro w hS
 replace hS:=hS.n6
 refine zln<|zh<|htn<|hsq<|hsq<|hrz ?_
 refine zs2 ?_
 refine zln<|zh<|htn ?_
 refine YS ?_ ?_<;>intro hc
 ·
  refine hrz ?_
  refine zlv (xls 1 st_27 hS) ?_
  refine zlv xmv ?_
  refine zlc (xc0 cl_87) (c_msolve (p:=p) (u:=u) (ml:=ml) (mf:=mf) w (h.below hS.below) (⟨(hS.rowN 2 rfl),fun k k0 k1=>hS.rowIn 3 rfl k0 k1,fun k k0 k1=>hS.roomIn 3 rfl k0 k1⟩:MAt _ wP u vv ml mf)) ?_;rintro _ w ⟨yw,yt,qM,af,rfl,aU,aF,aE,hS'⟩
  replace hS:Sat w0 w [.sem (C s),.blk gp [vL,vD,.int Oi p.stock,.int Oi p.kerf],.own wP 1 22 u vv,.sem (Frame.rows 3 u vv ml mf),.own qW 1 22 u vv,.blk g1 [qW,Oh,Oh,.int Oi 0,.int Oi 0,.int Oi e],.own yw 1 3 qM.n (ints qM.X),.own yt 1 3 qM.m (ints qM.Y)]:=hS.comp hS';clear hS'
  refine zs3 ?_
  refine zlv (xfb 0 fd_100_0) ?_
  refine zlv (xfb 1 fd_56_1) ?_
  refine zle (xsp 5 ZV hS (hd:=(Za aF.one (Za aE.one (Za rfl (Za rfl Zh)))))) ?_;clear hS;rintro w hS
  replace hS:=hS.n8
  refine zlv (xfb 5 WK) ?_
  refine zle (xsb 5 pl_35 hS) ?_;clear hS;rintro w hS
  replace hS:=hS.n8
  refine zln<|zh<|htn<|hsq<|hsq<|hrg ?_
  refine hlv xmv ?_
  refine hlv (xls 5 V9 hS) ?_
  have qI:ZjO p s ⟨u,qW,vv,ml,mf,yw,yt,qM,af⟩ (Frame.bun [.own wP 1 22 u vv,.sem (Frame.rows 3 u vv ml mf),.own qW 1 22 u vv,.blk g1 [qW,yw,yt,.int Oi qM.val,.int Oi qM.den,.int Oi af],.own yw 1 3 qM.n (ints qM.X),.own yt 1 3 qM.m (ints qM.Y)]):=⟨xM,yb,aF,aE,fun _=>TB [2,1,4,5],e,hRn,.inr ⟨by assumption,aU⟩⟩
  refine hly (hY s _ _ w qI (Sat.bundle (l1:= [_,_]) hS)) ?_;rintro _ w (⟨rfl,sy1,qu,hS⟩|⟨rfl,ty1,xb,hS⟩)
  ·
   replace hS:=Sat.unbundle (l1:= [_,_]) (l3:= []) hS
   replace hS:=hS.n8
   refine hlv xnt ?_
   refine hlv xmv ?_
   refine hlv (xfb 5 WK) ?_
   refine hlv (xlb 5 pl_35 hS) ?_
   refine hlv Y9 ?_
   refine hlv xpf ?_
   refine hln<|htn ?_
   refine YS ?_ ?_<;>intro hc
   ·
    refine hrt<|ztr<|zbr<|ztr<|zbr<|zf0 ⟨_,rfl,?_⟩
    subst qu
    exact .inl ⟨_,_,⟨s,_,rfl,⟨qI.1,qI.2.1,qI.2.2.1,qI.2.2.2.1,fun _=>TB [2,1,4,5],qI.2.2.2.2.2⟩,by first|exact fun hh=>absurd hh (by assumption)|exact fun _=>⟨_,_,_,(by rw [show(0:Int)=za by omega];exact x7),by show ah<=qM.den;omega⟩⟩,Sat.bundle (l1:= [_,_]) hS⟩
   refine hsk<|htn<|hsq<|hrz ?_
   refine zlv (xls 1 st_27 hS) ?_
   refine zlv (xfb 0 fd_100_0) ?_
   refine zlv (xfb 1 fd_56_1) ?_
   refine zlv (xfb 2 fd_54_1) ?_
   refine zlv (xlb 5 pl_22 hS) ?_
   refine zlc (xc0 Zoa) (Zji (p:=p) (n:=qM.m) (y:=qM.Y) w (h.below hS.below) (hS.rowN 7 rfl)) ?_;rintro _ w ⟨xz,aw,ag,ah,za,rfl,yJ,yG,hS'⟩
   replace hS:Sat w0 w [.sem (C sy1),.blk gp [vL,vD,.int Oi p.stock,.int Oi p.kerf],.own wP 1 22 u vv,.sem (Frame.rows 3 u vv ml mf),.own qW 1 22 u vv,.blk g1 [qW,yw,yt,.int Oi qM.val,.int Oi qM.den,.int Oi af],.own yw 1 3 qM.n (ints qM.X),.own yt 1 3 qM.m (ints qM.Y),.own xz 1 3 aw (ints ag)]:=hS.comp hS';clear hS'
   refine zs2 ?_
   have hfe:=aU;rw [show af=0 by omega] at hfe
   obtain⟨hok,fR,hsm⟩:=hfe.few
   refine zs5 ?_
   refine zln<|zh<|htn<|hsq<|hsq<|hrz ?_
   refine zs3 ?_
   refine zlb 51 ?_ ?_<;>intro hc
   ·
    refine zlv xmv ?_
    refine zlv (xfb 0 fd_100_0) ?_
    refine zlv (xfb 1 fd_56_1) ?_
    refine zlv (xfb 4 fd_54_3) ?_
    refine zlv (xlb 5 pl_3 hS) ?_
    refine zs2 ?_
    have x7:=yJ
    refine zln<|zh<|htn ?_
    refine YS ?_ ?_<;>intro hc
    ·
     refine hrt<|ztr<|zbr<|ztr<|zbr<|zf0 ⟨_,rfl,?_⟩
     subst qu
     exact .inl ⟨_,_,⟨s,_,rfl,⟨qI.1,qI.2.1,qI.2.2.1,qI.2.2.2.1,fun _=>TB [2,1,4,5],qI.2.2.2.2.2⟩,by first|exact fun hh=>absurd hh (by assumption)|exact fun _=>⟨_,_,_,(by rw [show(0:Int)=za by omega];exact x7),by show ah<=qM.den;omega⟩⟩,Sat.bundle (l1:= [_,_]) hS⟩
    refine hsk<|htn<|hrz ?_
    refine zs2 ?_
    refine zla (xli (n:=1) (len:=1) (pv:= [(0,xz)]) (cs:= [xz]) (c:=(fun _=>xz)) Zk Yj hS (hf:=by obtain⟨_,_,_,_,rfl,_⟩:=yG;kernel_rfl)) ?_;rintro v1 w ⟨hS,hv1⟩
    replace hS:=hS.n10
    refine zla (xap 2 (r:=u+1) Zk Yj hS (hS.rowN 9 rfl) (Wv _ _ _) (h1:=fun _ _ _=>yG.one)) ?_;rintro v2 w ⟨hS,hv2⟩
    replace hS:=hS.n10
    replace hS:=Sat.merge (l1:= [_,_,_]) (l2:= [_,_,_,_]) (l3:= [_]) hS Oa
    have xl:=fun k (k0:0<=k) (k1:k<u+1)=>hS.slhIn 3 rfl k0 k1
    replace hS:=hS.n9
    refine zs3 ?_
    refine zln<|zh<|zbn<|hlq ⟨sy1,u+1,v2,gsn vv u xz,gsn ml u aw,gsn mf u ag,za,rfl,?_,?_,?_,?_,rfl,hS.pk [0,1,2,3]⟩
    ·
     exact .go (by rw [show(0:Int)=e by omega];exact hRn) hfe yJ Oa
    ·
     rw [qu];intro y hy;rcases List.mem_append.1 hy with hy|hy
     · exact xM y hy
     · obtain rfl:=List.mem_singleton.1 hy;show af=0;omega
    ·
     exact hv2
    ·
     omega
   iterate 6 refine zlo ?_
   refine zlv xpf ?_
   have x7:=yJ
   refine zln<|zh<|htn<|hcf<|hsk<|htn<|hrz ?_
   refine zs2 ?_
   refine zla (xli (n:=1) (len:=1) (pv:= [(0,xz)]) (cs:= [xz]) (c:=(fun _=>xz)) Zk Yj hS (hf:=by obtain⟨_,_,_,_,rfl,_⟩:=yG;kernel_rfl)) ?_;rintro v3 w ⟨hS,hv3⟩
   replace hS:=hS.n10
   refine zla (xap 2 (r:=u+1) Zk Yj hS (hS.rowN 9 rfl) (Wv _ _ _) (h1:=fun _ _ _=>yG.one)) ?_;rintro v4 w ⟨hS,hv4⟩
   replace hS:=hS.n10
   replace hS:=Sat.merge (l1:= [_,_,_]) (l2:= [_,_,_,_]) (l3:= [_]) hS Oa
   have y4:=fun k (k0:0<=k) (k1:k<u+1)=>hS.slhIn 3 rfl k0 k1
   replace hS:=hS.n9
   refine zs3 ?_
   refine zln<|zh<|zbn<|hlq ⟨sy1,u+1,v4,gsn vv u xz,gsn ml u aw,gsn mf u ag,za,rfl,?_,?_,?_,?_,rfl,hS.pk [0,1,2,3]⟩
   ·
    exact .go (by rw [show(0:Int)=e by omega];exact hRn) hfe yJ Oa
   ·
    rw [qu];intro y hy;rcases List.mem_append.1 hy with hy|hy
    · exact xM y hy
    · obtain rfl:=List.mem_singleton.1 hy;show af=0;omega
   ·
    exact hv4
   ·
    omega
  ·
   replace hS:=Sat.unbundle (l1:= [_,_]) (l3:= []) hS
   replace hS:=hS.n8
   refine hlv xnf ?_
   refine hlv xmv ?_
   iterate 3 refine hlo ?_
   refine hlv xpt ?_
   refine hln<|htn<|hct<|hrt<|ztr<|zbr<|ztr<|zbr<|zf0 ⟨_,rfl,?_⟩
   exact xb.elim
 refine hsk<|htn<|hsq<|hsq<|hrg ?_
 refine hlv xmv ?_
 refine hlv (xls 5 V9 hS) ?_
 have xL:ZjO p s ⟨u,qW,vv,ml,mf,Oh,Oh,So.zero,e⟩ (Frame.bun [.own wP 1 22 u vv,.sem (Frame.rows 3 u vv ml mf),.own qW 1 22 u vv,.blk g1 [qW,Oh,Oh,.int Oi 0,.int Oi 0,.int Oi e]]):=⟨xM,yb,slh_nil,slh_nil,fun hh=>absurd hh (by assumption),e,hRn,.inl ⟨by assumption,rfl,rfl⟩⟩
 refine hly (hY s _ _ w xL (Sat.bundle (l1:= [_,_]) hS)) ?_;rintro _ w (⟨rfl,sy2,gk,hS⟩|⟨rfl,ty2,gQ,hS⟩)
 ·
  replace hS:=Sat.unbundle (l1:= [_,_]) (l3:= []) hS
  replace hS:=hS.n6
  refine hlv xnt ?_
  refine hlv xmv ?_
  refine hlv (xfb 5 WK) ?_
  refine hlv (xlb 5 pl_35 hS) ?_
  refine hlv Y9 ?_
  refine hlv xpf ?_
  refine hln<|htn ?_
  refine YS ?_ ?_<;>intro hc
  ·
   refine hrt<|ztr<|zbr<|ztr<|zbr<|zf0 ⟨_,rfl,?_⟩
   subst gk
   exact .inl ⟨_,_,⟨s,_,rfl,⟨xL.1,xL.2.1,xL.2.2.1,xL.2.2.2.1,fun hh=>absurd hh (by assumption),xL.2.2.2.2.2⟩,by first|exact fun hh=>absurd hh (by assumption)|exact fun _=>⟨_,_,_,(by rw [show(0:Int)=za by omega];exact x7),by show ah<=qM.den;omega⟩⟩,Sat.bundle (l1:= [_,_]) hS⟩
  exfalso;omega
 ·
  replace hS:=Sat.unbundle (l1:= [_,_]) (l3:= []) hS
  replace hS:=hS.n6
  refine hlv xnf ?_
  refine hlv xmv ?_
  iterate 3 refine hlo ?_
  refine hlv xpt ?_
  refine hln<|htn<|hct<|hrt<|ztr<|zbr<|ztr<|zbr<|zf0 ⟨_,rfl,?_⟩
  exact gQ.elim
theorem ZeY{vL vD:Value}{p:Prob}(w0:World)(h:PAt w0 vL vD p):
   Calls Om 41 [.agg #[vL,vD,.int Oi p.stock,.int Oi p.kerf]].toArray w0 fun e w=>∃v,e= .returned v/\∃g,v= .func (.func 84) #[] #[Or g]/\Sat w0 w [.blk g [vL,vD,.int Oi p.stock,.int Oi p.kerf]]:=by
 refine zenG Tryz.func41 Tryz.ntmps41 fun w hS=> ?_
 refine zsr<|zla (xbx (cs:= [_,_,_,_]) hS) ?_;rintro _ w ⟨g1,rfl,hS⟩
 refine(zP)<|zlz<|(zV xmf)<|(zP)<|zx1<|Oj ?_
 exact⟨_,rfl,hS⟩
theorem Zoq:Zc Om 41=true:=Oc
theorem Zod:Zc Om 84=true:=Oc
theorem Zgv:ZM Om 56=some (.agg #[Oh,Oh,Oh,.int Oi 0,.int Oi 0],5,88):=Oc
theorem X1:Zw Om 56=some 5:=Oc
def CX.zer:CX:=⟨0,Oh,fun _=>undef,fun _=>0,fun _ _=>0,Oh,Oh,So.zero,0⟩
def VP(s:List CX):CX:=s.getLast?.getD CX.zer
theorem Ty(s:List CX)(x:CX):VP (s++ [x])=x:=by simp [VP]
def ColR(p:Prob)(u:Int)(ml:Of)(mf:Og)(s:So)(e:Int):Prop:=(¬p.Ok/\u=0/\s=So.zero/\e=1)\/
  (p.Ok/\e≠0/\u=0/\s=So.zero/\∃u1 ml1 mf1 e1,CRn p u1 ml1 mf1 e1/\((e1≠0/\e=e1)\/(e1=0/\∃s1,MSolveR p u1 ml1 mf1 s1 e)))\/(p.Ok/\e=0/\CRn p u ml mf 0/\MSolveR p u ml mf s 0/\ZhR p s)
theorem ZbY{vL vD:Value}{p:Prob}(w0:World)(h:PAt w0 vL vD p):
   Calls Om 16 [.agg #[vL,vD,.int Oi p.stock,.int Oi p.kerf]].toArray w0 fun e w=>∃v,e= .returned v/\∃vP vv vX vY u ml mf s e,v= .tuple #[.agg #[vP,vX,vY,.int Oi s.val,.int Oi s.den],.int Oi e]/\ColR p u ml mf s e/\Slh vP u/\Slh vX s.n/\Slh vY s.m/\Sat w0 w [.own vP 1 22 u vv,.sem (Frame.rows 3 u vv ml mf),.own vX 1 3 s.n (ints s.X),.own vY 1 3 s.m (ints s.Y)]:=by
 obtain⟨hm,hm1,hd,hd1,hs,hk⟩:=h.Oq
 refine ZiI Tryz.func16 Tryz.ntmps16 fun w hS=> ?_
 refine hsq<|hrz ?_
 refine zla (xbx (cs:= [_,_,_,_]) hS) ?_;rintro _ w ⟨g1,rfl,hS⟩
 refine zla (xal (cs:= [_,_,_,_,_]) Zgv hS) ?_;rintro _ w ⟨g2,rfl,hS⟩
 refine(zP)<|zln<|zh<|htn<|hsq<|hsq<|hrz ?_
 refine(zV (xls 0 st_27 hS))<|zlc (xc0 XJ) (Z8 (p:=p) w (h.below hS.below)) ?_;rintro _ w ⟨rfl,hS'⟩
 replace hS:=hS.cmp hS';clear hS'
 refine(zP)<|zln<|zh<|htn ?_
 refine YS ?_ ?_<;>intro hc
 ·
  refine hsq<|hrz ?_
  refine(zV (xany (v:= .agg #[Oh,Oh,Oh,.int Oi 0,.int Oi 0])))<|zle (xsw 1 X1 hS) ?_;clear hS;rintro w hS
  refine(zP)<|zln<|zh<|htn<|hrt<|ztr<|ZkM<|Yk 1 X1 hS ⟨_,rfl,?_⟩
  exact⟨_,fun _=>undef,_,_,0,fun _=>0,fun _ _=>0,So.zero,1,rfl,.inl ⟨‹¬p.Ok›,rfl,rfl,rfl⟩,slh_nil,slh_nil,slh_nil,((((hS.sub (.cons _ (.cons _ .slnil))).addnil 1 22 (fun _=>undef)).addrows 3 (fun _=>undef) (fun _=>0) (fun _ _=>0)).addnil 1 3 (ints So.zero.X)).addnil 1 3 (ints So.zero.Y)⟩
 refine hsk<|htn<|hsq<|hrz ?_
 refine zla (xal (cs:= [_,_,_,_,_,_]) ZcK hS) ?_;rintro _ w ⟨g3,rfl,hS⟩
 refine zln<|zh<|htn<|hsq<|hsq<|hrz ?_
 refine zlv (xls 0 st_27 hS) ?_
 have hok:p.Ok:=by first|assumption|exact Od ‹_›
 refine zlc (xc0 Zoq) (ZeY (p:=p) w (h.below hS.below)) ?_;rintro _ w ⟨g4,rfl,hS'⟩
 replace hS:=(hS.comp hS').n4;clear hS'
 refine zln<|zh<|htn<|hbk<| ?_
 refine hrf (St:=List CX) (X:=CX) (Tt:=CX) (fun s=> [.blk g1 [vL,vD,.int Oi p.stock,.int Oi p.kerf],.blk g2 [Oh,Oh,Oh,.int Oi 0,.int Oi 0],.blk g3 [(VP s).vP,(VP s).vX,(VP s).vY,.int Oi ((VP s).s.val),.int Oi ((VP s).s.den),.int Oi ((VP s).e)]]) (fun t=> []) (fun _=> .ret) [] (fun x M es=>∃(g5:Nat),M= [(0,.agg #[vL,vD,.int Oi p.stock,.int Oi p.kerf]),(1,Or g1),(2,Or g2),(3,.int Oi 0),(6,.agg #[vL,vD,.int Oi p.stock,.int Oi p.kerf]),(7,B (p.Ok)),(8,B (¬(p.Ok))),(4,Or g3),(10,.agg #[vL,vD,.int Oi p.stock,.int Oi p.kerf]),(11,.func (.func 84) #[] #[Or g4]),(12,.agg #[x.vP,x.vX,x.vY,.int Oi x.s.val,.int Oi x.s.den,.int Oi x.e]),(5,Or g5)]/\es= [.blk g5 [x.vP,x.vX,x.vY,.int Oi x.s.val,.int Oi x.s.den,.int Oi x.e]]) (ZcZ (gp:=g4) w0 h) (hS) Zod (fun _=>rfl) (fun _=> .inl rfl) ?_ ?_ ?_ ?_
 ·
  intro lq s x rest w qr qG hrr hS
  have hxP:=qr.2.1;have hxX:=qr.2.2.1;have hxY:=qr.2.2.2.1
  refine hrz ?_
  refine zla (xal (cs:= [_,_,_,_,_,_]) ZcK hS) ?_;rintro _ w ⟨g5,rfl,hS⟩
  refine zle (xsw 5 V9 hS (hd:=(Za hxP.one (Za hxX.one (Za hxY.one (Za rfl (Za rfl (Za rfl Zh)))))))) ?_;clear hS;rintro w hS
  refine zln<|zh<|Zf0 ⟨g5,rfl,rfl⟩ hS
 ·
  rintro lq s x _ _ rest w qr ⟨g5,rfl,rfl⟩ qG hrr hS
  have hxP:=qr.2.1;have hxX:=qr.2.2.1;have hxY:=qr.2.2.2.1
  refine hbk<|hrz ?_
  refine(zV (xls 5 V9 hS))<|zle (xsw 2 V9 hS (hd:=(Za hxP.one (Za hxX.one (Za hxY.one (Za rfl (Za rfl (Za rfl Zh)))))))) ?_;clear hS;rintro w hS
  refine zln<|zh<|zbn ?_
  obtain⟨s1,hs1⟩:∃s1,s1=s++ [x]:=⟨_,rfl⟩
  have e1:VP s1=x:=by rw [hs1,Ty]
  rw [<-e1] at hS
  refine ZcB s1 hs1 (hS.pk [0,1,2,3,4])
 ·
  intro Dk s rest w qs hS
  obtain⟨s9,x,rfl,qr,eT⟩:=qs
  have hxP:=qr.2.1;have hxX:=qr.2.2.1;have hxY:=qr.2.2.2.1
  rw [Ty] at hS
  refine zbn<|htn<|hsq<|hsq<|hrz ?_
  refine(zV (xfb 5 WK))<|(zV (xlb 2 pl_35 hS))<|(zP)<|zln<|zh<|htn ?_
  refine YS ?_ ?_<;>intro hc
  ·
   refine hsq ?_
   refine hdst [0,1,2,3,4,5] [0,2,3,4,5] 3 mx_ hS ?_;clear hS;intro w hS
   refine(zDw 0 (xany (v:= .agg #[Oh,Oh,Oh,.int Oi 0,.int Oi 0])))<|(zDw 1 (xfb 5 WK))<|(zDl 2 (fun w hS=>(xlb 1 pl_35 hS)))<|zde 3 (xsw 1 X1 hS) ?_;clear hS;rintro w hS
   refine⟨⟨fun h=>absurd h (by decide),hS.pk [0,2,3,4,5]⟩,?_⟩
   refine(zDw 4 xas)<|zdd<|zh<|htn<|hrt<|ztr<|ZcC 5 hS fun w hS=>Yk 1 X1 hS ⟨_,rfl,?_⟩
   obtain⟨e1,hc1,hc2⟩:=qr.2.2.2.2.2
   exact⟨_,fun _=>undef,_,_,0,fun _=>0,fun _ _=>0,So.zero,x.e,rfl,.inr (.inl ⟨hok,by assumption,rfl,rfl,_,_,_,e1,hc1,by rcases hc2 with⟨q1,q2,_⟩|⟨q1,q2⟩;exact .inl ⟨q1,q2⟩;exact .inr ⟨q1,_,q2⟩⟩),slh_nil,slh_nil,slh_nil,((((hS.sub (.cons _ (.cons _ (.cons _ (.cons _ (.cons _ (.cons _ .slnil))))))).addnil 1 22 (fun _=>undef)).addrows 3 (fun _=>undef) (fun _=>0) (fun _ _=>0)).addnil 1 3 (ints So.zero.X)).addnil 1 3 (ints So.zero.Y)⟩
  refine hsk<|htn<|hsq<|hrz ?_
  refine(zV (xfb 0 fd_100_0))<|(zV (xlp 2 (ds:= [x.vP,x.vX,x.vY,.int Oi x.s.val,.int Oi x.s.den]) X1 hS))<|zle (xsw 1 X1 hS (hd:=(Za hxP.one (Za hxX.one (Za hxY.one (Za rfl (Za rfl Zh))))))) ?_;clear hS;rintro w hS
  refine(zP)<|zln<|zh<|htn<|hrt<|ZcC 5 hS fun w hS=>Yk 1 X1 hS ⟨_,rfl,?_⟩
  have hx0:x.e=0:=Oa
  obtain⟨e1,hc1,hc2⟩:=qr.2.2.2.2.2
  obtain⟨q1,q2⟩:e1=0/\MSolveR p x.u x.ml x.mf x.s 0:=by rcases hc2 with⟨q1,q2,_⟩|⟨q1,q2⟩;exact absurd Oa q1;exact⟨q1,hx0▸q2⟩
  subst q1
  replace hS:=hS.given 4 (qr.2.2.2.2.1 hx0)
  replace hS:=Sat.unbundle (l1:= [_,_,_,_]) (l3:= [_]) hS
  exact⟨_,x.vv,_,_,_,_,_,x.s,0,rfl,.inr (.inr ⟨hok,rfl,hc1,q2,eT hx0⟩),hxP,hxX,hxY,hS.pk [4,5,6,7]⟩
 ·
  intro Dk t rest w qs hS
  exact qs.elim
variable {ml y:Of} {mf:Og}
theorem wc_top{p:Prob}(hp:p.Ok){x:Of}(hx:∀i,0<=i->i<p.m->0<=x i/\x i<=p.D i)(hu:ZL p x p.m.toNat<=p.stock+p.kerf):Zd (fun i=>x i*y i) p.m.toNat<=WC p y:=by
 have hm:=hp.m1;have hk:=hp.k1
 refine Znt (t:=XU p y) (by show 0<=p.m;omega) (fun i i0 i1=> ?_) hx hu
 have:=hp.all i i0 i1
 unfold Prob.each at this
 show 1<=p.L i+p.kerf
 omega
theorem Zcw{p:Prob}(hp:p.Ok)(hy:∀i,0<=i->i<p.m->0<=y i){W q:Int}{u:Nat}{x:Of}{f:Og}{D:Of}(hx:∀j,0<=j->j<(u:Int)->0<=x j)(hW:∀j,0<=j->j<(u:Int)->Zd (fun k=>f j k*y k) p.m.toNat<=W)
   (hb:∀k,0<=k->k<p.m->D k*q<=Zd (fun j=>f j k*x j) u):Zd (fun k=>D k*y k) p.m.toNat*q<=Zd x u*W:=by
 have hm:=hp.m1
 have e1:Zd (fun k=>D k*y k) p.m.toNat*q=Zd (fun k=>D k*q*y k) p.m.toNat:=by
   rw [<-Yy];exact Zj fun k _ _=>by grind
 have e2:Zd (fun k=>D k*q*y k) p.m.toNat<=Zd (fun k=>Zd (fun j=>f j k*x j) u*y k) p.m.toNat:=Z6 fun k k0 k1=>Int.mul_le_mul_of_nonneg_right (hb k k0 Oa) (hy k k0 Oa)
 have e3:Zd (fun k=>Zd (fun j=>f j k*x j) u*y k) p.m.toNat=Zd (fun k=>Zd (fun j=>f j k*x j*y k) u) p.m.toNat:=Zj fun k _ _=>(Yy _ _ _).symm
 have e4:Zd (fun k=>Zd (fun j=>f j k*x j*y k) u) p.m.toNat=Zd (fun j=>Zd (fun k=>f j k*x j*y k) p.m.toNat) u:=Vk (fun j k=>f j k*x j*y k) u p.m.toNat
 have e5:Zd (fun j=>Zd (fun k=>f j k*x j*y k) p.m.toNat) u<=Zd (fun j=>x j*W) u:=Z6 fun j j0 j1=>by
   have:Zd (fun k=>f j k*x j*y k) p.m.toNat=Zd (fun k=>f j k*y k) p.m.toNat*x j:=by
     rw [<-Yy];exact Zj fun k _ _=>by grind
   rw [this,Int.mul_comm (x j)]
   exact Int.mul_le_mul_of_nonneg_right (hW j j0 j1) (hx j j0 j1)
 rw [Yy] at e5
 omega
structure MOk (p:Prob) (u:Int) (ml:Of) (mf:Og) (s:So):Prop where
  pats:Kj p u ml mf
  u0:0<=u
  n:s.n=u
  m:s.m=p.m
  d1:1<=s.den
  d2:s.den<=1073741824
  v:0<=s.val/\s.val<=1073741824
  X:∀j,0<=j->j<u->0<=s.X j/\s.X j<=1073741824
  Y:∀i,0<=i->i<p.m->0<=s.Y i/\s.Y i<=1073741824
  rows:∀k,0<=k->k<p.m->p.D k*s.den<=Zd (fun j=>mf j k*s.X j) u.toNat
  cols:∀j,0<=j->j<u->Zd (fun k=>mf j k*s.Y k) p.m.toNat<=s.den
  cX:Zd s.X u.toNat=s.val
  bY:Zd (fun k=>p.D k*s.Y k) p.m.toNat=s.val
theorem MSolveR.ok{p:Prob}{u:Int}{s:So}(hu:0<=u)(h:MSolveR p u ml mf s 0):MOk p u ml mf s:=by
 rcases h with⟨_,_,h⟩|⟨_,_,_,h⟩|⟨_,_,_,_,_,_,h⟩|⟨h1,h2,h3,h4,h5,h6,h7⟩|⟨h1,h2,h3,h4,h5⟩
 · omega
 · omega
 · omega
 · have hm:=h1.1.m1;have hd:=h1.1.d
   subst h6;subst h4
   have z:∀f:Of,Zd (fun k=>f k*0) p.m.toNat=0:=fun f=>by rw [Yy,Int.mul_zero]
   refine⟨h1,Oa,rfl,rfl,by show(1:Int)<=1;decide,by show(1:Int)<=1073741824;decide,⟨Int.le_refl _,by show(0:Int)<=1073741824;decide⟩,fun j a b=>Oa,fun i _ _=>⟨Int.le_refl _,by show(0:Int)<=1073741824;decide⟩,fun k k0 k1=> ?_,fun j a b=>Oa,rfl,z p.D⟩
   have:=h5 k k0 Oa
   show p.D k*1<=0
   omega
 · have hm:=h1.1.m1
   have hc:=SolveR.chk (p:=Ziy p u mf) (by show 0<=p.m;omega) h5 rfl
   have hv:s.val=Zd s.X u.toNat:=by
     have:=hc.cX
     rw [<-this];exact Zj fun k _ _=>by show 1*s.X k=_;omega
   refine⟨h1,Oa,hc.n,hc.m,hc.d1,hc.d2,⟨?_,hc.v.2⟩,hc.X,hc.Y,fun k k0 k1=> ?_,fun j j0 j1=> ?_,hv.symm,hc.bY⟩
   · rw [hv];exact Z4 fun j j0 j1=>(hc.X j j0 (by show j<u;omega)).1
   · exact hc.rows k k0 k1
   · have:=hc.cols j j0 j1
     have e:(Ziy p u mf).c j*s.den=s.den:=by show 1*s.den=_;omega
     rw [e] at this;exact this
theorem Zeh{p:Prob}{n:Int}{a:Of}(h:Yd p n a):(∀i,0<=i->i<p.m->0<=a i/\a i<=p.D i)/\ZL p a p.m.toNat<=p.stock+p.kerf:=
 ⟨fun i i0 i1=>⟨(h.1.all i i0 i1).1,h.2 i i0 (by rw [h.1.eq];exact i1)⟩,h.1.used⟩
theorem MOk.bound{p:Prob}{u:Int}{s:So}(h:MOk p u ml mf s)(hy:∀i,0<=i->i<p.m->0<=y i):Zd (fun k=>p.D k*y k) p.m.toNat*s.den<=s.val*WC p y:=by
 have hp:=h.pats.1
 have hu:=h.u0
 rw [<-h.cX]
 refine Zcw hp hy (fun j j0 j1=>(h.X j j0 Oa).1) (fun j j0 j1=> ?_) h.rows
 obtain⟨h1,h2⟩:=Zeh (h.pats.2 j j0 Oa)
 exact wc_top hp h1 h2
theorem ZgH{p:Prob}{s:So}(h:ZhR p s):WC p s.Y<=s.den:=by
 obtain⟨na,a,worth,h1,h2⟩:=h
 rcases h1 with⟨_,_,_,h1⟩|⟨_,_,_,_,h1,_⟩
 · omega
 · omega
theorem MOk.own{p:Prob}{u:Int}{s:So}(h:MOk p u ml mf s)(hc:WC p s.Y<=s.den):s.val*s.den=s.val*WC p s.Y:=by
 have h1:=h.bound (y:=s.Y) fun i i0 i1=>(h.Y i i0 i1).1
 rw [h.bY] at h1
 have:=Int.mul_le_mul_of_nonneg_left hc h.v.1
 omega
theorem ColR.okS{p:Prob}{u e:Int}{s:So}(hu:0<=u)(h:ColR p u ml mf s e)(he:e=0):MOk p u ml mf s/\WC p s.Y<=s.den:=by
 rcases h with⟨_,_,_,h⟩|⟨_,h,_⟩|⟨_,_,_,h1,h2⟩
 · omega
 · exact absurd he h
 · exact⟨h1.ok hu,ZgH h2⟩
end Go.Proofs.YtpnamgfdakfccaaGreat
namespace Go.Proofs.Gw
open Go Go.RowKit
def skp(i k:Int):Int:=if k<i then k else k+1
def alt(i:Int):Int:=if i%2=0 then 1 else-1
def det:Nat->(Og)->Int
  |0,_=>1
  |n+1,A=>Zd (fun i=>alt i*A i 0*det n (fun k m=>A (skp i k) (m+1))) (n+1)
def frm(p:Lp)(q m:Int):Int:=if q<p.n then(if m=q+1 then 1 else 0) else if m=0 then-p.b (q-p.n) else p.A (q-p.n) (m-1)
def cst(p:Lp)(m:Int):Int:=if m=0 then 0 else p.c (m-1)
def slt(p:Lp)(t:Tb)(k m:Int):Int:=if k=0 then(if m=0 then 1 else 0) else frm p (t.F (k-1)) m
def lft(p:Lp)(t:Tb)(i m:Int):Int:=if i=0 then cst p m else frm p (t.B (i-1)) m
end Go.Proofs.Gw
namespace Go.Proofs.Gw
variable {c e hi i j k lo m mid x y z:Int} {a b t:Of}
def PermOn(lo hi:Int)(a b:Of):Prop:=∃p q:Of,(∀k,p (q k)=k/\q (p k)=k)/\(∀k,¬(lo<=k/\k<hi)->p k=k)/\∀k,b k=a (p k)
theorem PermOn.refl(lo hi:Int)(a:Of):PermOn lo hi a a:=⟨id,id,fun _=>⟨rfl,rfl⟩,fun _ _=>rfl,fun _=>rfl⟩
theorem PermOn.trans{c:Of}(h:PermOn lo hi a b)(k:PermOn lo hi b c):PermOn lo hi a c:=by
 obtain⟨p,q,h1,h2,h3⟩:=h
 obtain⟨p',q',k1,k2,k3⟩:=k
 refine⟨fun x=>p (p' x),fun x=>q' (q x),fun x=>⟨?_,?_⟩,fun x hx=> ?_,fun x=> ?_⟩
 · show p (p' (q' (q x)))=x
   rw [(k1 _).1,(h1 _).1]
 · show q' (q (p (p' x)))=x
   rw [(h1 _).2,(k1 _).2]
 · show p (p' x)=x
   rw [k2 x hx,h2 x hx]
 · rw [k3,h3]
theorem PermOn.mono{lo' hi':Int}(h:PermOn lo hi a b)(h0:lo'<=lo)(h1:hi<=hi'):PermOn lo' hi' a b:=by
 obtain⟨p,q,h2,h3,h4⟩:=h
 exact⟨p,q,h2,fun k hk=>h3 k Oa,h4⟩
theorem PermOn.out(h:PermOn lo hi a b)(hk:¬(lo<=k/\k<hi)):b k=a k:=by
 obtain⟨p,q,h2,h3,h4⟩:=h
 rw [h4,h3 k hk]
theorem PermOn.fr(h:PermOn lo hi a b)(k0:lo<=k)(k1:k<hi):∃j,lo<=j/\j<hi/\b k=a j:=by
 obtain⟨p,q,h2,h3,h4⟩:=h
 by_cases hj:lo<=p k/\p k<hi
 · exact⟨p k,hj.1,hj.2,h4 k⟩
 · have h5:=h3 (p k) hj
   have h6:p k=k:=by
     have:=congrArg q h5
     rw [(h2 _).2,(h2 _).2] at this;exact this
   rw [h6] at hj
   exact absurd ⟨k0,k1⟩ hj
theorem PermOn.symm{lo hi:Int}{a b:Of}(h:PermOn lo hi a b):PermOn lo hi b a:=by
 obtain⟨p,q,h2,h3,h4⟩:=h
 refine⟨q,p,fun k=>⟨(h2 k).2,(h2 k).1⟩,fun k hk=> ?_,fun k=> ?_⟩
 · have:=congrArg q (h3 k hk)
   rw [(h2 k).2] at this;exact this.symm
 · rw [h4,(h2 k).1]
def swp(a:Of)(i j:Int):Of:=fun k=>if k=i then a j else if k=j then a i else a k
theorem Ta(i0:lo<=i)(i1:i<hi)(j0:lo<=j)(j1:j<hi):PermOn lo hi a (swp a i j):=by
 have e:∀k,(fun k=>if k=i then j else if k=j then i else k:Of) ((fun k=>if k=i then j else if k=j then i else k:Of) k)=k:=fun k=>by
   dsimp only;split<;>(try split)<;>(try split)<;>(try split)<;>omega
 refine⟨fun k=>if k=i then j else if k=j then i else k,fun k=>if k=i then j else if k=j then i else k,fun k=>⟨e k,e k⟩,fun k hk=> ?_,fun k=> ?_⟩
 · dsimp only;rw [if_neg Oa,if_neg Oa]
 · unfold swp;dsimp only;split
   · rfl
   · split<;>rfl
def Srt(R:Int->Int->Prop)(lo hi:Int)(a:Of):Prop:=∀i j,lo<=i->i<j->j<hi->R (a i) (a j)
theorem Srt.mono{R:Int->Int->Prop}{lo' hi':Int}(h:Srt R lo hi a)(h0:lo<=lo')(h1:hi'<=hi):Srt R lo' hi' a:=fun i j i0 ij j1=>h i j Oa ij Oa
theorem Srt.congr{R:Int->Int->Prop}(h:Srt R lo hi a)(e:∀k,lo<=k->k<hi->b k=a k):Srt R lo hi b:=fun i j i0 ij j1=>by
 rw [e i i0 Oa,e j Oa j1];exact h i j i0 ij j1
def Tie(lt:Int->Int->Prop):Int->Int->Prop:=fun x y=>lt x y\/(¬lt y x/\x<y)
structure Swo (lt:Int->Int->Prop):Prop where
  asym:∀x y,lt x y->¬lt y x
  trans:∀x y z,lt x y->lt y z->lt x z
  inc:∀x y z,¬lt x y->¬lt y z->¬lt x z
theorem Tie.trans{lt:Int->Int->Prop}(h:Swo lt){x y z:Int}(a:Tie lt x y)(b:Tie lt y z):Tie lt x z:=by
 rcases a with a|⟨a1,a2⟩<;>rcases b with b|⟨b1,b2⟩
 · exact .inl (h.trans _ _ _ a b)
 · left;exact Classical.byContradiction fun hn=>h.inc _ _ _ hn b1 a
 · left;exact Classical.byContradiction fun hn=>h.inc _ _ _ a1 hn b
 · exact .inr ⟨h.inc _ _ _ b1 a1,Oa⟩
theorem Tie.of{lt:Int->Int->Prop}(h:Swo lt)(hxy:x<y)(hn:¬lt y x):Tie lt x y:=by
 by_cases hl:lt x y
 · exact .inl hl
 · exact .inr ⟨hn,hxy⟩
def Parted(lo c hi:Int)(a:Of):Prop:=∀i j,lo<=i->i<c->c<=j->j<hi->a i<a j
def UP(lo hi:Int)(a:Of):Prop:=∀i j,lo<=i->i<j->j<hi->a i<a j
structure Ins (lt:Int->Int->Prop) (lo i j:Int) (a b:Of):Prop where
  perm:PermOn lo (i+1) a b
  rest:∀p q,lo<=p->p<q->q<=i->p≠j->q≠j->Tie lt (b p) (b q)
  less:∀q,j<q->q<=i->Tie lt (b j) (b q)
  big:∀p,lo<=p->p<j->b p<b j
theorem Ins.start{lt:Int->Int->Prop}(i0:lo<=i)(hs:Srt (Tie lt) lo i a)(hb:∀p,lo<=p->p<i->a p<a i):Ins lt lo i i a a:=
 ⟨.refl _ _ _,fun p q p0 pq q1 pi qi=>hs p q p0 pq Oa,fun q q0 q1=>Oa,hb⟩
theorem Ins.step{lt:Int->Int->Prop}(j0:lo<j)(j1:j<=i)(h:Ins lt lo i j a b)(hl:lt (b j) (b (j-1))):Ins lt lo i (j-1) a (swp b j (j-1)):=by
 have e0:swp b j (j-1) j=b (j-1):=by unfold swp;rw [if_pos rfl]
 have e1:swp b j (j-1) (j-1)=b j:=by unfold swp;rw [if_neg Oa,if_pos rfl]
 have e2:∀k,k≠j->k≠j-1->swp b j (j-1) k=b k:=fun k h1 h2=>by unfold swp;rw [if_neg h1,if_neg h2]
 refine⟨h.perm.trans (Ta Oa Oa Oa Oa),fun p q p0 pq q1 pj qj=> ?_,fun q q0 q1=> ?_,fun p p0 p1=> ?_⟩
 · by_cases hp:p=j
   · rw [hp,e0,e2 q Oa qj];exact h.rest (j-1) q Oa Oa q1 Oa Oa
   · rw [e2 p hp pj]
     by_cases hq:q=j
     · rw [hq,e0];exact h.rest p (j-1) p0 Oa Oa hp Oa
     · rw [e2 q hq qj];exact h.rest p q p0 pq q1 hp hq
 · rw [e1]
   by_cases hq:q=j
   · rw [hq,e0];exact .inl hl
   · rw [e2 q hq Oa];exact h.less q Oa q1
 · rw [e1,e2 p Oa Oa];exact h.big p p0 Oa
theorem Ins.fin{lt:Int->Int->Prop}(hw:Swo lt)(j0:lo<=j)(j1:j<=i)(h:Ins lt lo i j a b)(hl:j=lo\/¬lt (b j) (b (j-1))):Srt (Tie lt) lo (i+1) b:=fun p q p0 pq q1=>by
 have hle:∀p,lo<=p->p<j->Tie lt (b p) (b j):=fun p p0 p1=>by
   rcases hl with hl|hl
   · omega
   · have h1:Tie lt (b (j-1)) (b j):=Tie.of hw (h.big (j-1) Oa Oa) hl
     by_cases hp:p=j-1
     · rw [hp];exact h1
     · exact(h.rest p (j-1) p0 Oa Oa Oa Oa).trans hw h1
 by_cases hp:p=j
 · rw [hp];exact h.less q Oa Oa
 · by_cases hq:q=j
   · rw [hq];exact hle p p0 Oa
   · exact h.rest p q p0 pq Oa hp hq
def swr(a:Of)(x y n:Int):Of:=fun k=>if x<=k/\k<x+n then a (k-x+y) else if y<=k/\k<y+n then a (k-y+x) else a k
theorem ZaR(a:Of)(x y:Int):swr a x y 0=a:=by
 funext k;unfold swr;rw [if_neg Oa,if_neg Oa]
theorem ZaS (h0:0<=i) (h:x+i<y\/y+i<x) (hd:x+i<y\/y+i<x) (hx:x<=y):swp (swr a x y i) (x+i) (y+i)=swr a x y (i+1):=by
 funext k;unfold swp swr
 by_cases h1:k=x+i
 · subst h1
   rw [if_pos rfl,if_neg Oa,if_neg Oa,if_pos Oa];congr 1<;>omega
 · rw [if_neg h1]
   by_cases h2:k=y+i
   · subst h2
     rw [if_pos rfl,if_neg Oa,if_neg Oa,if_neg Oa,if_pos Oa];congr 1<;>omega
   · rw [if_neg h2]
     by_cases h3:x<=k/\k<x+i
     · rw [if_pos h3,if_pos Oa]
     · rw [if_neg h3]
       by_cases h4:y<=k/\k<y+i
       · rw [if_pos h4,if_neg Oa,if_pos Oa]
       · rw [if_neg h4,if_neg Oa,if_neg Oa]
def rot(a:Of)(lo c hi:Int):Of:=fun k=>if lo<=k/\k<lo+(hi-c) then a (k+(c-lo)) else if lo+(hi-c)<=k/\k<hi then a (k-(hi-c)) else a k
theorem VF (h0:1<=j) (h:j<i):rot (swr a (c-i) c j) (c-i+j) c (c+j)=rot a (c-i) c (c+j):=by
 funext k;unfold rot swr
 by_cases h1:c-i<=k/\k<c-i+j
 · rw [if_neg Oa,if_neg Oa,if_pos h1,if_pos Oa];congr 1<;>omega
 · by_cases h2:c-i+j<=k/\k<c-i+j+j
   · rw [if_pos Oa,if_neg (show¬(c-i<=k/\k<c-i+(c+j-c)) by omega),if_pos (show c-i+(c+j-c)<=k/\k<c+j by omega)]
     by_cases h3:c-i<=k+(c-(c-i+j))/\k+(c-(c-i+j))<c-i+j
     · exfalso;omega
     · rw [if_neg h3]
       by_cases h4:c<=k+(c-(c-i+j))/\k+(c-(c-i+j))<c+j
       · rw [if_pos h4];congr 1<;>omega
       · exfalso;omega
   · by_cases h3:c-i+j+j<=k/\k<c+j
     · rw [if_neg (by(try omega)),if_pos (by(try omega)),if_neg (by(try omega)),if_neg (by(try omega)),if_neg (by(try omega)),if_pos (by(try omega))]
     · rw [if_neg Oa,if_neg Oa,if_neg Oa,if_neg Oa,if_neg Oa,if_neg Oa]
theorem WW(h0:1<=i)(h:i<j):rot (swr a (c-i) (c+j-i) i) (c-i) c (c+j-i)=rot a (c-i) c (c+j):=by
 funext k;unfold rot swr
 by_cases h1:c-i<=k/\k<c+j-i-i
 · rw [if_pos Oa,if_neg Oa,if_neg Oa,if_pos Oa]
 · by_cases h2:c+j-i-i<=k/\k<c+j-i
   · by_cases h5:k<c-i
     · exfalso;omega
     · rw [if_neg Oa,if_pos Oa,if_pos Oa,if_pos Oa];congr 1<;>omega
   · by_cases h3:c+j-i<=k/\k<c+j
     · rw [if_neg Oa,if_neg Oa,if_neg Oa,if_pos Oa,if_neg Oa,if_pos Oa];congr 1<;>omega
     · rw [if_neg Oa,if_neg Oa,if_neg Oa,if_neg Oa,if_neg Oa,if_neg Oa]
theorem Za5(h0:0<=i):swr a (c-i) c i=rot a (c-i) c (c+i):=by
 funext k;unfold rot swr
 by_cases h1:c-i<=k/\k<c
 · rw [if_pos Oa,if_pos Oa];congr 1<;>omega
 · by_cases h2:c<=k/\k<c+i
   · rw [if_neg Oa,if_pos Oa,if_neg Oa,if_pos Oa];congr 1<;>omega
   · rw [if_neg Oa,if_neg Oa,if_neg Oa,if_neg Oa]
theorem Yp(h0:lo<=c)(h1:c<=hi):PermOn lo hi a (rot a lo c hi):=by
 refine⟨fun k=>if lo<=k/\k<lo+(hi-c) then k+(c-lo) else if lo+(hi-c)<=k/\k<hi then k-(hi-c) else k,fun k=>if lo<=k/\k<c then k+(hi-c) else if c<=k/\k<hi then k-(c-lo) else k,fun k=>⟨?_,?_⟩,fun k hk=> ?_,fun k=> ?_⟩
 · dsimp only
   by_cases g1:lo<=k/\k<c
   · rw [if_pos g1,if_neg Oa,if_pos Oa];omega
   · rw [if_neg g1]
     by_cases g2:c<=k/\k<hi
     · rw [if_pos g2,if_pos Oa];omega
     · rw [if_neg g2,if_neg Oa,if_neg Oa]
 · dsimp only
   by_cases g1:lo<=k/\k<lo+(hi-c)
   · rw [if_pos g1,if_neg Oa,if_pos Oa];omega
   · rw [if_neg g1]
     by_cases g2:lo+(hi-c)<=k/\k<hi
     · rw [if_pos g2,if_pos Oa];omega
     · rw [if_neg g2,if_neg Oa,if_neg Oa]
 · dsimp only;rw [if_neg Oa,if_neg Oa]
 · unfold rot;dsimp only;split
   · rfl
   · split<;>rfl
theorem Za1(a:Of)(lo:Int):rot a lo (lo+1) (lo+1)=a:=by
 funext k;unfold rot
 by_cases h:lo<=k/\k<lo+1
 · rw [if_neg Oa,if_pos Oa];congr 1<;>omega
 · rw [if_neg Oa,if_neg Oa]
theorem Za2(h:lo<=k):swp (rot a lo (lo+1) (k+1)) k (k+1)=rot a lo (lo+1) (k+1+1):=by
 funext j;unfold swp rot
 by_cases h1:j=k
 · subst h1
   rw [if_pos rfl,if_neg Oa,if_neg Oa,if_pos Oa];congr 1<;>omega
 · rw [if_neg h1]
   by_cases h2:j=k+1
   · subst h2
     rw [if_pos rfl,if_neg Oa,if_pos Oa,if_neg Oa,if_pos Oa];congr 1<;>omega
   · rw [if_neg h2]
     by_cases h3:lo<=j/\j<k
     · rw [if_pos Oa,if_pos Oa]
     · rw [if_neg Oa,if_neg Oa,if_neg Oa,if_neg Oa]
theorem ZaZ(a:Of)(c:Int):rot a c c (c+1)=a:=by
 funext k;unfold rot
 by_cases h:c<=k/\k<c+1
 · rw [if_pos Oa];congr 1<;>omega
 · rw [if_neg Oa,if_neg Oa]
theorem Za0(h:k<=c):swp (rot a k c (c+1)) k (k-1)=rot a (k-1) c (c+1):=by
 funext j;unfold swp rot
 by_cases h1:j=k
 · subst h1
   rw [if_pos rfl,if_neg Oa,if_neg Oa,if_neg Oa,if_pos Oa];congr 1<;>omega
 · rw [if_neg h1]
   by_cases h2:j=k-1
   · subst h2
     rw [if_pos rfl,if_pos Oa,if_pos Oa];congr 1<;>omega
   · rw [if_neg h2]
     by_cases h3:k+1<=j/\j<c+1
     · rw [if_neg Oa,if_pos Oa,if_neg Oa,if_pos Oa]
     · rw [if_neg Oa,if_neg Oa,if_neg Oa,if_neg Oa]
theorem RD {lt:Int->Int->Prop} (hw:Swo lt) {a b:Int} {s:Of} (hs:Srt (Tie lt) (a+1) b s) (hb:∀j,a+1<=j->j<b->s a<s j) (e0:a+1<=e) (e1:e<=b)
   (h1:e=a+1\/lt (s (e-1)) (s a)) (h2:e=b\/¬lt (s e) (s a)):Srt (Tie lt) a b (rot s a (a+1) e):=fun i j i0 ij j1=>by
 have r1:∀k,a<=k->k<e-1->rot s a (a+1) e k=s (k+1):=fun k k0 k1=>by unfold rot;rw [if_pos Oa];congr 1<;>omega
 have r2:rot s a (a+1) e (e-1)=s a:=by unfold rot;rw [if_neg Oa,if_pos Oa];congr 1<;>omega
 have r3:∀k,e<=k->rot s a (a+1) e k=s k:=fun k k0=>by unfold rot;rw [if_neg Oa,if_neg Oa]
 by_cases hi:i<e-1
 · rw [r1 i i0 hi]
   by_cases hj:j<e-1
   · rw [r1 j Oa hj];exact hs _ _ Oa Oa Oa
   · by_cases hj2:j=e-1
     · rw [hj2,r2]
       rcases h1 with h1|h1
       · omega
       · by_cases hie:i+1=e-1
         · rw [hie];exact .inl h1
         · exact(hs (i+1) (e-1) Oa Oa Oa).trans hw (.inl h1)
     · rw [r3 j Oa];exact hs _ _ Oa Oa j1
 · by_cases hi2:i=e-1
   · rw [hi2,r2,r3 j Oa]
     rcases h2 with h2|h2
     · omega
     · have h3:Tie lt (s a) (s e):=Tie.of hw (hb e e0 Oa) h2
       by_cases hje:j=e
       · rw [hje];exact h3
       · exact h3.trans hw (hs e j e0 Oa j1)
   · rw [r3 i Oa,r3 j Oa];exact hs i j Oa ij j1
theorem Ts {lt:Int->Int->Prop} (hw:Swo lt) {a:Int} {s:Of} (hs:Srt (Tie lt) a m s) (hb:∀i,a<=i->i<m->s i<s m) (e0:a<=e) (e1:e<=m)
   (h1:e=a\/¬lt (s m) (s (e-1))) (h2:e=m\/lt (s m) (s e)):Srt (Tie lt) a (m+1) (rot s e m (m+1)):=fun i j i0 ij j1=>by
 have r1:∀k,k<e->rot s e m (m+1) k=s k:=fun k k0=>by unfold rot;rw [if_neg Oa,if_neg Oa]
 have r2:rot s e m (m+1) e=s m:=by unfold rot;rw [if_pos Oa];congr 1<;>omega
 have r3:∀k,e<k->k<m+1->rot s e m (m+1) k=s (k-1):=fun k k0 k1=>by unfold rot;rw [if_neg Oa,if_pos Oa];congr 1<;>omega
 have hlo:∀i,a<=i->i<e->Tie lt (s i) (s m):=fun i i0 i1=>by
   rcases h1 with h1|h1
   · omega
   · have h3:Tie lt (s (e-1)) (s m):=Tie.of hw (hb (e-1) Oa Oa) h1
     by_cases hie:i=e-1
     · rw [hie];exact h3
     · exact(hs i (e-1) i0 Oa Oa).trans hw h3
 by_cases hi:i<e
 · rw [r1 i hi]
   by_cases hj:j<e
   · rw [r1 j hj];exact hs i j i0 ij Oa
   · by_cases hj2:j=e
     · rw [hj2,r2];exact hlo i i0 hi
     · rw [r3 j Oa j1];exact hs i (j-1) i0 Oa Oa
 · by_cases hi2:i=e
   · rw [hi2,r2,r3 j Oa j1]
     rcases h2 with h2|h2
     · omega
     · by_cases hje:j-1=e
       · rw [hje];exact .inl h2
       · exact Tie.trans hw (.inl h2) (hs e (j-1) e0 Oa Oa)
   · rw [r3 i Oa Oa,r3 j Oa j1];exact hs (i-1) (j-1) Oa Oa Oa
structure Halves (lt:Int->Int->Prop) (a s mid e b:Int) (t:Of):Prop where
  l1:Srt (Tie lt) a s t
  l2:Srt (Tie lt) s mid t
  r1:Srt (Tie lt) mid e t
  r2:Srt (Tie lt) e b t
  pl:Parted a s mid t
  pr:Parted mid e b t
  cross:∀i j,a<=i->i<mid->mid<=j->j<b->Tie lt (t i) (t j)
theorem VM {lt:Int->Int->Prop} (hw:Swo lt) {a b s:Int} (h1:Srt (Tie lt) a m t) (h2:Srt (Tie lt) m b t) (hp:Parted a m b t) (he:s+e=mid+m) (s0:a<=s) (s1:s<=m) (e0:m<=e) (e1:e<=b)
   (g1:s=a\/e=b\/¬lt (t e) (t (s-1))) (g2:s=m\/e=m\/lt (t (e-1)) (t s)):Halves lt a s mid e b (rot t s m e):=by
 have r0:∀k,k<s->rot t s m e k=t k:=fun k k0=>by unfold rot;rw [if_neg Oa,if_neg Oa]
 have r1:∀k,s<=k->k<mid->rot t s m e k=t (k+(m-s)):=fun k k0 k1=>by unfold rot;rw [if_pos Oa]
 have r2:∀k,mid<=k->k<e->rot t s m e k=t (k-(e-m)):=fun k k0 k1=>by unfold rot;rw [if_neg Oa,if_pos Oa]
 have r3:∀k,e<=k->rot t s m e k=t k:=fun k k0=>by unfold rot;rw [if_neg Oa,if_neg Oa]
 have c1:∀i j,a<=i->i<s->e<=j->j<b->Tie lt (t i) (t j):=fun i j i0 i1 j0 j1=>by
   rcases g1 with g1|g1|g1
   · omega
   · omega
   · have h3:Tie lt (t (s-1)) (t e):=Tie.of hw (hp (s-1) e Oa Oa e0 Oa) g1
     have h4:Tie lt (t i) (t e):=by
       by_cases hi:i=s-1
       · rw [hi];exact h3
       · exact(h1 i (s-1) i0 Oa Oa).trans hw h3
     by_cases hj:j=e
     · rw [hj];exact h4
     · exact h4.trans hw (h2 e j e0 Oa j1)
 have c2:∀i j,m<=i->i<e->s<=j->j<m->Tie lt (t i) (t j):=fun i j i0 i1 j0 j1=>by
   rcases g2 with g2|g2|g2
   · omega
   · omega
   · have h4:Tie lt (t i) (t s):=by
       by_cases hi:i=e-1
       · rw [hi];exact .inl g2
       · exact(h2 i (e-1) i0 Oa Oa).trans hw (.inl g2)
     by_cases hj:j=s
     · rw [hj];exact h4
     · exact h4.trans hw (h1 s j Oa Oa j1)
 refine⟨fun i j i0 ij j1=> ?_,fun i j i0 ij j1=> ?_,fun i j i0 ij j1=> ?_,fun i j i0 ij j1=> ?_,fun i j i0 i1 j0 j1=> ?_,fun i j i0 i1 j0 j1=> ?_,fun i j i0 i1 j0 j1=> ?_⟩
 · rw [r0 i Oa,r0 j j1];exact h1 i j i0 ij Oa
 · rw [r1 i i0 Oa,r1 j Oa j1];exact h2 _ _ Oa Oa Oa
 · rw [r2 i i0 Oa,r2 j Oa j1];exact h1 _ _ Oa Oa Oa
 · rw [r3 i i0,r3 j Oa];exact h2 _ _ Oa Oa Oa
 · rw [r0 i i1,r1 j j0 j1];exact hp _ _ i0 Oa Oa Oa
 · rw [r2 i i0 i1,r3 j j0];exact hp _ _ Oa Oa Oa Oa
 · by_cases hi:i<s
   · rw [r0 i hi]
     by_cases hj:j<e
     · rw [r2 j j0 hj];exact h1 _ _ Oa Oa Oa
     · rw [r3 j Oa];exact c1 i j i0 hi Oa j1
   · rw [r1 i Oa i1]
     by_cases hj:j<e
     · rw [r2 j j0 hj];exact c2 _ _ Oa Oa Oa Oa
     · rw [r3 j Oa];exact h2 _ _ Oa Oa Oa
theorem Halves.left{lt:Int->Int->Prop}{a s b:Int}(h:Halves lt a s mid e b t)(hn:¬(a<s/\s<mid))(s0:a<=s)(s1:s<=mid):Srt (Tie lt) a mid t:=by
 by_cases h1:a<s
 · obtain rfl:s=mid:=Oa
   exact h.l1
 · obtain rfl:a=s:=Oa
   exact h.l2
theorem Halves.right{lt:Int->Int->Prop}{a s b:Int}(h:Halves lt a s mid e b t)(hn:¬(mid<e/\e<b))(s0:mid<=e)(s1:e<=b):Srt (Tie lt) mid b t:=by
 by_cases h1:mid<e
 · obtain rfl:e=b:=Oa
   exact h.r1
 · obtain rfl:mid=e:=Oa
   exact h.r2
theorem Halves.join{lt:Int->Int->Prop}(hw:Swo lt){a s b:Int}{u v:Of}(h:Halves lt a s mid e b t)(a0:a<=mid)(b0:mid<=b)(h1:PermOn a mid t u)(h2:Srt (Tie lt) a mid u)(h3:PermOn mid b u v)(h4:Srt (Tie lt) mid b v):Srt (Tie lt) a b v:=fun i j i0 ij j1=>by
 by_cases hj:j<mid
 · rw [h3.out Oa,h3.out Oa];exact h2 i j i0 ij hj
 · by_cases hi:i<mid
   · rw [h3.out Oa]
     obtain⟨i',g0,g1,g2⟩:=h1.fr i0 hi
     obtain⟨j',f0,f1,f2⟩:=h3.fr (show mid<=j by omega) j1
     rw [g2,f2,h1.out Oa]
     exact h.cross i' j' g0 g1 f0 f1
   · exact h4 i j Oa ij j1
theorem Parted.keep(h:Parted lo c hi a)(hp:PermOn x y a b)(x0:lo<=x)(y0:y<=hi)(hc:y<=c\/c<=x):Parted lo c hi b:=fun i j i0 i1 j0 j1=>by
 have gi:∃i',lo<=i'/\i'<c/\b i=a i':=by
   by_cases hx:x<=i/\i<y
   · obtain⟨i',g0,g1,g2⟩:=hp.fr hx.1 hx.2
     exact⟨i',Oa,Oa,g2⟩
   · exact⟨i,i0,i1,hp.out hx⟩
 have gj:∃j',c<=j'/\j'<hi/\b j=a j':=by
   by_cases hx:x<=j/\j<y
   · obtain⟨j',g0,g1,g2⟩:=hp.fr hx.1 hx.2
     exact⟨j',Oa,Oa,g2⟩
   · exact⟨j,j0,j1,hp.out hx⟩
 obtain⟨i',a1,a2,a3⟩:=gi
 obtain⟨j',b1,b2,b3⟩:=gj
 rw [a3,b3];exact h i' j' a1 a2 b1 b2
def Runs_(lt:Int->Int->Prop)(s n x y:Int)(t:Of):Prop:=∀c,x<=c->c<y->s∣c->Srt (Tie lt) c (min (c+s) n) t/\Parted 0 c n t
theorem Runs_.keep{lt:Int->Int->Prop}{s n x y p q:Int}{t u:Of}(h:Runs_ lt s n x y t)(hp:PermOn p q t u)(p0:0<=p)(q0:q<=n)(hc:∀c,x<=c->c<y->s∣c->min (c+s) n<=p/\c<=p\/q<=c):Runs_ lt s n x y u:=fun c c0 c1 cd=>by
 have h1:=h c c0 c1 cd
 have h2:=hc c c0 c1 cd
 exact⟨h1.1.congr fun k k0 k1=>hp.out Oa,h1.2.keep hp p0 q0 Oa⟩
theorem U0{s a:Int}(hs:0<s)(h1:s∣c)(h2:s∣a)(h:c<a):c+s<=a:=by
 have:=Int.le_of_dvd (show 0<a-c by omega) (Int.dvd_sub h2 h1)
 omega
theorem PermOn.dom{n N:Int}(h:PermOn lo hi a b)(h0:0<=lo)(h1:hi<=n\/n<=lo)(hd:∀k,0<=k->k<n->0<=a k/\a k<N):∀k,0<=k->k<n->0<=b k/\b k<N:=fun k k0 k1=>by
 by_cases hk:lo<=k/\k<hi
 · obtain⟨j,j0,j1,j2⟩:=h.fr hk.1 hk.2
   rw [j2];exact hd j Oa Oa
 · rw [h.out hk];exact hd k k0 k1
theorem Zds{a b:Int}{s:Of}(hp:PermOn a i s t)(qN:UP a b s)(hi:i<b):∀p,a<=p->p<i->t p<t i:=fun p p0 p1=>by
 obtain⟨j,j0,j1,j2⟩:=hp.fr p0 p1
 rw [j2,hp.out Oa];exact qN j i j0 j1 hi
theorem VE(h0:x<=m)(h1:m<=e)(h:¬(x<m/\m<e)):rot a x m e=a:=by
 funext k;unfold rot
 by_cases g1:x<=k/\k<x+(e-m)
 · rw [if_pos g1];congr 1;omega
 · rw [if_neg g1]
   by_cases g2:x+(e-m)<=k/\k<e
   · rw [if_pos g2];congr 1;omega
   · rw [if_neg g2]
theorem Wm{lt:Int->Int->Prop}{n a b:Int}{s u:Of}(hz:0<z)(qN:UP 0 n s)(hr:Runs_ lt z n 0 a t)(a0:0<=a)(hd:z∣a)(hp:PermOn 0 a s t)(hq:PermOn a b t u)(hs:Srt (Tie lt) a b u)(hb:b=a+z/\b<=n\/b=n/\n<a+z)(ab:a<=b):Runs_ lt z n 0 b u:=fun c c0 c1 cd=>by
 by_cases hc:c<a
 · exact(hr.keep hq a0 Oa (fun c c0 c1 cd=> .inl (by have:=U0 hz cd hd c1;omega))) c c0 hc cd
 · have hca:c=a:=by
     by_cases h:a<c
     · have:=U0 hz hd cd h;omega
     · omega
   subst hca
   refine⟨hs.mono Oa Oa,fun i j i0 i1 j0 j1=> ?_⟩
   obtain⟨i',g0,g1,g2⟩:=hp.fr i0 i1
   rw [hq.out Oa,g2]
   by_cases hj:j<b
   · obtain⟨j',f0,f1,f2⟩:=hq.fr j0 hj
     rw [f2,hp.out Oa];exact qN i' j' g0 Oa Oa
   · rw [hq.out Oa,hp.out Oa];exact qN i' j g0 Oa j1
theorem VB{lt:Int->Int->Prop}{n a b:Int}(hz:0<z)(a0:0<=a)(hd:z∣a)(h:Runs_ lt z n a n t)(hm:a+z<b)(hb:b<=a+2*z)(hn:b<=n):Srt (Tie lt) a (a+z) t/\Srt (Tie lt) (a+z) b t/\Parted a (a+z) b t:=by
 have h1:=h a (Int.le_refl _) Oa hd
 have h2:=h (a+z) Oa Oa (Int.dvd_add hd (Int.dvd_refl z))
 exact⟨h1.1.mono Oa Oa,h2.1.mono Oa Oa,fun i j i0 i1 j0 j1=>h2.2 i j Oa i1 j0 Oa⟩
theorem Yl {lt:Int->Int->Prop} {n a b:Int} {u:Of} (hz:0<z) (a0:0<=a) (hd:2*z∣a) (h2:Runs_ lt (2*z) n 0 a t) (h1:Runs_ lt z n a n t) (hq:PermOn a b t u) (hs:Srt (Tie lt) a b u) (hb:b=a+2*z/\b<=n\/b=n/\n<a+2*z) (ab:a<b):Runs_ lt (2*z) n 0 b u/\Runs_ lt z n b n u:=by
 refine⟨fun c c0 c1 cd=> ?_,fun c c0 c1 cd=> ?_⟩
 · by_cases hc:c<a
   · exact(h2.keep hq a0 Oa (fun c c0 c1 cd=> .inl (by have:=U0 Oa cd hd c1;omega))) c c0 hc cd
   · have hca:c=a:=by
       by_cases h:a<c
       · have:=U0 Oa hd cd h;omega
       · omega
     subst hca
     exact⟨hs.mono Oa Oa,(h1 c Oa Oa (Int.dvd_trans (Int.dvd_mul_left 2 z) cd)).2.keep hq a0 Oa (.inr (Int.le_refl _))⟩
 · have h3:=h1 c Oa c1 cd
   exact⟨h3.1.congr fun k k0 k1=>hq.out Oa,h3.2.keep hq a0 Oa (.inl Oa)⟩
theorem Za4{lt:Int->Int->Prop}{n:Int}(h:Runs_ lt z n 0 n t)(hz:n<=z):Srt (Tie lt) 0 n t:=fun i j i0 ij j1=>by
 exact(h 0 (Int.le_refl _) Oa (Int.dvd_zero z)).1 i j i0 ij Oa
theorem Halves.after{lt:Int->Int->Prop}{a s b:Int}{u:Of}(h:Halves lt a s mid e b t)(hp:PermOn a mid t u)(hs:Srt (Tie lt) a mid u)(e0:mid<=e)(e1:e<=b):Halves lt a a mid e b u:=by
 refine⟨fun i j i0 ij j1=>Oa,hs,h.r1.congr fun k k0 k1=>hp.out Oa,h.r2.congr fun k k0 k1=>hp.out Oa,fun i j i0 i1 j0 j1=>Oa,fun i j i0 i1 j0 j1=> ?_,fun i j i0 i1 j0 j1=> ?_⟩
 · rw [hp.out Oa,hp.out Oa];exact h.pr i j i0 i1 j0 j1
 · obtain⟨i',g0,g1,g2⟩:=hp.fr i0 i1
   rw [g2,hp.out (k:=j) Oa];exact h.cross i' j g0 g1 j0 j1
theorem W7{a n:Int}{s:Of}(hp:PermOn 0 a s t)(h:UP 0 n s)(a0:0<=a)(h0:a<=lo)(h1:hi<=n):UP lo hi t:=fun i j i0 ij j1=>by
 rw [hp.out Oa,hp.out Oa];exact h i j Oa ij Oa
theorem VC{lt:Int->Int->Prop}{n a:Int}(hz:0<z)(a0:0<=a)(hd:2*z∣a)(h2:Runs_ lt (2*z) n 0 a t)(h1:Runs_ lt z n a n t)(ha:a<=n)(hm:n<=a+z):Runs_ lt (2*z) n 0 n t:=by
 by_cases h:a<n
 · exact(Yl hz a0 hd h2 h1 (.refl _ _ _) ((h1 a (Int.le_refl _) h (Int.dvd_trans (Int.dvd_mul_left 2 z) hd)).1.mono (Int.le_refl _) Oa) (.inr ⟨rfl,Oa⟩) h).1
 · obtain rfl:a=n:=Oa
   exact h2
end Go.Proofs.Gw
namespace Go.Proofs.Gw
variable {m:Int} {cnt f g ln:Of} {pt:Og} {a b:List Int}
def lst(n:Int)(f:Of):List Int:=(List.range n.toNat).map fun(k:Nat)=>f (k:Int)
theorem YR(n:Int)(f:Of):(lst n f).length=n.toNat:=by simp [lst]
theorem lst_get(n:Int)(f:Of)(k:Nat):(lst n f)[k]? =if(k:Int)<n then some (f k) else none:=by
 unfold lst
 by_cases h:(k:Int)<n
 · rw [if_pos h,List.getElem?_map,List.getElem?_range Oa];rfl
 · rw [if_neg h];simp;omega
theorem Uh{n:Int}(n0:0<=n)(m0:0<=m):lst n f=lst m g↔n=m/\∀k,0<=k->k<n->f k=g k:=by
 constructor
 · intro h
   have hl:=congrArg List.length h
   rw [YR,YR] at hl
   refine⟨by omega,fun k k0 k1=> ?_⟩
   have h1:=congrArg (fun l=>l[k.toNat]?) h
   simp only [lst_get] at h1
   rw [Int.toNat_of_nonneg k0,if_pos k1,if_pos Oa] at h1
   injection h1
 · rintro⟨rfl,h⟩
   apply List.ext_getElem?
   intro k
   rw [lst_get,lst_get]
   by_cases hk:(k:Int)<n
   · rw [if_pos hk,if_pos hk,h k Oa hk]
   · rw [if_neg hk,if_neg hk]
theorem Yh{n:Int}(h:∀k,0<=k->k<n->f k=g k):lst n f=lst n g:=by
 apply List.ext_getElem?
 intro k
 rw [lst_get,lst_get]
 by_cases hk:(k:Int)<n
 · rw [if_pos hk,if_pos hk,h k Oa hk]
 · rw [if_neg hk,if_neg hk]
def olt:Option Int->Option Int->Prop
  |none,some _=>True
  |some x,some y=>x<y
  |_,_=>False
theorem KN:∀a,¬olt a a
 |none=>id
 |some x=>by simp [olt]
theorem RA:∀{a b c},olt a b->olt b c->olt a c
 |none,some _,some _,_,_=>trivial
 |some x,some y,some z,h,k=>by simp only [olt] at*;omega
theorem Ziq:∀{a b:Option Int},a≠b->olt a b\/olt b a
 |none,none,h=>absurd rfl h
 |none,some _,_=> .inl trivial
 |some _,none,_=> .inr trivial
 |some x,some y,h=>by simp only [olt];have:x≠y:=fun e=>h (by rw [e]);omega
def ahd(a b:List Int):Prop:=∃j:Nat,(∀k<j,a[k]? =b[k]?)/\olt b[j]? a[j]?
theorem V3(h:ahd a b):¬ahd b a:=by
 rintro⟨j,h1,h2⟩
 obtain⟨i,g1,g2⟩:=h
 rcases Nat.lt_trichotomy i j with h|h|h
 · rw [h1 i h] at g2;exact KN _ g2
 · subst h;exact KN _ (RA g2 h2)
 · rw [g1 j h] at h2;exact KN _ h2
theorem Ke{c:List Int}(h:ahd a b)(k:ahd b c):ahd a c:=by
 obtain⟨i,g1,g2⟩:=h
 obtain⟨j,h1,h2⟩:=k
 rcases Nat.lt_trichotomy i j with h|h|h
 · exact⟨i,fun k hk=>(g1 k hk).trans (h1 k Oa),by rw [<-h1 i h];exact g2⟩
 · subst h;exact⟨i,fun k hk=>(g1 k hk).trans (h1 k hk),RA h2 g2⟩
 · exact⟨j,fun k hk=>(g1 k Oa).trans (h1 k hk),by rw [g1 j h];exact h2⟩
theorem Zd0(h:a≠b):ahd a b\/ahd b a:=by
 have hex:∃k:Nat,a[k]? ≠b[k]? :=Classical.byContradiction fun hn=>h (List.ext_getElem? fun k=>Classical.byContradiction fun hk=>hn ⟨k,hk⟩)
 have gD:∃k:Nat,a[k]? ≠b[k]? /\∀j<k,a[j]? =b[j]? :=by
   obtain⟨k,hk⟩:=hex
   induction k using Nat.strongRecOn with
   | ind k ih=>
     by_cases hb:∃j,j<k/\a[j]? ≠b[j]?
     · obtain⟨j,hj,hne⟩:=hb;exact ih j hj hne
     · exact⟨k,hk,fun j hj=>Classical.byContradiction fun hne=>hb ⟨j,hj,hne⟩⟩
 obtain⟨k,hk,hlt⟩:=gD
 rcases Ziq hk with h1|h1
 · exact .inr ⟨k,fun j hj=>(hlt j hj).symm,h1⟩
 · exact .inl ⟨k,hlt,h1⟩
theorem ZjJ(a:List Int):¬ahd a a:=fun h=>V3 h h
theorem ZhG{n:Int}{j:Int}(j0:0<=j)(jn:j<n)(jm:j<m)(he:∀k,0<=k->k<j->f k=g k)(h:g j<f j):ahd (lst n f) (lst m g):=by
 refine⟨j.toNat,fun k hk=> ?_,?_⟩
 · rw [lst_get,lst_get,if_pos Oa,if_pos Oa,he k Oa Oa]
 · rw [lst_get,lst_get,Int.toNat_of_nonneg j0,if_pos jn,if_pos jm];exact h
theorem Zb2{n:Int}(m0:0<=m)(h:m<n)(he:∀k,0<=k->k<m->f k=g k):ahd (lst n f) (lst m g):=by
 refine⟨m.toNat,fun k hk=> ?_,?_⟩
 · rw [lst_get,lst_get,if_pos Oa,if_pos Oa,he k Oa Oa]
 · rw [lst_get,lst_get,Int.toNat_of_nonneg m0,if_neg Oa,if_pos h];trivial
theorem ZhF{n:Int}(he:∀k,0<=k->k<n->f k=g k):¬ahd (lst n f) (lst n g):=by
 rw [Yh he];exact ZjJ _
abbrev Us:=List (List Int×Int)
def plL(n:Int)(ln:Of)(pt:Og)(cnt:Of):Us:=(List.range n.toNat).map fun(i:Nat)=>(lst (ln (i:Int)) (pt (i:Int)),cnt (i:Int))
theorem plL_len(n:Int)(ln:Of)(pt:Og)(cnt:Of):(plL n ln pt cnt).length=n.toNat:=by simp [plL]
theorem plL_get(n:Int)(ln:Of)(pt:Og)(cnt:Of)(k:Nat):(plL n ln pt cnt)[k]? =if(k:Int)<n then some (lst (ln k) (pt k),cnt k) else none:=by
 unfold plL
 by_cases h:(k:Int)<n
 · rw [if_pos h,List.getElem?_map,List.getElem?_range Oa];rfl
 · rw [if_neg h];simp;omega
theorem Rv{n:Int}{ln':Of}{pt':Og}{cnt':Of}(h:∀k,0<=k->k<n->ln k=ln' k/\cnt k=cnt' k/\∀j,0<=j->j<ln k->pt k j=pt' k j):plL n ln pt cnt=plL n ln' pt' cnt':=by
 apply List.ext_getElem?
 intro k
 rw [plL_get,plL_get]
 by_cases hk:(k:Int)<n
 · obtain⟨h1,h2,h3⟩:=h k Oa hk
   rw [if_pos hk,if_pos hk,h2,<-h1,Yh h3]
 · rw [if_neg hk,if_neg hk]
theorem X5{i:Int}(i0:0<=i):plL (i+1) ln pt cnt=plL i ln pt cnt++ [(lst (ln i) (pt i),cnt i)]:=by
 unfold plL
 rw [show(i+1).toNat=i.toNat+1 by omega,List.range_succ,List.map_append,List.map_singleton,Int.toNat_of_nonneg i0]
theorem Tn{n:Int}{ln':Of}{pt':Og}{cnt':Of}(n0:0<=n)(h:∀k,0<=k->k<n->ln' k=ln k/\cnt' k=cnt k/\pt' k=pt k){l c:Int}{p:Of}(h1:ln' n=l)(h2:cnt' n=c)(h3:pt' n=p):plL (n+1) ln' pt' cnt'=plL n ln pt cnt++ [(lst l p,c)]:=by
 rw [X5 n0,h1,h2,h3]
 congr 1
 exact Rv fun k k0 k1=>⟨(h k k0 k1).1,(h k k0 k1).2.1,fun j _ _=>by rw [(h k k0 k1).2.2]⟩
def Xt:Us->List Int×Int->Us
  | [],u=> [u]
  |v::r,u=>if v.1=u.1 then(v.1,v.2+u.2)::r else v::Xt r u
def VA(l:Us):Us:=l.foldl Xt []
theorem Zb4:∀{a:Us} {u:List Int×Int},(∀v∈a,v.1≠u.1)->Xt a u=a++ [u]
 | [],_,_=>rfl
 | v::r,u,h=>by
   rw [Xt,if_neg (h v (by simp)),Zb4 fun w hw=>h w (by simp [hw])];rfl
theorem Zd1:∀{a:Us} {u:List Int×Int} {j:Nat} {v:List Int×Int},a[j]? =some v->v.1=u.1->(∀k<j,∀w,a[k]? =some w->w.1≠u.1)->Xt a u=a.set j (v.1,v.2+u.2)
 | [],_,_,_,h,_,_=>by simp at h
 | w::r,u,0,v,h,e,_=>by
   simp at h;subst h
   rw [Xt,if_pos e];rfl
 | w::r,u,j+1,v,h,e,hk=>by
   simp at h
   rw [Xt,if_neg (hk 0 Oa w (by simp)),Zd1 h e fun k hk' x hx=>hk (k+1) Oa x (by simpa using hx)];rfl
theorem Uu:∀{a:Us} {u:List Int×Int},∀x∈Xt a u,x.1=u.1\/∃y∈a,y.1=x.1
 | [],u,x,h=>by simp [Xt] at h;exact .inl (by rw [h])
 | v ::r,u,x,h=>by
   rw [Xt] at h
   split at h
   · rcases List.mem_cons.1 h with h|h
     · right;exact⟨v,by simp,by rw [h]⟩
     · right;exact⟨x,by simp [h],rfl⟩
   · rcases List.mem_cons.1 h with h|h
     · right;exact⟨v,by simp,by rw [h]⟩
     · rcases Uu x h with h|⟨y,hy,e⟩
       · exact .inl h
       · exact .inr ⟨y,by simp [hy],e⟩
theorem Kf:∀{a:Us} {u:List Int×Int},a.Pairwise (fun x y=>x.1≠y.1)->(Xt a u).Pairwise (fun x y=>x.1≠y.1)
 | [],u,_=>by simp [Xt]
 | v ::r,u,h=>by
   have h1:=List.pairwise_cons.1 h
   rw [Xt]
   split
   · exact List.pairwise_cons.2 ⟨h1.1,h1.2⟩
   · rename_i hne
     refine List.pairwise_cons.2 ⟨fun x hx=> ?_,Kf h1.2⟩
     rcases Uu x hx with e|⟨y,hy,e⟩
     · rw [e];exact hne
     · rw [<-e];exact h1.1 y hy
theorem TC:∀(l a:Us),a.Pairwise (fun x y=>x.1≠y.1)->(l.foldl Xt a).Pairwise (fun x y=>x.1≠y.1)
 | [],_,h=>h
 |u::l,a,h=>TC l _ (Kf h)
theorem Zea(l:Us):(VA l).Pairwise (fun x y=>x.1≠y.1):=TC l [] .nil
theorem Ri(l:Us)(u:List Int×Int):VA (l++ [u])=Xt (VA l) u:=by simp [VA]
theorem Zb3:∀{a:Us} {u:List Int×Int},(∀x∈a,1<=x.2)->1<=u.2->∀x∈Xt a u,1<=x.2
 | [],u,_,hu,x,h=>by simp [Xt] at h;rw [h];exact hu
 | v ::r,u,ha,hu,x,h=>by
   have hv:=ha v (by simp)
   rw [Xt] at h
   split at h
   · rcases List.mem_cons.1 h with h|h
     · rw [h];dsimp only;omega
     · exact ha x (by simp [h])
   · rcases List.mem_cons.1 h with h|h
     · rw [h];exact hv
     · exact Zb3 (fun y hy=>ha y (by simp [hy])) hu x h
theorem RT:∀(l a:Us),(∀x∈a,1<=x.2)->(∀x∈l,1<=x.2)->∀x∈l.foldl Xt a,1<=x.2
 | [],_,h,_=>h
 |u::l,a,h,hl=>RT l _ (Zb3 h (hl u (by simp))) fun x hx=>hl x (by simp [hx])
theorem Zfd{l:Us}(h:∀x∈l,1<=x.2):∀x∈VA l,1<=x.2:=RT l [] (by simp) h
def wsum(f:List Int->Int):Us->Int
  | []=>0
  |u::l=>f u.1*u.2+wsum f l
theorem WA(f:List Int->Int):∀a b:Us,wsum f (a++b)=wsum f a+wsum f b
 | [],b=>by simp [wsum]
 |u::a,b=>by simp only [List.cons_append,wsum,WA f a b];omega
theorem Ra(f:List Int->Int):∀(a:Us) (u:List Int×Int),wsum f (Xt a u)=wsum f a+f u.1*u.2
 | [],u=>by simp [Xt,wsum]
 | v ::r,u=>by
   rw [Xt]
   split
   · rename_i e
     simp only [wsum,e,Int.mul_add];omega
   · simp only [wsum,Ra f r u];omega
theorem U6(f:List Int->Int):∀(l a:Us),wsum f (l.foldl Xt a)=wsum f a+wsum f l
 | [],a=>by simp [wsum]
 |u::l,a=>by rw [List.foldl_cons,U6 f l,Ra,wsum];omega
theorem Zd7(f:List Int->Int)(l:Us):wsum f (VA l)=wsum f l:=by rw [VA,U6];simp [wsum]
theorem Zd8(f:List Int->Int){a b:Us}(h:a.Perm b):wsum f a=wsum f b:=by
 induction h with
 |nil=>rfl
 |cons x _ ih=>simp only [wsum,ih]
 |swap x y l=>simp only [wsum];omega
 |trans _ _ i1 i2=>rw [i1,i2]
def NormR(l out:Us):Prop:=out.Perm (VA l)/\out.Pairwise (fun u v=>ahd u.1 v.1)
theorem NormR.wsum{l a:Us}(h:NormR l a)(f:List Int->Int):wsum f a=wsum f l:=(Zd8 f h.1).trans (Zd7 f l)
theorem NormR.pos{l a:Us}(h:NormR l a)(hp:∀x∈l,1<=x.2):∀x∈a,1<=x.2:=fun x hx=>Zfd hp x (h.1.mem_iff.1 hx)
theorem Rj:∀(l a:Us),∀x∈l.foldl Xt a,(∃y∈a,y.1=x.1)\/∃y∈l,y.1=x.1
 | [],a,x,h=> .inl ⟨x,h,rfl⟩
 | u ::l,a,x,h=>by
   rcases Rj l _ x h with⟨y,hy,e⟩|⟨y,hy,e⟩
   · rcases Uu y hy with e2|⟨z,hz,e2⟩
     · exact .inr ⟨u,by simp,by rw [<-e2,e]⟩
     · exact .inl ⟨z,hz,by rw [e2,e]⟩
   · exact .inr ⟨y,by simp [hy],e⟩
theorem NormR.keys{l a:Us}(h:NormR l a):∀x∈a,∃y∈l,y.1=x.1:=fun x hx=>by
 rcases Rj l [] x (h.1.mem_iff.1 hx) with⟨y,hy,_⟩|h
 · simp at hy
 · exact h
theorem Zcy {α:Type} {n:Int} {t:Of} (n0:0<=n) (h:PermOn 0 n (fun k=>k) t) (G:Int->α):((List.range n.toNat).map fun(i:Nat)=>G (t (i:Int))).Perm ((List.range n.toNat).map fun(i:Nat)=>G (i:Int)):=by
 have h1:((List.range n.toNat).map fun(i:Nat)=>t (i:Int)).Perm ((List.range n.toNat).map fun(i:Nat)=>(i:Int)):=by
   obtain⟨p,q,e1,e2,e3⟩:=h
   refine(List.perm_ext_iff_of_nodup ?_ ?_).2 fun x=> ?_
   · refine List.pairwise_map.2 (List.Pairwise.imp (R:=fun a b=>a≠b) (fun {a b} hab hh=> ?_) List.nodup_range)
     rw [e3,e3] at hh
     have:=congrArg q hh
     simp only [(e1 _).2] at this
     omega
   · exact List.pairwise_map.2 (List.Pairwise.imp (R:=fun a b=>a≠b) (fun {a b} hab hh=>Oa) List.nodup_range)
   · simp only [List.mem_map,List.mem_range]
     constructor
     · rintro⟨a,ha,rfl⟩
       obtain⟨j,j0,j1,j2⟩:=PermOn.fr (a:=fun k=>k) (b:=t) ⟨p,q,e1,e2,e3⟩ (show(0:Int)<=(a:Int) by omega) (show(a:Int)<n by omega)
       exact⟨j.toNat,Oa,by rw [j2];omega⟩
     · rintro⟨a,ha,rfl⟩
       obtain⟨j,j0,j1,j2⟩:=PermOn.fr (PermOn.symm (a:=fun k=>k) (b:=t) ⟨p,q,e1,e2,e3⟩) (show(0:Int)<=(a:Int) by omega) (show(a:Int)<n by omega)
       exact⟨j.toNat,Oa,by rw [Int.toNat_of_nonneg j0,<-j2]⟩
 have h2:=h1.map G
 simpa [List.map_map,Function.comp_def] using h2
theorem ZhZ(f:Int->List Int):Swo (fun x y=>ahd (f x) (f y)):=
 ⟨fun x y h=>V3 h,fun x y z h k=>Ke h k,fun x y z h k hh=>by
   by_cases e:f x=f y
   · rw [e] at hh;exact k hh
   · rcases Zd0 e with h1|h1
     · exact h h1
     · exact k (Ke h1 hh)⟩
theorem NormR.of_names {l:Us} {n:Int} {t:Of} (n0:0<=n) (hs:plL n ln pt cnt=VA l) (hp:PermOn 0 n (fun k=>k) t) (ho:Srt (Tie (fun x y=>ahd (lst (ln x) (pt x)) (lst (ln y) (pt y)))) 0 n t):
   NormR l (plL n (fun k=>ln (t k)) (fun k=>pt (t k)) (fun k=>cnt (t k))):=by
 refine⟨?_,?_⟩
 · rw [<-hs]
   exact Zcy n0 hp fun x=>(lst (ln x) (pt x),cnt x)
 · rw [List.pairwise_iff_getElem]
   intro i j hi hj hij
   rw [plL_len] at hi hj
   have g:∀(k:Nat) (hk:k<(plL n (fun k=>ln (t k)) (fun k=>pt (t k)) (fun k=>cnt (t k))).length),(plL n (fun k=>ln (t k)) (fun k=>pt (t k)) (fun k=>cnt (t k)))[k]=(lst (ln (t k)) (pt (t k)),cnt (t k)):=fun k hk=>by
     have h1:=plL_get n (fun k=>ln (t k)) (fun k=>pt (t k)) (fun k=>cnt (t k)) k
     rw [plL_len] at hk
     rw [if_pos Oa,List.getElem?_eq_getElem (by rw [plL_len];exact hk)] at h1
     injection h1
   rw [g,g]
   have h1:=ho i j Oa Oa Oa
   rcases h1 with h1|⟨h1,h2⟩
   · exact h1
   · obtain⟨a,a0,a1,a2⟩:=hp.fr (show(0:Int)<=(i:Int) by omega) (show(i:Int)<n by omega)
     obtain⟨b,b0,b1,b2⟩:=hp.fr (show(0:Int)<=(j:Int) by omega) (show(j:Int)<n by omega)
     have hd:=Zea l
     rw [<-hs,List.pairwise_iff_getElem] at hd
     have gg:∀(k:Int) (k0:0<=k) (hk:k<n),∃h:k.toNat<(plL n ln pt cnt).length,(plL n ln pt cnt)[k.toNat]=(lst (ln k) (pt k),cnt k):=fun k k0 hk=>by
       have h1:=plL_get n ln pt cnt k.toNat
       have h3:k.toNat<(plL n ln pt cnt).length:=by rw [plL_len];omega
       rw [Int.toNat_of_nonneg k0,if_pos hk,List.getElem?_eq_getElem h3] at h1
       exact⟨h3,by injection h1⟩
     have hab:a≠b:=fun e=>by rw [<-a2,<-b2] at*;omega
     obtain⟨ha,ea⟩:=gg a a0 a1
     obtain⟨hb,eb⟩:=gg b b0 b1
     have hne:lst (ln a) (pt a)≠lst (ln b) (pt b):=by
       rcases Int.lt_or_gt_of_ne hab with h3|h3
       · have:=hd a.toNat b.toNat ha hb Oa;rw [ea,eb] at this;exact this
       · have:=hd b.toNat a.toNat hb ha Oa;rw [ea,eb] at this;exact fun e=>this e.symm
     rcases Zd0 hne with h3|h3
     · dsimp only at a2 b2⊢;rw [a2,b2];exact h3
     · exact absurd (by dsimp only at a2 b2⊢;rw [a2,b2];exact h3) h1
end Go.Proofs.Gw
namespace Go.Proofs.Gw
open Go Go.RowKit
section
variable {P:Program} {L:List (Nat×Value)} {w w0:World} {o:Oper} {x y:Operand} {T T':TypeId} {l:List Ent}
theorem Uz{m r:Int}(ho:o.op= .binOp .shr T x y T':=by exact rfl)(hx:evL L x=some (.int .u64 m):=by exact rfl)(hy:evL L y=some (.int .u64 1):=by exact rfl)(e:r=m/2:=by exact rfl):Runs P L w o (.value (.int .u64 r)) w:=fun ρ h=>by
 subst e
 simp [execOp,ho,h _ _ hx,h _ _ hy,go_sem]
theorem ZgY(v:Value)(k:Int)(h0:0<=k):(cad v k).add 1=cad v (k+1)\/∀a len cap,v≠ .slice (some a) len cap:=by
 cases v with
 | slice a len cap=>cases a with
   |none=>right;intro a len cap h;cases h
   | some a=>
     left
     have:(k+1).toNat=k.toNat+1:=Oa
     simp [cad,Addr.add,this,Nat.add_assoc]
 |_=>right;intro a len cap h;cases h
theorem xso2 (j:Nat) {v u0 u1:Value} {E:TypeId} {n k:Int} {c d:Int->Value} (ht:Zw P T=some 2) (hS:Sat w0 w l) (e:upd (upd c k u0) (k+1) u1=d) (ho:o.op= .store T x y:=by exact rfl) (hi:l[j]? =some (.own v 2 E n c):=by exact rfl) (hx:evL L x=some (.pointer (some (cad v k))):=by exact rfl) (hy:evL L y=some (.agg #[u0,u1]):=by exact rfl)
   (hv:u0.oneCell'=true:=by exact rfl) (hu:u1.oneCell'=true:=by exact rfl) (h0:0<=k:=by omega) (h1:k+1<n*2:=by omega):∃w',Runs P L w o .skip w'/\Sat w0 w' (l.set j (.own v 2 E n d)):=by
 subst e
 obtain⟨_,hsz⟩:=Xc (w:=w) ht
 have hS':=hS
 rw [Z0 hi] at hS'
 have hr0:=hS'.get.row
 have dr:(cad v k).add 1=cad v (k+1):=by
   rcases ZgY v k h0 with h|h
   · exact h
   · exfalso
     obtain⟨q0,q1,a,cap,rfl,hz⟩:=hr0.slh
     rcases hz with hz|⟨b,off,rfl⟩
     · omega
     · exact h _ _ _ rfl
 have fl:(cad v k).add 0=cad v k:=by simp [Addr.add]
 have c0:=hr0.cell h0 Oa
 have f0:w.frozen? (cad v k)=false:=by
   rcases hS'.get.freeRow k with h|h
   · exact absurd h (by
       obtain⟨q0,q1,a,cap,rfl,hz⟩:=hr0.slh
       rcases hz with hz|⟨b,off,rfl⟩
       · omega
       · intro hh;cases hh)
   · exact h
 have hS1:=hS'.setOwn k h0 Oa u0
 have hr1:=hS1.get.row
 have c1:=hr1.cell (k:=k+1) Oa Oa
 have f1:(w.setCell (cad v k) u0).frozen? (cad v (k+1))=false:=by
   rcases hS1.get.freeRow (k+1) with h|h
   · exact absurd h (by
       obtain⟨q0,q1,a,cap,rfl,hz⟩:=hr0.slh
       rcases hz with hz|⟨b,off,rfl⟩
       · omega
       · intro hh;cases hh)
   · exact h
 have hS2:=hS1.setOwn (k+1) Oa Oa u1
 rw [Ys hi]
 refine⟨_,fun ρ h=> ?_,hS2⟩
 simp [execOp,ho,h _ _ hx,h _ _ hy,Instr.storeAt,Instr.sureAddr,storeVar,Value.cells,hsz,storeCells,fl,dr,run_store P w _ u0 _ hv,c0,f0,run_store P _ _ u1 _ hu,c1,f1]
end
theorem XP(pv:Int->Value)(cnt:Of){i k:Int}(s:Value)(x:Int)(h:k=2*i):upd (upd (Ze pv cnt) k s) (k+1) (.int Oi x)=Ze (fun q=>if q=i then s else pv q) (fun q=>if q=i then x else cnt q):=by
 subst h
 funext q
 unfold upd Ze
 by_cases h1:q=2*i+1
 · subst h1;rw [if_pos rfl,if_neg Oa];dsimp only;rw [if_pos Oa]
 · rw [if_neg h1]
   by_cases h2:q=2*i
   · subst h2;rw [if_pos rfl,if_pos Oa];dsimp only;rw [if_pos Oa]
   · rw [if_neg h2]
     by_cases h3:q%2=0
     · rw [if_pos h3,if_pos h3];dsimp only;rw [if_neg Oa]
     · rw [if_neg h3,if_neg h3];dsimp only;rw [if_neg Oa]
theorem Wj(pv:Int->Value)(cnt s:Of)(i j:Int):Ze (fun q=>if q=j then pv (s i) else(fun q=>if q=i then pv (s j) else(fun k=>pv (s k)) q) q) (fun q=>if q=j then cnt (s i) else(fun q=>if q=i then cnt (s j) else(fun k=>cnt (s k)) q) q)=Ze (fun k=>pv (swp s i j k)) (fun k=>cnt (swp s i j k)):=by
 congr 1
 · funext q;unfold swp;dsimp only
   by_cases h1:q=j
   · rw [if_pos h1]
     by_cases h2:q=i
     · rw [if_pos h2];congr 2;omega
     · rw [if_neg h2,if_pos h1]
   · rw [if_neg h1]
     by_cases h2:q=i
     · rw [if_pos h2,if_pos h2]
     · rw [if_neg h2,if_neg h2,if_neg h1]
 · funext q;unfold swp;dsimp only
   by_cases h1:q=j
   · rw [if_pos h1]
     by_cases h2:q=i
     · rw [if_pos h2];congr 2;omega
     · rw [if_neg h2,if_pos h1]
   · rw [if_neg h1]
     by_cases h2:q=i
     · rw [if_pos h2,if_pos h2]
     · rw [if_neg h2,if_neg h2,if_neg h1]
theorem VQ(s:Of)(i j:Int):upd (upd (ints s) i (.int Oi (s j))) j (.int Oi (s i))=ints (swp s i j):=by
 funext q;unfold upd ints swp
 by_cases h1:q=j
 · rw [if_pos h1]
   by_cases h2:q=i
   · rw [if_pos h2];congr 2;omega
   · rw [if_neg h2,if_pos h1]
 · rw [if_neg h1]
   by_cases h2:q=i
   · rw [if_pos h2,if_pos h2]
   · rw [if_neg h2,if_neg h2,if_neg h1]
theorem PermOn.inj{lo hi:Int}{t:Of}(h:PermOn lo hi (fun k=>k) t){i j:Int}(e:t i=t j):i=j:=by
 obtain⟨p,q,e1,e2,e3⟩:=h
 rw [e3,e3] at e
 have:=congrArg q e
 rwa [(e1 _).2,(e1 _).2] at this
theorem Sat.pmrows{w0 w:World}{l:List Ent}(h:Sat w0 w l)(i:Nat){E:TypeId}{n:Int}{vv:Int->Value}{ln:Of}{f:Og}{t:Of}(hp:PermOn 0 n (fun k=>k) t)(hi:l[i]? =some (.sem (Frame.rows E n vv ln f)):=by exact rfl):
   Sat w0 w (l.set i (.sem (Frame.rows E n (fun k=>vv (t k)) (fun k=>ln (t k)) (fun k=>f (t k))))):=
 h.resem i hi (fun⟨h1,h2⟩=>⟨fun k k0 k1=>by
     obtain⟨j,j0,j1,j2⟩:=hp.fr k0 k1
     have e:t k=j:=j2
     show(Ent.own (vv (t k)) 1 E (ln (t k)) (ints (f (t k)))).holds w
     rw [e];exact h1 j j0 j1,fun a b a0 a1 b0 b1 hab g hg hg'=>by
     obtain⟨j,j0,j1,j2⟩:=hp.fr a0 a1
     obtain⟨k,k0,k1,k2⟩:=hp.fr b0 b1
     exact h2 (t a) (t b) (by rw [j2];exact j0) (by rw [j2];exact j1) (by rw [k2];exact k0) (by rw [k2];exact k1) (fun e=>hab (hp.inj e)) g hg hg'⟩)
   (fun g ⟨a,a0,a1,hg⟩=>by
     obtain⟨j,j0,j1,j2⟩:=hp.fr a0 a1
     exact⟨t a,by rw [j2];exact j0,by rw [j2];exact j1,hg⟩)
theorem Zdx{f:Int->Value}{n:Int}{x:Value}(h:∀k,(f k).oneCell'=true)(hx:x.oneCell'=true):∀k,(gsn f n x k).oneCell'=true:=fun k=>by
 unfold gsn;split
 · exact h k
 · exact hx
end Go.Proofs.Gw
