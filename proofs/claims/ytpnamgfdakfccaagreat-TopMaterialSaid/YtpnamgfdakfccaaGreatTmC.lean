import Derived.Test.YtpnamgfdakfccaaGreatTmB
import Derived.ArgAppend
import Derived.RangeFuncBox
import Derived.RangeFuncLeaves
set_option linter.unusedVariables false
set_option linter.unusedSimpArgs false
set_option maxRecDepth 20000
set_option maxHeartbeats 4000000
namespace Go.Proofs.YtpnamgfdakfccaaGreat
open Go Go.RowKit Go.Proofs.Gw
variable {x:Int} {f:Of}
theorem Zo2:Zd Om 89=true:=Oc
theorem fd_54_2:Zv Om 54 2=some 2:=Oc
theorem fd_54_3:Zv Om 54 3=some 3:=Oc
def Yr(s:So):Prop:=(1<=s.den/\s.den<=1073741824)/\(0<=s.val/\s.val<=1073741824)/\∀k,0<=k->k<s.n->0<=s.X k/\s.X k<=1073741824
def two(x y:Int):Of:=fun k=> [x,y].getD k.toNat 0
theorem Zj5{n y:Int}(hn:0<=n):(∀k,0<=k->k<n->cat n f (two x y) k=f k)/\cat n f (two x y) n=x/\cat n f (two x y) (n+1)=y:=by
 refine⟨fun k k0 k1=> ?_,?_,?_⟩
 · unfold cat;rw [if_pos k1]
 · unfold cat;rw [if_neg Oa,Int.sub_self];rfl
 · unfold cat;rw [if_neg Oa,show n+1-n=1 by omega];rfl
theorem RP{s:So}(hn:0<=s.n)(he:∃k,0<=k/\k<s.n+2/\cat s.n s.X (two s.val s.den) k=x)(ha:∀k,0<=k->k<s.n+2->cat s.n s.X (two s.val s.den) k<=x)(h1:1<=s.den)(h2:0<=s.val)(h3:¬∃k,0<=k/\k<s.n/\s.X k<0):x<=1073741824↔Yr s:=by
 obtain⟨c1,c2,c3⟩:=Zj5 (n:=s.n) (x:=s.val) (y:=s.den) (f:=s.X) hn
 constructor
 · intro hx
   have a1:=ha s.n hn Oa
   have a2:=ha (s.n+1) Oa Oa
   exact⟨⟨h1,Oa⟩,⟨h2,Oa⟩,fun k k0 k1=>⟨Int.not_lt.1 fun hh=>h3 ⟨k,k0,k1,hh⟩,by have:=ha k k0 Oa;rw [c1 k k0 k1] at this;omega⟩⟩
 · rintro⟨b1,b2,b3⟩
   obtain⟨k,k0,k1,hk⟩:=he
   by_cases e:k<s.n
   · rw [c1 k k0 e] at hk;have:=b3 k k0 e;omega
   · by_cases e2:k=s.n
     · rw [e2,c2] at hk;omega
     · rw [show k=s.n+1 by omega,c3] at hk;omega
theorem Zpz(w0:World):
   Calls Om 89 [.int Oi x].toArray w0 fun e w=>∃v,e= .returned v/\v=B (x<0)/\Sat w0 w []:=by
 refine zenG Tryz.func89 Tryz.ntmps89 fun w hS=> ?_
 refine zsr<|(zP)<|zlz<|(Oo)<|zx1<|Oj ?_
 exact⟨Zm Oa,hS⟩
theorem Zkm{v:Value}{n:Int}(w0:World)(hR:Row w0 v 1 n (ints f)):
   Calls Om 147 [v,.func (.func 89) #[] #[]].toArray w0 fun e w=>∃v,e= .returned v/\∃r:Int,v= .int Oi r/\((r= -1/\∀k,0<=k->k<n->¬(f k<0))\/(0<=r/\r<n/\(f r<0)))/\Sat w0 w []:=by
 have hn:=hR.slh.n0;have hn1:=hR.slh.n1
 refine zenG Tryz.func147 Tryz.ntmps147 fun w hS=> ?_
 refine zsr<|(zP)<|zx5<|(zP)<|(zV (xln Zb hR.slh))<|(zP)<|zx6<|zlp (fun mm M w=>∃(i:Int),mm=((n-i).toNat)/\(0<=i)/\(i<=n)/\(∀k,0<=k->k<i->¬(f k<0))/\M= [(0,v),(1,.func (.func 89) #[] #[]),(7,.int Oi n),(8,.int Oi i)]/\Sat w0 w []) ⟨0,rfl,Oa,Oa,?_,rfl,hS⟩ ?_
 ·
  intro k h0 h1;omega
 clear hS w
 rintro mm M w ⟨i,rfl,h0,h1,qa,rfl,hS⟩
 refine zsr<|(zP)<|zx7<|Zf ?_ ?_<;>intro hc
 ·
  refine zx3<|(On)<|zlz<|(Oo)<|(zV (xix (kk:=i) Zb hR.slh))<|(zV (xlr (u:= .int Oi (f i)) pl_3 (hR.below hS.below)))<|zlc (xc0 Zo2) (Zpz (x:=(f i)) w) ?_;rintro _ w ⟨rfl,hS'⟩
  replace hS:=hS.cmp hS';clear hS'
  refine zlt<|Zf ?_ ?_<;>intro hc
  ·
   refine zsr<|(On)<|zx2<|Oj ?_
   exact⟨i,rfl,.inr ⟨by omega,Oa,‹f i<0›⟩,hS⟩
  refine zx4<|(zV (Zh (r:=i+1)))<|(zP)<|zln<|zlq ⟨i+1,rfl,Oa,Oa,?_,rfl,hS⟩
  ·
   intro k h0' h1';rcases Int.lt_or_eq_of_le (show k<=i by omega) with hk|hk;exact qa k h0' hk;rw [hk];assumption
 refine zx8<|(zP)<|zx1<|Oj ?_
 exact⟨-1,rfl,.inl ⟨rfl,fun k h0 h1=>qa k h0 Oa⟩,hS⟩
theorem ZeE{v:Value}{n:Int}(w0:World)(hR:Row w0 v 1 n (ints f)):
   Calls Om 90 [v,.func (.func 89) #[] #[]].toArray w0 fun e w=>∃v,e= .returned v/\v=B (∃k,0<=k/\k<n/\(f k<0))/\Sat w0 w []:=by
 refine zenG Tryz.func90 Tryz.ntmps90 fun w hS=> ?_
 refine zsr<|(zP)<|zlz<|(On)<|zlc (xc0 WX) (Zkm w (hR.below hS.below)) ?_;rintro _ w ⟨r1,rfl,hr1,hS'⟩
 replace hS:=hS.cmp hS';clear hS'
 refine(On)<|zx1<|Oj ?_
 exact⟨Zm (by
  rcases hr1 with⟨h1,h2⟩|⟨h1,h2,h3⟩
  · exact⟨fun h=>Oa,fun⟨k,h4,h5,h6⟩=>absurd h6 (h2 k h4 h5)⟩
  · exact⟨fun _=>⟨_,h1,h2,h3⟩,fun _=>h1⟩),hS⟩
theorem UJ{vX vY:Value}{s:So}(w0:World)(hX:Row w0 vX 1 s.n (ints s.X))(hY:Row w0 vY 1 s.m (ints s.Y))(xA:s.n<=1000):
   Calls Om 42 [.agg #[vX,vY,.int Oi s.val,.int Oi s.den]].toArray w0 fun e w=>∃v,e= .returned v/\v=B (Yr s)/\Sat w0 w []:=by
 have hn:=hX.slh.n0;have hn1:=hX.slh.n1
 refine zenG Tryz.func42 Tryz.ntmps42 fun w hS=> ?_
 refine zsr<|zla (xbx (cs:= [_,_,_,_]) hS) ?_;rintro _ w ⟨g1,rfl,hS⟩
 refine(zP)<|zx7<|zdst [0] [0] 1000 mx_ hS ?_;clear hS;intro w hS
 refine(zDw 0 (xfb 0 fd_54_0))<|(zDl 1 (fun w hS=>(xlb 0 pl_22 hS)))<|(zDw 3 (xfb 2 fd_54_2))<|(zDl 4 (fun w hS=>(xlb 0 pl_3 hS)))<|(zDw 5 (xfb 3 fd_54_3))<|(zDl 6 (fun w hS=>(xlb 0 pl_3 hS)))<|U4 (r:= [2,7]) ((Xt ?_ (Xt ?_ U3)))
 ·
  refine zkc (xc0 cl_66) (c_clone (n:=s.n) (f:=s.X) w (hX.below hS.below) Oa) ?_;rintro vq1 w ⟨_,rfl,qb,hS'⟩
  replace hS:=(hS.comp hS').n2;clear hS'
  refine⟨⟨fun _=>hS.pk [0],hS.pk [0]⟩,?_⟩
  refine zda 7 (xli (n:=2) (len:=2) (pv:= [(0,.int Oi s.val),(1,.int Oi s.den)]) (cs:= [.int Oi s.val,.int Oi s.den]) (c:=ints (fun k=> [s.val,s.den].getD k.toNat 0)) Zb ZJ hS) ?_;rintro v1 w ⟨hS,hv1⟩
  refine⟨⟨fun _=>hS.pk [0],hS.pk [0]⟩,?_⟩
  refine zda 8 (xap 1 (r:=s.n+2) (f:=ints (cat s.n s.X (two s.val s.den))) Zb ZJ hS (hS.rowN 2 rfl) (by exact Xo _ _ _)) ?_;rintro v2 w ⟨hS,hv2⟩
  refine⟨⟨fun _=>hS.pk [0],hS.pk [0]⟩,?_⟩
  refine(zDw 9 xas)<|zdd<|ztn<|zsr ?_
  refine(zP)<|zlz<|(zV (xfb 3 fd_54_3))<|(zV (xlb 0 pl_3 hS))<|(On)<|zlb 17 ?_ ?_<;>intro hc
  ·
   refine(zV (xfb 2 fd_54_2))<|(zV (xlb 0 pl_3 hS))<|(Oo)<|zlb 22 ?_ ?_<;>intro hc
   ·
    refine(zV (xfb 0 fd_54_0))<|(zV (xlb 0 pl_22 hS))<|(zP)<|zlc (xc0 U2) (ZeE (n:=s.n) (f:=s.X) w (hX.below hS.below)) ?_;rintro _ w ⟨rfl,hS'⟩
    replace hS:=hS.cmp hS';clear hS'
    refine(Oo)<|zlb 29 ?_ ?_<;>intro hc
    ·
     refine(zP)<|zlc (xc0 ZhA) (Zic (n:=(s.n+2)) (f:=(cat s.n s.X (two s.val s.den))) w (hS.rowN 1 rfl) Oa) ?_;rintro _ w ⟨x1,rfl,ya,yA,hS'⟩
     replace hS:=hS.cmp hS';clear hS'
     refine(Oo)<|zx1<|Oj ?_
     exact⟨Zm (RP hn ya yA Oa Oa (show¬(∃k,0<=k/\k<s.n/\s.X k<0) by first|assumption|exact fun hh=>absurd hh ‹_›)),hS.nl⟩
    iterate 3 refine zlo ?_
    refine(On)<|zx1<|Oj ?_
    exact⟨Zj (by rintro⟨g1,g2,g3⟩;first|omega|(obtain⟨k,k0,k1,hk⟩:=(show∃k,0<=k/\k<s.n/\s.X k<0 by first|assumption|exact Od (by assumption));have:=g3 k k0 k1;omega)),hS.nl⟩
   iterate 5 refine zlo ?_
   refine zs2 ?_
   iterate 3 refine zlo ?_
   refine(On)<|zx1<|Oj ?_
   exact⟨Zj (by rintro⟨g1,g2,g3⟩;first|omega|(obtain⟨k,k0,k1,hk⟩:=(show∃k,0<=k/\k<s.n/\s.X k<0 by first|assumption|exact Od (by assumption));have:=g3 k k0 k1;omega)),hS.nl⟩
  iterate 3 refine zlo ?_
  refine zs2 ?_
  iterate 5 refine zlo ?_
  refine zs2 ?_
  iterate 3 refine zlo ?_
  refine(On)<|zx1<|Oj ?_
  exact⟨Zj (by rintro⟨g1,g2,g3⟩;first|omega|(obtain⟨k,k0,k1,hk⟩:=(show∃k,0<=k/\k<s.n/\s.X k<0 by first|assumption|exact Od (by assumption));have:=g3 k k0 k1;omega)),hS.nl⟩
 refine zka (xli (n:=2) (len:=2) (pv:= [(0,.int Oi s.val),(1,.int Oi s.den)]) (cs:= [.int Oi s.val,.int Oi s.den]) (c:=ints (fun k=> [s.val,s.den].getD k.toNat 0)) Zb ZJ hS) ?_;rintro v1 w ⟨hS,hv1⟩
 refine⟨⟨fun _=>hS.pk [0],hS.pk [0]⟩,?_⟩
 refine zdc 2 (xc0 cl_66) (c_clone (n:=s.n) (f:=s.X) w (hX.below hS.below) Oa) ?_;rintro vq1 w ⟨_,rfl,qb,hS'⟩
 replace hS:=(hS.comp hS').n3;clear hS'
 refine⟨⟨fun _=>hS.pk [0],hS.pk [0]⟩,?_⟩
 refine zda 8 (xap 2 (r:=s.n+2) (f:=ints (cat s.n s.X (two s.val s.den))) Zb ZJ hS (hS.rowN 1 rfl) (by exact Xo _ _ _)) ?_;rintro v2 w ⟨hS,hv2⟩
 refine⟨⟨fun _=>hS.pk [0],hS.pk [0]⟩,?_⟩
 refine(zDw 9 xas)<|zdd<|ztn<|zsr ?_
 refine(zP)<|zlz<|(zV (xfb 3 fd_54_3))<|(zV (xlb 0 pl_3 hS))<|(On)<|zlb 17 ?_ ?_<;>intro hc
 ·
  refine(zV (xfb 2 fd_54_2))<|(zV (xlb 0 pl_3 hS))<|(Oo)<|zlb 22 ?_ ?_<;>intro hc
  ·
   refine(zV (xfb 0 fd_54_0))<|(zV (xlb 0 pl_22 hS))<|(zP)<|zlc (xc0 U2) (ZeE (n:=s.n) (f:=s.X) w (hX.below hS.below)) ?_;rintro _ w ⟨rfl,hS'⟩
   replace hS:=hS.cmp hS';clear hS'
   refine(Oo)<|zlb 29 ?_ ?_<;>intro hc
   ·
    refine(zP)<|zlc (xc0 ZhA) (Zic (n:=(s.n+2)) (f:=(cat s.n s.X (two s.val s.den))) w (hS.rowN 2 rfl) Oa) ?_;rintro _ w ⟨x1,rfl,ya,yA,hS'⟩
    replace hS:=hS.cmp hS';clear hS'
    refine(Oo)<|zx1<|Oj ?_
    exact⟨Zm (RP hn ya yA Oa Oa (show¬(∃k,0<=k/\k<s.n/\s.X k<0) by first|assumption|exact fun hh=>absurd hh ‹_›)),hS.nl⟩
   iterate 3 refine zlo ?_
   refine(On)<|zx1<|Oj ?_
   exact⟨Zj (by rintro⟨g1,g2,g3⟩;first|omega|(obtain⟨k,k0,k1,hk⟩:=(show∃k,0<=k/\k<s.n/\s.X k<0 by first|assumption|exact Od (by assumption));have:=g3 k k0 k1;omega)),hS.nl⟩
  iterate 5 refine zlo ?_
  refine zs2 ?_
  iterate 3 refine zlo ?_
  refine(On)<|zx1<|Oj ?_
  exact⟨Zj (by rintro⟨g1,g2,g3⟩;first|omega|(obtain⟨k,k0,k1,hk⟩:=(show∃k,0<=k/\k<s.n/\s.X k<0 by first|assumption|exact Od (by assumption));have:=g3 k k0 k1;omega)),hS.nl⟩
 iterate 3 refine zlo ?_
 refine zs2 ?_
 iterate 5 refine zlo ?_
 refine zs2 ?_
 iterate 3 refine zlo ?_
 refine(On)<|zx1<|Oj ?_
 exact⟨Zj (by rintro⟨g1,g2,g3⟩;first|omega|(obtain⟨k,k0,k1,hk⟩:=(show∃k,0<=k/\k<s.n/\s.X k<0 by first|assumption|exact Od (by assumption));have:=g3 k k0 k1;omega)),hS.nl⟩
end Go.Proofs.YtpnamgfdakfccaaGreat
namespace Go.Proofs.YtpnamgfdakfccaaGreat
open Go Go.RowKit Go.Proofs.Gw
theorem ZmF:Zd Om 281=true:=Oc
theorem ZhB:Zd Om 42=true:=Oc
theorem Zho:ZN Om 297=some (.agg #[.int Oi 0,.int Oi 0],2,16):=Oc
theorem TC:Zx Om 297=some 2:=Oc
theorem ZgX{x y:Int}(hx:0<=x)(hy:1<=y):1<=(Int.gcd x y:Int):=by
 have:Int.gcd x y≠0:=fun h=>by have:=(Int.gcd_eq_zero_iff.1 h).2;omega
 omega
def Zqf(s:So)(x y e:Int):Prop:=(¬Yr s/\x=0/\y=0/\e=1)\/(Yr s/\x=s.val.tdiv (Int.gcd s.val s.den)/\y=s.den.tdiv (Int.gcd s.val s.den)/\e=0)
def ZpR(s:So)(x e:Int):Prop:=(¬Yr s/\x=0/\e=1)\/(Yr s/\x=(s.val+s.den-1).tdiv s.den/\e=0)
theorem Zfx{vX vY:Value}{s:So}(w0:World)(hX:Row w0 vX 1 s.n (ints s.X))(hY:Row w0 vY 1 s.m (ints s.Y))(xA:s.n<=1000):
   Calls Om 224 [.agg #[vX,vY,.int Oi s.val,.int Oi s.den]].toArray w0 fun e w=>∃v,e= .returned v/\∃(x y e:Int),v= .tuple #[.agg #[.int Oi x,.int Oi y],.int Oi e]/\Zqf s x y e/\Sat w0 w []:=by
 have hn:=hX.slh.n0;have hn1:=hX.slh.n1
 refine zenG Tryz.func224 Tryz.ntmps224 fun w hS=> ?_
 refine zsr<|zla (xbx (cs:= [_,_,_,_]) hS) ?_;rintro _ w ⟨g1,rfl,hS⟩
 refine zla (xal (cs:= [_,_]) Zho hS) ?_;rintro _ w ⟨g2,rfl,hS⟩
 refine(zP)<|zx5<|(zV (xls 0 ZT hS))<|zlc (xc0 ZhB) (UJ (s:=s) w (hX.below hS.below) (hY.below hS.below) Oa) ?_;rintro _ w ⟨rfl,hS'⟩
 replace hS:=hS.cmp hS';clear hS'
 refine(zP)<|zlt<|Zf ?_ ?_<;>intro hc
 ·
  refine zsr<|(zV (xany (v:= .agg #[.int Oi 0,.int Oi 0])))<|zle (xsw 1 TC hS) ?_;clear hS;rintro w hS
  refine(zP)<|zx14<|Ym 1 TC hS ⟨_,rfl,?_⟩
  exact⟨0,0,1,rfl,.inl ⟨‹¬Yr s›,rfl,rfl,rfl⟩,hS.nl⟩
 refine ZV<|zlv (xfb 2 fd_54_2) ?_
 have hsd:Yr s:=by first|assumption|exact Od ‹_›
 obtain⟨⟨d1,d2⟩,⟨d3,d4⟩,d5⟩:=id hsd
 refine(zV (xlb 0 pl_3 hS))<|(zV (xfb 3 fd_54_3))<|(zV (xlb 0 pl_3 hS))<|zlc (xc0 ZmF) (ZpD (x:=s.val) (y:=s.den) w Oa Oa) ?_;rintro _ w ⟨rfl,hS'⟩
 replace hS:=hS.cmp hS';clear hS'
 refine zlv xas ?_
 have hgp:=ZgX (x:=s.val) (y:=s.den) Oa Oa
 have hq1:=YU (a:=s.val) (d:=(Int.gcd s.val s.den:Int)) (A:=9223372036854775807) hgp Oa
 have hq2:=YU (a:=s.den) (d:=(Int.gcd s.val s.den:Int)) (A:=9223372036854775807) hgp Oa
 refine zx7<|zdst [0,1] [0] 9 mx_ hS ?_;clear hS;intro w hS
 refine(zDw 0 (xfb 2 fd_54_2))<|(zDl 1 (fun w hS=>(xlb 0 pl_3 hS)))<|(zDw 2 xmv)<|(zDw 3 (Uk (r:=(Int.tdiv s.val (Int.gcd s.val s.den:Int)))))<|(zDw 4 (xfb 3 fd_54_3))<|(zDl 5 (fun w hS=>(xlb 0 pl_3 hS)))<|(zDw 6 xmv)<|(zDw 7 (Uk (r:=(Int.tdiv s.den (Int.gcd s.val s.den:Int)))))<|(zDw 8 (xany (v:= .agg #[.int Oi (Int.tdiv s.val (Int.gcd s.val s.den:Int)),.int Oi (Int.tdiv s.den (Int.gcd s.val s.den:Int))])))<|zde 9 (xsw 1 TC hS) ?_;clear hS;rintro w hS
 refine⟨⟨fun h=>absurd h (by decide),hS.pk [0]⟩,?_⟩
 refine(zDw 10 xas)<|zdd<|ztn<|zrt<|Ym 1 TC hS ⟨_,rfl,?_⟩
 exact⟨_,_,0,rfl,.inr ⟨hsd,rfl,rfl,rfl⟩,hS.nl⟩
theorem Zcz{vX vY:Value}{s:So}(w0:World)(hX:Row w0 vX 1 s.n (ints s.X))(hY:Row w0 vY 1 s.m (ints s.Y))(xA:s.n<=1000):
   Calls Om 17 [.agg #[vX,vY,.int Oi s.val,.int Oi s.den]].toArray w0 fun e w=>∃v,e= .returned v/\∃(x e:Int),v= .tuple #[.int Oi x,.int Oi e]/\ZpR s x e/\Sat w0 w []:=by
 have hn:=hX.slh.n0;have hn1:=hX.slh.n1
 refine zenG Tryz.func17 Tryz.ntmps17 fun w hS=> ?_
 refine zsr<|zla (xbx (cs:= [_,_,_,_]) hS) ?_;rintro _ w ⟨g1,rfl,hS⟩
 refine(On)<|zx5<|(zV (xls 0 ZT hS))<|zlc (xc0 ZhB) (UJ (s:=s) w (hX.below hS.below) (hY.below hS.below) Oa) ?_;rintro _ w ⟨rfl,hS'⟩
 replace hS:=hS.cmp hS';clear hS'
 refine(zP)<|zlt<|Zf ?_ ?_<;>intro hc
 ·
  refine zsr<|(On)<|zx14<|zf2 ⟨_,rfl,?_⟩
  exact⟨0,1,rfl,.inl ⟨‹¬Yr s›,rfl,rfl⟩,hS.nl⟩
 refine ZV<|zlv (xfb 2 fd_54_2) ?_
 have hsd:Yr s:=by first|assumption|exact Od ‹_›
 obtain⟨⟨d1,d2⟩,⟨d3,d4⟩,d5⟩:=id hsd
 have hq1:=YU (a:=s.val+s.den-1) (d:=s.den) (A:=4294967296) d1 Oa
 refine(zV (xlb 0 pl_3 hS))<|(zV (xfb 3 fd_54_3))<|(zV (xlb 0 pl_3 hS))<|(zV (Zh (r:=s.val+s.den)))<|(zV (Zp (r:=s.val+s.den-1)))<|(zV (xfb 3 fd_54_3))<|(zV (xlb 0 pl_3 hS))<|(zV (Uk (r:=(Int.tdiv (s.val+s.den-1) s.den))))<|(On)<|zx1<|zf2 ⟨_,rfl,?_⟩
 exact⟨_,0,rfl,.inr ⟨hsd,rfl,rfl⟩,hS.nl⟩
def VZ(p:Prob)(i:Int):Of:=fun j=>if j=i then min (p.D i) ((p.stock+p.kerf).tdiv (p.L i+p.kerf)) else 0
theorem Zgw(p:Prob)(i:Int):upd (fun _=>0) i (min (p.D i) ((p.stock+p.kerf).tdiv (p.L i+p.kerf)))=VZ p i:=by
 funext j;unfold upd VZ;rfl
theorem Zpw{vL vD:Value}{p:Prob}{gp:Nat}{i:Int}(w0:World)(hG:(Ent.blk gp [vL,vD,.int Oi p.stock,.int Oi p.kerf]).holds w0)(h:PAt w0 vL vD p)(hok:p.Ok)(i0:0<=i)(i1:i<p.m):
   Calls Om 158 [.int Oi i,Or gp].toArray w0 fun e w=>∃v,e= .returned v/\∃r,v=r/\Slh r p.m/\Sat w0 w [.own r 1 3 p.m (ints (VZ p i))]:=by
 obtain⟨hm,hm1,hd,hd1,hs,hk⟩:=h.Oq
 have hpd:=hok.d;have hpm:=hok.m1;have xb:=hok.m2;have hs1:=hok.s1;have hs2:=hok.s2;have hk1:=hok.k1;have hk2:=hok.k2;have he:=hok.all i i0 i1;unfold Prob.each at he
 have hqd:=YU (a:=p.stock+p.kerf) (d:=p.L i+p.kerf) (A:=2100) Oa Oa
 refine zenG Tryz.func158 Tryz.ntmps158 fun w hS=> ?_
 refine zsr<|(zP)<|zlz<|(zV (xfb 0 fd_27_0))<|(zV (xlf pl_22 (Ent.holds.cell hG (o:=0) rfl) hS))<|(zV (xln Zb h.L.slh))<|zla (xmk Zb ZJ hS) ?_;rintro v1 w ⟨hS,hv1⟩
 refine(zP)<|zx7<|zdst [0] [] 23 mx_ hS ?_;clear hS;intro w hS
 refine(zDw 0 xmv)<|(zDw 1 xmv)<|(zDw 2 (xfb 1 fd_27_1))<|(zDl 3 (fun w hS=>(xlf pl_22 (Ent.holds.cell hG (o:=1) rfl) hS)))<|(zDw 4 xmv)<|(zDw 5 (xix (kk:=i) Zb h.D.slh))<|YF 6 (fun w hS=>(xlr (u:= .int Oi (p.D i)) pl_3 (h.D.below hS.below))) ?_
 have hbv:=h.iD i
 refine(zDw 7 (xfb 2 fd_27_2))<|(zDl 8 (fun w hS=>(xlf pl_3 (Ent.holds.cell hG (o:=2) rfl) hS)))<|(zDw 9 (xfb 3 fd_27_3))<|(zDl 10 (fun w hS=>(xlf pl_3 (Ent.holds.cell hG (o:=3) rfl) hS)))<|(zDw 11 (Zh (r:=p.stock+p.kerf)))<|(zDw 12 (xfb 0 fd_27_0))<|(zDl 13 (fun w hS=>(xlf pl_22 (Ent.holds.cell hG (o:=0) rfl) hS)))<|(zDw 14 xmv)<|(zDw 15 (xix (kk:=i) Zb h.L.slh))<|YF 16 (fun w hS=>(xlr (u:= .int Oi (p.L i)) pl_3 (h.L.below hS.below))) ?_
 have hbv:=h.iL i
 refine(zDw 17 (xfb 3 fd_27_3))<|(zDl 18 (fun w hS=>(xlf pl_3 (Ent.holds.cell hG (o:=3) rfl) hS)))<|(zDw 19 (Zh (r:=p.L i+p.kerf)))<|(zDw 20 (Uk (r:=(Int.tdiv (p.stock+p.kerf) (p.L i+p.kerf)))))<|(zDw 21 (Rr (r:=(min (p.D i) (Int.tdiv (p.stock+p.kerf) (p.L i+p.kerf))))))<|(zDw 22 (xix (kk:=i) Zb hv1))<|zde 23 (xso 0 pl_3 hS (ZD _ _ _)) ?_;clear hS;rintro w hS
 refine⟨⟨fun h=>absurd h (by decide),hS.nl⟩,?_⟩
 refine zdd<|ztn<|zsr ?_
 refine(On)<|zx1<|Oj ?_
 rw [Zgw] at hS
 exact⟨_,rfl,hv1,hS⟩
variable {i:Int}
theorem Znd:Zd Om 158=true:=Oc
def stN(p:Prob):Nat->Int
  |0=>0
  |k+1=>if 0<p.D k then stN p k+1 else stN p k
def stL(p:Prob):Nat->Int->Int
  |0=>fun _=>0
  |k+1=>if 0<p.D k then gsn (stL p k) (stN p k) p.m else stL p k
def stG(p:Prob):Nat->Int->Int->Int
  |0=>fun _ _=>0
  |k+1=>if 0<p.D k then gsn (stG p k) (stN p k) (VZ p k) else stG p k
theorem Zbw(p:Prob)(h:0<=i):stN p (i+1).toNat=if 0<p.D i then stN p i.toNat+1 else stN p i.toNat:=by
 obtain⟨k,rfl⟩:=Int.eq_ofNat_of_zero_le h;rw [show((k:Int)+1).toNat=k+1 by omega,Int.toNat_natCast];rfl
theorem Zbx(p:Prob)(h:0<=i):stL p (i+1).toNat=if 0<p.D i then gsn (stL p i.toNat) (stN p i.toNat) p.m else stL p i.toNat:=by
 obtain⟨k,rfl⟩:=Int.eq_ofNat_of_zero_le h;rw [show((k:Int)+1).toNat=k+1 by omega,Int.toNat_natCast];rfl
theorem Zby(p:Prob)(h:0<=i):stG p (i+1).toNat=if 0<p.D i then gsn (stG p i.toNat) (stN p i.toNat) (VZ p i) else stG p i.toNat:=by
 obtain⟨k,rfl⟩:=Int.eq_ofNat_of_zero_le h;rw [show((k:Int)+1).toNat=k+1 by omega,Int.toNat_natCast];rfl
theorem VN(p:Prob):∀k:Nat,0<=stN p k/\stN p k<=k
 |0=>by simp [stN]
 | k+1=>by
   have:=VN p k
   simp only [stN];split<;>omega
def ZeL(p:Prob)(n:Int)(ln:Of)(g:Og)(e:Int):Prop:=(¬p.Ok/\n=0/\e=1)\/(p.Ok/\n=stN p p.m.toNat/\ln=stL p p.m.toNat/\g=stG p p.m.toNat/\e=0)
theorem Zib{vL vD:Value}{p:Prob}(w0:World)(h:PAt w0 vL vD p):
   Calls Om 85 [.agg #[vL,vD,.int Oi p.stock,.int Oi p.kerf]].toArray w0 fun e w=>∃v,e= .returned v/\∃r n vv ln g e,v= .tuple #[r,.int Oi e]/\ZeL p n ln g e/\Slh r n/\Sat w0 w [.own r 1 22 n vv,.sem (Frame.rows 3 n vv ln g)]:=by
 obtain⟨hm,hm1,hd,hd1,hs,hk⟩:=h.Oq
 refine zenG Tryz.func85 Tryz.ntmps85 fun w hS=> ?_
 refine zsr<|zla (xbx (cs:= [_,_,_,_]) hS) ?_;rintro _ w ⟨g1,rfl,hS⟩
 refine(On)<|zx5<|(zV (xls 0 st_27 hS))<|zlc (xc0 XP) (Ya (p:=p) w (h.below hS.below)) ?_;rintro _ w ⟨rfl,hS'⟩
 replace hS:=hS.cmp hS';clear hS'
 refine(zP)<|zlt<|Zf ?_ ?_<;>intro hc
 ·
  refine zsr<|(On)<|zx14<|zf2 ⟨_,rfl,?_⟩
  exact⟨_,0,fun _=>undef,fun _=>0,fun _ _=>0,1,rfl,.inl ⟨‹¬p.Ok›,rfl,rfl⟩,slh_nil,((hS.sub (.cons _ .slnil)).addnil 1 22 (fun _=>undef)).addrows 3 (fun _=>undef) (fun _=>0) (fun _ _=>0)⟩
 refine ZV<|(zV xmf)<|(zP)<|zlz<|(zP)<|zx5<|(zV (xfb 1 fd_27_1))<|(zV (xlb 0 pl_22 hS))<|(zV (xln Zb h.D.slh))<|(zP)<|zx6 ?_
 have hok:p.Ok:=by first|assumption|exact Od ‹_›
 have hpd:=hok.d;have hpm:=hok.m1;have xb:=hok.m2
 replace hS:=hS.addnil 1 22 (fun _=>Oh)
 replace hS:=hS.addrows 3 (fun _=>Oh) (fun _=>0) (fun _ _=>0)
 have aV:=fun k (k0:0<=k) (k1:k<0)=>hS.slhIn 2 rfl k0 k1
 refine zlp (fun mm M w=>∃(nC:Int) (wv:Int->Value) (lC:Of) (gC:Og) (i:Int) (wC:Value),mm=((p.d-i).toNat)/\(0<=i)/\(i<=p.d)/\(nC=stN p i.toNat)/\(lC=stL p i.toNat)/\(gC=stG p i.toNat)/\(Slh wC nC)/\M= [(2,Oh),(3,.int Oi 0),(4,.func (.func 158) #[] #[Or g1]),(5,wC),(13,vD),(14,.int Oi p.d),(15,.int Oi i)]/\Sat w0 w [.blk g1 [vL,vD,.int Oi p.stock,.int Oi p.kerf],.own wC 1 22 nC wv,.sem (Frame.rows 3 nC wv lC gC)]) ⟨0,(fun _=>Oh),(fun _=>0),(fun _ _=>0),0,Oh,rfl,Oa,Oa,?_,?_,?_,?_,rfl,hS⟩ ?_
 ·
  rfl
 ·
  rfl
 ·
  rfl
 ·
  exact slh_nil
 clear hS w
 rintro mm M w ⟨nC,wv,lC,gC,i,wC,rfl,h0,h1,hnC,hlC,hgC,hwC,rfl,hS⟩
 have xp:=fun k (k0:0<=k) (k1:k<nC)=>hS.slhIn 2 rfl k0 k1
 have hnr:=VN p i.toNat
 refine zsr<|(zP)<|zx7<|Zf ?_ ?_<;>intro hc
 ·
  refine zx3<|(zP)<|(zV (xix (kk:=i) Zb h.D.slh))<|zlv (xlr (u:= .int Oi (p.D i)) pl_3 (h.D.below hS.below)) ?_
  have hbv:=h.iD i
  refine(On)<|zlz<|(On)<|zlt<|Zf ?_ ?_<;>intro hc
  ·
   refine zrg<|(Oo)<|zlc (xcc (vs:= [_]) Znd) (Zpw (p:=p) (i:=i) w (hS.holds _ (List.mem_of_getElem? (i:=0) rfl)) (h.below hS.below) hok Oa Oa) ?_;rintro bF w ⟨_,rfl,co,hS'⟩
   replace hS:=(hS.comp hS').n4;clear hS'
   refine zla (xli (n:=1) (len:=1) (pv:= [(0,bF)]) (cs:= [bF]) (c:=(fun _=>bF)) Zk Yl hS (hf:=by obtain⟨_,_,_,_,rfl,_⟩:=co;kernel_rfl)) ?_;rintro v1 w ⟨hS,hv1⟩
   refine zla (xap 1 (r:=nC+1) Zk Yl hS (hS.rowN 4 rfl) (WE _ _ _) (h1:=fun _ _ _=>co.one)) ?_;rintro v2 w ⟨hS,hv2⟩
   replace hS:=Sat.merge (l1:= [_,_]) (l2:= []) (l3:= [_]) hS Oa
   have za:=fun k (k0:0<=k) (k1:k<nC+1)=>hS.slhIn 2 rfl k0 k1
   refine(zP)<|zx10<|(zV (Zh (r:=i+1)))<|(zP)<|zln<|zlq ⟨nC+1,gsn wv nC bF,gsn lC nC p.m,gsn gC nC (VZ p i),i+1,v2,rfl,Oa,Oa,?_,?_,?_,?_,rfl,hS.pk [0,1,2]⟩
   ·
    rw [Zbw p h0,<-hnC];first|rw [if_pos Oa]|rw [if_neg Oa]
   ·
    rw [Zbx p h0,<-hlC,<-hnC];first|rw [if_pos Oa]|rw [if_neg Oa]
   ·
    rw [Zby p h0,<-hgC,<-hnC];first|rw [if_pos Oa]|rw [if_neg Oa]
   ·
    exact hv2
  refine zx4<|(zV (Zh (r:=i+1)))<|(zP)<|zln<|zlq ⟨nC,wv,lC,gC,i+1,wC,rfl,Oa,Oa,?_,?_,?_,?_,rfl,hS⟩
  ·
   rw [Zbw p h0,<-hnC];first|rw [if_pos Oa]|rw [if_neg Oa]
  ·
   rw [Zbx p h0,<-hlC,<-hnC];first|rw [if_pos Oa]|rw [if_neg Oa]
  ·
   rw [Zby p h0,<-hgC,<-hnC];first|rw [if_pos Oa]|rw [if_neg Oa]
  ·
   exact hwC
 refine zx8<|(Oo)<|zx1<|zf2 ⟨_,rfl,?_⟩
 have him:i=p.m:=Oa
 rw [him] at hnC hlC hgC
 exact⟨_,_,_,_,_,0,rfl,.inr ⟨hok,hnC,hlC,hgC,rfl⟩,hwC,hS.pk [1,2]⟩
end Go.Proofs.YtpnamgfdakfccaaGreat
namespace Go.Proofs.Gw
open Go Go.RowKit
theorem bnd{P:Int->Prop}{n:Int}(h:∀k,k<n.toNat->P (k:Int)):∀i,0<=i->i<n->P i:=fun i i0 i1=>by
 have:=h i.toNat Oa;rwa [Int.toNat_of_nonneg i0] at this
def pEx:Lp:=⟨2,2,2,fun k=> [1,1].getD k.toNat 0,ZX 2 2,ZX (fun k=> [2,1].getD k.toNat 0) (fun k=> [1,3].getD k.toNat 0),fun k=> [3,4].getD k.toNat 0⟩
theorem Zy(pv:Int->Value)(cnt:Of){k i:Int}(h:k=2*i):∀(j:Nat) u, [pv i,Value.int Oi (cnt i)][j]? =some u->Ze pv cnt (k+j)=u:=fun j u hu=>by
 rcases j with _|_|j
 · cases hu;exact ZiQ pv cnt Oa
 · cases hu;exact ZdO pv cnt Oa
 · simp at hu
theorem Xe{pv:Int->Value}{cnt:Of}(h:∀i,(pv i).oneCell'=true)(k:Int):(Ze pv cnt k).oneCell'=true:=by
 unfold Ze
 split
 · exact h _
 · rfl
theorem Xn(pv:Int->Value)(cnt:Of)(n:Int)(r:Value)(x:Int):cat (n*2) (Ze pv cnt) (Ze (fun _=>r) (fun _=>x))=Ze (gsn pv n r) (snoc cnt n x):=by
 funext k
 unfold cat Ze gsn snoc
 by_cases h:k<n*2
 · have h2:k/2<n:=Oa
   simp only [if_pos h,if_pos h2]
 · have h2:¬k/2<n:=Oa
   simp only [if_neg h,if_neg h2]
   by_cases e:k%2=0
   · rw [if_pos e,if_pos Oa]
   · rw [if_neg e,if_neg Oa]
theorem Zbn(pv:Int->Value)(cnt:Of){k i x:Int}(h:k=2*i+1):upd (Ze pv cnt) k (.int Oi x)=Ze pv (upd cnt i x):=by
 funext j;unfold upd Ze;dsimp only
 by_cases e:j=k
 · rw [if_pos e,if_neg Oa,if_pos Oa]
 · rw [if_neg e]
   by_cases e0:j%2=0
   · rw [if_pos e0,if_pos e0]
   · rw [if_neg e0,if_neg e0,if_neg Oa]
structure VAt (w:World) (v:Value) (n:Int) (pv:Int->Value) (ln:Of) (pt:Og) (cnt:Of):Prop where
  row:Row w v 2 n (Ze pv cnt)
  p:∀i,0<=i->i<n->Row w (pv i) 1 (ln i) (ints (pt i))
  room:∀i,0<=i->i<n->W0 (pv i)
theorem VAt.below{w w':World}{v:Value}{n:Int}{pv:Int->Value}{ln:Of}{pt:Og}{cnt:Of}(h:VAt w v n pv ln pt cnt)(hb:Below w.heap.size w w'):VAt w' v n pv ln pt cnt:=
 ⟨h.row.below hb,fun i h0 h1=>(h.p i h0 h1).below hb,h.room⟩
end Go.Proofs.Gw
namespace Go.Proofs.YtpnamgfdakfccaaGreat
open Go Go.RowKit Go.Proofs.Gw
variable {i:Int}
theorem Y8:ZN Om 97=some (.agg #[Oh,.int Oi 0],2,32):=Oc
theorem ZR:Zu Om 29=some (97,2):=Oc
def flN(s:So):Nat->Int
  |0=>0
  |k+1=>if s.den<=s.X k then flN s k+1 else flN s k
def flL(s:So)(ml:Of):Nat->Int->Int
  |0=>fun _=>0
  |k+1=>if s.den<=s.X k then gsn (flL s ml k) (flN s k) (ml k) else flL s ml k
def flG(s:So)(mf:Og):Nat->Int->Int->Int
  |0=>fun _ _=>0
  |k+1=>if s.den<=s.X k then gsn (flG s mf k) (flN s k) (mf k) else flG s mf k
def flC(s:So):Nat->Int->Int
  |0=>fun _=>0
  |k+1=>if s.den<=s.X k then snoc (flC s k) (flN s k) ((s.X k).tdiv s.den) else flC s k
theorem Zcd(s:So)(h:0<=i):flN s (i+1).toNat=if s.den<=s.X i then flN s i.toNat+1 else flN s i.toNat:=by
 obtain⟨k,rfl⟩:=Int.eq_ofNat_of_zero_le h;rw [show((k:Int)+1).toNat=k+1 by omega,Int.toNat_natCast];rfl
theorem Zce(s:So)(ml:Of)(h:0<=i):flL s ml (i+1).toNat=if s.den<=s.X i then gsn (flL s ml i.toNat) (flN s i.toNat) (ml i) else flL s ml i.toNat:=by
 obtain⟨k,rfl⟩:=Int.eq_ofNat_of_zero_le h;rw [show((k:Int)+1).toNat=k+1 by omega,Int.toNat_natCast];rfl
theorem Zcf(s:So)(mf:Og)(h:0<=i):flG s mf (i+1).toNat=if s.den<=s.X i then gsn (flG s mf i.toNat) (flN s i.toNat) (mf i) else flG s mf i.toNat:=by
 obtain⟨k,rfl⟩:=Int.eq_ofNat_of_zero_le h;rw [show((k:Int)+1).toNat=k+1 by omega,Int.toNat_natCast];rfl
theorem Zcg(s:So)(h:0<=i):flC s (i+1).toNat=if s.den<=s.X i then snoc (flC s i.toNat) (flN s i.toNat) ((s.X i).tdiv s.den) else flC s i.toNat:=by
 obtain⟨k,rfl⟩:=Int.eq_ofNat_of_zero_le h;rw [show((k:Int)+1).toNat=k+1 by omega,Int.toNat_natCast];rfl
theorem Zaz(s:So):∀k:Nat,0<=flN s k/\flN s k<=k
 |0=>by simp [flN]
 | k+1=>by
   have:=Zaz s k
   simp only [flN];split<;>omega
def Zon(s:So)(u:Int)(ml:Of)(mf:Og)(n:Int)(ln:Of)(pt:Og)(cnt:Of)(e:Int):Prop:=
  (¬(Yr s/\u=s.n)/\n=0/\e=1)\/(Yr s/\u=s.n/\n=flN s u.toNat/\ln=flL s ml u.toNat/\pt=flG s mf u.toNat/\cnt=flC s u.toNat/\e=0)
theorem ZfE{vM:Value}{u:Int}{mv:Int->Value}{ml:Of}{mf:Og}{vX vY:Value}{s:So}(w0:World)(hM:MAt w0 vM u mv ml mf)(hX:Row w0 vX 1 s.n (ints s.X))(hY:Row w0 vY 1 s.m (ints s.Y))(xA:s.n<=1000)(hml:∀k,0<=k->k<u->ml k<=100000):
   Calls Om 150 [vM,.agg #[vX,vY,.int Oi s.val,.int Oi s.den]].toArray w0 fun e w=>∃v,e= .returned v/\∃r n pv ln pt cnt e,v= .tuple #[r,.int Oi e]/\Zon s u ml mf n ln pt cnt e/\Slh r n/\Sat w0 w [.own r 2 97 n (Ze pv cnt),.sem (Frame.rows 3 n pv ln pt)]:=by
 have hn:=hX.slh.n0;have hn1:=hX.slh.n1
 have hu:=hM.row.slh.n0;have hu1:=hM.row.slh.n1
 refine zenG Tryz.func150 Tryz.ntmps150 fun w hS=> ?_
 refine zsr<|zla (xbx (cs:= [_,_,_,_]) hS) ?_;rintro _ w ⟨g1,rfl,hS⟩
 refine(On)<|zx5<|(zV (xls 0 ZT hS))<|zlc (xc0 ZhB) (UJ (s:=s) w (hX.below hS.below) (hY.below hS.below) Oa) ?_;rintro _ w ⟨rfl,hS'⟩
 replace hS:=hS.cmp hS';clear hS'
 refine(On)<|zlb 12 ?_ ?_<;>intro hc
 ·
  iterate 6 refine zlo ?_
  refine(zP)<|zlt<|zct<|zsr ?_
  refine(On)<|zx14<|zf2 ⟨_,rfl,?_⟩
  exact⟨_,0,fun _=>undef,fun _=>0,fun _ _=>0,fun _=>0,1,rfl,.inl ⟨by first|exact fun hh=>absurd hh.1 ‹¬Yr s›|(rintro⟨_,hh⟩;omega),rfl,rfl⟩,slh_nil,((hS.sub (.cons _ .slnil)).addnil 2 97 (Ze (fun _=>undef) (fun _=>0))).addrows 3 (fun _=>undef) (fun _=>0) (fun _ _=>0)⟩
 refine(zP)<|(zV (xln Zk hM.row.slh))<|(zV (xfb 0 fd_54_0))<|(zV (xlb 0 pl_22 hS))<|(zV (xln Zb hX.slh))<|(On)<|zlt<|Zf ?_ ?_<;>intro hc
 ·
  refine zsr<|(On)<|zx14<|zf2 ⟨_,rfl,?_⟩
  exact⟨_,0,fun _=>undef,fun _=>0,fun _ _=>0,fun _=>0,1,rfl,.inl ⟨by first|exact fun hh=>absurd hh.1 ‹¬Yr s›|(rintro⟨_,hh⟩;omega),rfl,rfl⟩,slh_nil,((hS.sub (.cons _ .slnil)).addnil 2 97 (Ze (fun _=>undef) (fun _=>0))).addrows 3 (fun _=>undef) (fun _=>0) (fun _ _=>0)⟩
 refine ZV<|(zP)<|zx5<|(zV (xfb 0 fd_54_0))<|(zV (xlb 0 pl_22 hS))<|(zV (xln Zb hX.slh))<|(zP)<|zx6 ?_
 have hsd:Yr s:=by first|assumption|exact Od ‹_›
 obtain⟨⟨d1,d2⟩,⟨d3,d4⟩,d5⟩:=id hsd
 have hun:u=s.n:=Oa
 replace hS:=hS.addnil 2 97 (Ze (fun _=>Oh) (fun _=>0))
 replace hS:=hS.addrows 3 (fun _=>Oh) (fun _=>0) (fun _ _=>0)
 have aV:=fun k (k0:0<=k) (k1:k<0)=>hS.slhIn 2 rfl k0 k1
 refine zlp (fun mm M w=>∃(nC:Int) (wv:Int->Value) (lC:Of) (gC:Og) (cC:Of) (i:Int) (wC:Value),mm=((s.n-i).toNat)/\(0<=i)/\(i<=s.n)/\(nC=flN s i.toNat)/\(lC=flL s ml i.toNat)/\(gC=flG s mf i.toNat)/\(cC=flC s i.toNat)/\(Slh wC nC)/\M= [(0,vM),(3,Or g1),(4,Oh),(5,.int Oi 0),(6,wC),(21,vX),(22,.int Oi s.n),(23,.int Oi i)]/\Sat w0 w [.blk g1 [vX,vY,.int Oi s.val,.int Oi s.den],.own wC 2 97 nC (Ze wv cC),.sem (Frame.rows 3 nC wv lC gC)]) ⟨0,(fun _=>Oh),(fun _=>0),(fun _ _=>0),(fun _=>0),0,Oh,rfl,Oa,Oa,?_,?_,?_,?_,?_,rfl,hS⟩ ?_
 ·
  rfl
 ·
  rfl
 ·
  rfl
 ·
  rfl
 ·
  exact slh_nil
 clear hS w
 rintro mm M w ⟨nC,wv,lC,gC,cC,i,wC,rfl,h0,h1,hnC,hlC,hgC,hcC,hwC,rfl,hS⟩
 have xp:=fun k (k0:0<=k) (k1:k<nC)=>hS.slhIn 2 rfl k0 k1
 have hnr:=Zaz s i.toNat
 refine zsr<|(zP)<|zx7<|Zf ?_ ?_<;>intro hc
 ·
  refine zx3<|(zP)<|(zV (xix (kk:=i) Zb hX.slh))<|(zV (xlr (u:= .int Oi (s.X i)) pl_3 (hX.below hS.below)))<|(On)<|zlz<|(zP)<|(zV (xfb 3 fd_54_3))<|(zV (xlb 0 pl_3 hS))<|(zP)<|zlt<|Zf ?_ ?_<;>intro hc
  ·
   refine zdst [0] [0] 1000 mx_ hS ?_;clear hS;intro w hS
   refine(zDw 0 xmv)<|(zDw 1 xmv)<|(zDw 2 xmv)<|(zDw 3 (xix (kk:=i) Zk hM.row.slh))<|YF 4 (fun w hS=>(xlr (u:=(mv i)) pl_22 (hM.row.below hS.below))) ?_
   have mh:=hml i h0 Oa
   refine(zDw 6 xmv)<|(zDw 7 (xfb 3 fd_54_3))<|YF 8 (fun w hS=>(xlb 0 pl_3 hS)) ?_
   have hqd:=YU (a:=s.X i) (d:=s.den) (A:=1073741824) Oa (by have:=d5 i h0 Oa;omega)
   refine(zDw 9 (Uk (r:=(Int.tdiv (s.X i) s.den))))<|zdc 5 (xc0 cl_66) (c_clone (n:=(ml i)) (f:=(mf i)) w ((hM.p i Oa Oa).below hS.below) Oa) ?_;rintro vq1 w ⟨_,rfl,qb,hS'⟩
   replace hS:=(hS.comp hS').n4;clear hS'
   refine⟨⟨fun _=>hS.pk [0],hS.pk [0]⟩,?_⟩
   refine zDrv 10 (xany (v:= .agg #[vq1,.int Oi (Int.tdiv (s.X i) s.den)]) (hr:=by obtain⟨_,_,_,_,rfl,_⟩:=qb;kernel_rfl)) ?_
   refine zda 11 (xli (n:=1) (len:=1) (pv:= [(0,.agg #[vq1,.int Oi (Int.tdiv (s.X i) s.den)])]) (cs:= [vq1,.int Oi (Int.tdiv (s.X i) s.den)]) (c:=Ze (fun _=>vq1) (fun _=>(Int.tdiv (s.X i) s.den))) ZR Y8 hS (hf:=by obtain⟨_,_,_,_,rfl,_⟩:=qb;kernel_rfl)) ?_;rintro v1 w ⟨hS,hv1⟩
   refine⟨⟨fun _=>hS.pk [0],hS.pk [0]⟩,?_⟩
   refine zda 12 (xap 1 (r:=nC+1) ZR Y8 hS (hS.rowN 4 rfl) (Xn _ _ _ _ _) (h1:=fun k _ _=>Xe (fun _=>qb.one) k)) ?_;rintro v2 w ⟨hS,hv2⟩
   replace hS:=Sat.merge (l1:= [_,_]) (l2:= []) (l3:= [_]) hS Oa
   have za:=fun k (k0:0<=k) (k1:k<nC+1)=>hS.slhIn 2 rfl k0 k1
   refine⟨⟨fun _=>hS.pk [0],hS.pk [0]⟩,?_⟩
   refine(zDw 13 xas)<|zdd<|zbn<|ztn<|zrg ?_
   refine(zV (Zh (r:=i+1)))<|(zP)<|zln<|zlq ⟨nC+1,gsn wv nC vq1,gsn lC nC (ml i),gsn gC nC (mf i),(snoc cC nC (Int.tdiv (s.X i) s.den)),i+1,v2,rfl,Oa,Oa,?_,?_,?_,?_,?_,rfl,hS.pk [0,1,2]⟩
   ·
    rw [Zcd s h0,<-hnC];first|rw [if_pos Oa]|rw [if_neg Oa]
   ·
    rw [Zce s ml h0,<-hlC,<-hnC];first|rw [if_pos Oa]|rw [if_neg Oa]
   ·
    rw [Zcf s mf h0,<-hgC,<-hnC];first|rw [if_pos Oa]|rw [if_neg Oa]
   ·
    rw [Zcg s h0,<-hcC,<-hnC];first|rw [if_pos Oa]|rw [if_neg Oa]
   ·
    exact hv2
  refine zx4<|(zV (Zh (r:=i+1)))<|(zP)<|zln<|zlq ⟨nC,wv,lC,gC,cC,i+1,wC,rfl,Oa,Oa,?_,?_,?_,?_,?_,rfl,hS⟩
  ·
   rw [Zcd s h0,<-hnC];first|rw [if_pos Oa]|rw [if_neg Oa]
  ·
   rw [Zce s ml h0,<-hlC,<-hnC];first|rw [if_pos Oa]|rw [if_neg Oa]
  ·
   rw [Zcf s mf h0,<-hgC,<-hnC];first|rw [if_pos Oa]|rw [if_neg Oa]
  ·
   rw [Zcg s h0,<-hcC,<-hnC];first|rw [if_pos Oa]|rw [if_neg Oa]
  ·
   exact hwC
 refine zx8<|(Oo)<|zx1<|zf2 ⟨_,rfl,?_⟩
 have him:i=u:=Oa
 rw [him] at hnC hlC hgC hcC
 exact⟨_,_,_,_,_,_,0,rfl,.inr ⟨hsd,hun,hnC,hlC,hgC,hcC,rfl⟩,hwC,hS.pk [1,2]⟩
end Go.Proofs.YtpnamgfdakfccaaGreat
namespace Go.Proofs.Gw
open Go Go.RowKit
def Frame.dq (E:TypeId) (v:Value) (n:Int) (f:Of):Frame where
  holds w:=0<=n/\n<=140737488355328/\((v=Oh/\n=0)\/∃g off cap cur,v= .slice (some ⟨g,off,none⟩) n.toNat cap/\w.heap[g]? =some (.cells cur E (0,0))/\n.toNat<=cap/\cap<=maxLen/\off+cap<=cur.size/\
    ∀k:Nat,(k:Int)<n->cur[off+k]? =some (.int Oi (f k)))
  has g:=∃a l c,v= .slice (some a) l c/\a.block=g
  keep h hk:=by
    obtain⟨h0,h1,h|⟨g,off,cap,cur,rfl,hg,h⟩⟩:=h
    · exact⟨h0,h1,.inl h⟩
    · exact⟨h0,h1,.inr ⟨g,off,cap,cur,rfl,by rw [hk g ⟨_,_,_,rfl,rfl⟩];exact hg,h⟩⟩
  lt h hg:=by
    obtain⟨_,_,h|⟨g,off,cap,cur,rfl,h2,_⟩⟩:=h
    · obtain⟨rfl,_⟩:=h;obtain⟨_,_,_,e,_⟩:=hg;cases e
    · obtain⟨_,_,_,e,rfl⟩:=hg;cases e;exact(Array.getElem?_eq_some_iff.1 h2).1
section
variable {P:Program} {L:List (Nat×Value)} {w w0:World} {o:Oper} {x y z:Operand} {T T':TypeId} {l:List Ent} {E:TypeId} {v:Value} {n:Int} {f:Of}
theorem Frame.dq.row(h:(Frame.dq E v n f).holds w):Row w v 1 n (ints f):=by
 obtain⟨h0,h1,⟨rfl,rfl⟩|⟨g,off,cap,cur,rfl,hg,_,_,_,hc⟩⟩:=h
 · exact Td _ _ _
 · refine⟨⟨h0,h1,_,_,rfl,.inr ⟨g,off,rfl⟩⟩,fun k hk=> ?_⟩
   have hk2:(k:Int)<n:=Oa
   have:=hc k hk2
   show w.cell? ⟨g,off+(k:Int).toNat,none⟩=_
   rw [cell_of_row w g _ cur E (0,0) hg]
   rw [show(k:Int).toNat=k by omega,this];rfl
theorem Frame.dq.roomy(h:(Frame.dq E v n f).holds w):W0 v:=fun a len cap e=>by
 obtain⟨_,_,⟨rfl,_⟩|⟨g,off,cap',cur,rfl,_,h2,_⟩⟩:=h
 · cases e;omega
 · cases e;exact h2
theorem Sat.dqOf(h:Sat w0 w l)(i:Nat)(hi:l[i]? =some (.sem (Frame.dq E v n f))):(Frame.dq E v n f).holds w:=h.holds _ (List.mem_of_getElem? hi)
theorem Sat.dqnil(h:Sat w0 w l)(E:TypeId)(f:Of):Sat w0 w (l++ [.sem (Frame.dq E Oh 0 f)]):=by
 refine h.comp (m:= [.sem (Frame.dq E Oh 0 f)]) ⟨Below.refl _ _,?_,?_,List.pairwise_singleton _ _⟩
 · intro e he
   obtain rfl:=List.mem_singleton.1 he
   exact⟨by omega,Oa,.inl ⟨rfl,rfl⟩⟩
 · intro e he g hg
   obtain rfl:=List.mem_singleton.1 he
   obtain⟨_,_,_,e,_⟩:=hg;cases e
theorem Sat.resem{F G:Frame}(h:Sat w0 w l)(i:Nat)(hi:l[i]? =some (.sem F))(hG:F.holds w->G.holds w)(hh:∀g,G.has g->F.has g):Sat w0 w (l.set i (.sem G)):=by
 have h':=h
 rw [Z3 hi] at h'
 rw [Yx hi]
 exact h'.turn (d:= .sem F) (fun k _ _=>rfl) rfl rfl rfl (Nat.le_refl _) (hG (h.holds _ (List.mem_of_getElem? hi))) (fun g hg=> .inl (hh g hg))
theorem Sat.dqpre (h :Sat w0 w l) (i:Nat) (q:Nat) (hq:(q:Int)<=n) (hi:l[i]? =some (.sem (Frame.dq E v n f)):=by exact rfl):Sat w0 w (l.set i (.sem (Frame.dq E (Ru v q) q f))):=
 h.resem i hi (fun ⟨h0,h1,hd⟩=>⟨by omega,Oa,by
   rcases hd with⟨rfl,rfl⟩|⟨g,off,cap,cur,rfl,hg,h2,h3,h4,h5⟩
   · exact .inl ⟨by obtain rfl:q=0:=Oa
                    rfl,Oa⟩
   · exact .inr ⟨g,off,cap,cur,by simp [Ru],hg,Oa,h3,h4,fun k hk=>h5 k Oa⟩⟩) (fun g ⟨a',lh,c,e,eb⟩=>by
   cases v with
   |slice a len cap=>cases e;exact⟨_,_,_,rfl,eb⟩
   |_=>cases e)
theorem Kw{e:Int}(h:Slh v n)(h0:0<=e)(h1:e<=n):Slh (Ru v e.toNat) e:=by
 have:=ZdZ (q:=e.toNat) h Oa
 rwa [Int.toNat_of_nonneg h0] at this
theorem Kv{m:Int}(h:Slh v n)(hr:W0 v)(h1:1<=n)(e:n-1=m):Slh (Xv v 1) m:=by
 subst e;exact(YV (q:=1) h hr Oa).slh
theorem Sat.dqn(h:Sat w0 w l)(i:Nat){m:Int}(e:n=m)(hi:l[i]? =some (.sem (Frame.dq E v n f)):=by exact rfl):Sat w0 w (l.set i (.sem (Frame.dq E v m f))):=by subst e;exact h.resem i hi id fun _ hg=>hg
theorem Sat.dqsuf (h:Sat w0 w l) (i:Nat) (q:Nat) (hq:(q:Int)<n) (hi:l[i]? =some (.sem (Frame.dq E v n f)):=by exact rfl):Sat w0 w (l.set i (.sem (Frame.dq E (Xv v q) (n-q) (fun k=>f (k+q))))):=
 h.resem i hi (fun⟨h0,h1,hd⟩=>⟨by omega,Oa,by
   rcases hd with⟨rfl,rfl⟩|⟨g,off,cap,cur,rfl,hg,h2,h3,h4,h5⟩
   · omega
   · refine .inr ⟨g,off+q,cap-q,cur,?_,hg,Oa,Oa,Oa,fun k hk=> ?_⟩
     · unfold Xv;dsimp only;rw [if_neg Oa];simp;try omega
     · rw [show off+q+k=off+(k+q) by omega,h5 (k+q) Oa];congr 3⟩) (fun g ⟨a',lh,c,e,eb⟩=>by
   cases v with
   | slice a len cap=>cases a with
     |none=>simp [Xv] at e
     | some a=>
       unfold Xv at e;dsimp only at e
       split at e
       · cases e;exact⟨_,_,_,rfl,eb⟩
       · cases e;exact⟨_,_,_,rfl,eb⟩
   |_=>cases e)
theorem Zle {u:Value} {b:Nat} {a:Int} {zv:Value} (i:Nat) (ht:Zu P T=some (E,1)) (he:ZN P E=some (zv,1,b)) (hS:Sat w0 w l) (hu:Row w u 1 1 (ints fun _=>a)) (ho:o.op= .call {callee:= .builtin .append,args:= #[x,y],argTypes:= #[T,T]}:=by exact rfl) (hz:zv.cells.size=1:=by exact rfl)
   (hi:l[i]? =some (.sem (Frame.dq E v n f)):=by exact rfl) (hx:evL L x=some v:=by exact rfl) (hy:evL L y=some u:=by exact rfl) (hb:b*(n+1)<=140737488355328:=by omega) (hnm:n+1<=140737488355328:=by omega):
   ∃q w',Runs P L w o (.value q) w'/\Sat w0 w' (l.set i (.sem (Frame.dq E q (n+1) (snoc f n a))))/\Slh q (n+1):=by
 obtain⟨hut,_⟩:=Zr ht
 obtain⟨inf,xW,hzz,hsz,hby⟩:=Yq he
 have hd:=hS.dqOf i hi
 have qv:=Frame.dq.row hd
 obtain⟨h0,h1,hd⟩:=hd
 obtain⟨_,_,ua,ucap,rfl,hua⟩:=hu.slh
 obtain⟨ub,uoff,rfl⟩:∃ub uoff,ua=some ⟨ub,uoff,none⟩:=by rcases hua with h|h;omega;exact h
 have x4:∀j t, [Value.int Oi a][j]? =some t->w.cell? ((⟨ub,uoff,none⟩:Addr).add j)=some t:=fun j t hj=>by
   rcases j with _|j
   · cases hj
     have:=hu.2 0 Oa
     rw [Addr.add_eq _ rfl];simpa [cad,ints] using this
   · simp at hj
 have eb:(n.toNat+1)*b<=140737488355328:=by
   have:(((n.toNat+1)*b:Nat):Int)=b*(n+1):=by rw [Int.natCast_mul,Int.natCast_add,Int.toNat_of_nonneg h0,Int.mul_comm];rfl
   omega
 have h':=hS
 rw [Z3 hi] at h'
 have key:∃q w',(∀ty:TypeId,(Builtin.append_ #[T,T] ty #[v,.slice (some ⟨ub,uoff,none⟩) 1 ucap]).run P w= .ok q w')/\(Frame.dq E q (n+1) (snoc f n a)).holds w'/\(∀k,k<w.heap.size->¬(Frame.dq E v n f).has k->w'.heap[k]? =w.heap[k]?)/\w'.tape=w.tape/\w'.os=w.os/\w'.output=w.output/\w.heap.size<=w'.heap.size/\
     (∀g,(Frame.dq E q (n+1) (snoc f n a)).has g->(Frame.dq E v n f).has g\/w.heap.size<=g):=by
   have jd:n.toNat+1<=maxLen:=by unfold maxLen;omega
   have grown:∀(old:Nat),old<n.toNat+1->∀(zs:List Value),zs.length=n.toNat->(∀k:Nat,(k:Int)<n->zs[k]? =some (.int Oi (f k)))->
       (Frame.dq E (.slice (some ⟨w.heap.size,0,none⟩) (n.toNat+1) (grownCap w (n.toNat+1) old E)) (n+1) (snoc f n a)).holds (w.drew.alloc (.cells (zs.toArray++ [Value.int Oi a].toArray++Builtin.zeroCells zv.cells (grownCap w (n.toNat+1) old E-(n.toNat+1))) E)):=fun old ho zs hzl hzs=>by
     have hge:=grownCap_ge w (n.toNat+1) old E
     have hcm:grownCap w (n.toNat+1) old E<=maxLen:=grownCap_le_maxLen w (n.toNat+1) old E jd
     refine⟨by omega,hnm,.inr ⟨w.heap.size,0,_,_,by rw [show(n+1).toNat=n.toNat+1 by omega],heap_alloc_new w.drew _,Oa,hcm,?_,fun k hk=> ?_⟩⟩
     · simp only [Array.size_append,List.size_toArray,size_zeroCells,hz,hzl,List.length_cons,List.length_nil];omega
     · have e1:(zs.toArray++ [Value.int Oi a].toArray++Builtin.zeroCells zv.cells (grownCap w (n.toNat+1) old E-(n.toNat+1)))[0+k]? =(zs++ [Value.int Oi a])[k]? :=by
         rw [Nat.zero_add,Array.getElem?_append_left (by simp;omega)];simp
       rw [e1,List.getElem?_append]
       by_cases hk2:(k:Int)<n
       · rw [if_pos Oa,hzs k hk2,Zs hk2]
       · rw [if_neg Oa,show k-zs.length=0 by omega,Zt hk2];rfl
   rcases hd with⟨rfl,rfl⟩|⟨g,off,cap,cur,rfl,hg,h2,h3,h4,h5⟩
   · refine⟨_,_,fun ty=>run_append_nil (P:=P) w T ty E inf zv hut xW hzz ⟨ub,uoff,none⟩ 1 ucap [Value.int Oi a] (by rw [hsz];rfl) x4 Oa Oa (by rw [hby];omega),?_,fun k hk _=>heap_alloc_old w.drew _ hk,rfl,rfl,rfl,by simp,fun g ⟨_,_,_,e,eb⟩=>by cases e;exact .inr (Nat.le_of_eq eb)⟩
     have:=grown 0 Oa [] rfl (fun k hk=>Oa)
     simpa using this
   · by_cases qC:n.toNat+1<=cap
     · have yz:∀k,k<cur.size->w.cell? ⟨g,k,none⟩=cur[k]? :=fun k _=>cell_of_row w g k cur E (0,0) hg
       refine⟨_,_,fun ty=>run_append_room_cells (P:=P) w T ty E inf hut xW g off n.toNat cap ⟨ub,uoff,none⟩ 1 ucap [Value.int Oi a] (by rw [hsz];rfl) x4 (fun u hu=>by simp at hu;subst hu;rfl) qC (fun j hj=>by
           simp at hj;subst hj
           rw [hsz,Nat.mul_one,yz _ Oa];simp;omega) (fun j hj=>by
           simp at hj;subst hj
           simp [World.frozen?,hg]),?_,fun k hk hne=> ?_,rfl,rfl,rfl,?_,fun g' ⟨_,_,_,e,eb⟩=> .inl (by cases e;exact⟨_,_,_,rfl,eb⟩)⟩
       · refine⟨by omega,hnm,.inr ⟨g,off,cap,cur.setIfInBounds (off+n.toNat) (.int Oi a),by rw [show(n+1).toNat=n.toNat+1 by omega],?_,Oa,h3,by simp;omega,fun k hk=> ?_⟩⟩
         · simp [World.setCells,World.setCell,Array.getElem?_modify,hg,hsz]
         · rw [Array.getElem?_setIfInBounds]
           by_cases hk2:(k:Int)<n
           · rw [if_neg Oa,h5 k hk2,Zs hk2]
           · rw [if_pos Oa,if_pos Oa,Zt hk2]
       · exact Below.heap_setCell _ _ _ _ fun e=>hne (by rw [e];exact⟨_,_,_,rfl,rfl⟩)
       · simp [World.setCells,World.setCell]
     · have hol:∀k:Nat,(k:Int)<n->(Zo f n|>.map (Value.int .i64))[k]? =some (.int Oi (f k)):=fun k hk=>by
         have hk3:k<n.toNat:=Oa
         simp [Zo,hk3]
       have hll:(Zo f n|>.map (Value.int .i64)).length=n.toNat:=by simp [Zo]
       refine⟨_,_,fun ty=>run_append_grow (P:=P) w T ty E inf zv hut xW hzz ⟨g,off,none⟩ n.toNat cap (Zo f n|>.map (Value.int .i64)) (by rw [hsz,hll];omega) (fun j t hj=> ?_) ⟨ub,uoff,none⟩ 1 ucap [Value.int Oi a] (by rw [hsz];rfl) x4 Oa Oa (growslice_fits Oa (by rw [hby];exact eb)),?_,fun k hk _=>heap_alloc_old w.drew _ hk,rfl,rfl,rfl,by simp,fun g ⟨_,_,_,e,eb⟩=>by cases e;exact .inr (Nat.le_of_eq eb)⟩
       · have hj2:j<n.toNat:=by
           have:=(List.getElem?_eq_some_iff.1 hj).1;omega
         rw [hol j Oa] at hj;cases hj
         rw [Addr.add_eq _ rfl,cell_of_row w g _ cur E (0,0) hg];exact h5 j Oa
       · exact grown cap Oa _ hll hol
 obtain⟨q,w',hr,hq,hb1,ht1,ho1,hp1,hs1,hh⟩:=key
 refine⟨q,w',fun ρ h=> ?_,?_,(Frame.dq.row hq).slh⟩
 · simp [execOp,ho,resolve,invoke,builtin,h _ _ hx,h _ _ hy,hr]
 · rw [Yx hi]
   exact h'.turn hb1 ht1 ho1 hp1 hs1 hq hh
end
end Go.Proofs.Gw
namespace Go.Proofs.Gw
open Go Go.RowKit
variable {M cap i k m r y:Int} {A g x:Of}
structure DQ (A:Of) (M k q:Int) (g:Of):Prop where
  q0:0<=q
  rng:∀i,0<=i->i<q->max 0 (k-1-M)<=g i/\g i<=k-1
  mon:∀i,0<=i->i+1<q->g i<g (i+1)/\A (g (i+1))<A (g i)
  dom:∀j,max 0 (k-1-M)<=j->j<=k-1->∃i,0<=i/\i<q/\j<=g i/\A j<=A (g i)
structure DQp (A:Of) (M k q:Int) (g:Of):Prop where
  q0:0<=q
  rng:∀i,0<=i->i<q->max 0 (k-1-M)<=g i/\g i<=k-1
  mon:∀i,0<=i->i+1<q->g i<g (i+1)/\A (g (i+1))<A (g i)
  dom:∀j,max 0 (k-1-M)<=j->j<=k-1->(∃i,0<=i/\i<q/\j<=g i/\A j<=A (g i))\/A j<=A k
theorem DQ.start(A:Of)(M:Int)(g:Of):DQ A M 0 0 g:=⟨by omega,fun i _ _=>Oa,fun i _ _=>Oa,fun j _ _=>Oa⟩
theorem DQ.p{q:Int}(h:DQ A M k q g):DQp A M k q g:=⟨h.q0,h.rng,h.mon,fun j a b=> .inl (h.dom j a b)⟩
theorem DQp.pop{q:Int}(h:DQp A M k q g)(hq:0<q)(ha:A (g (q-1))<=A k):DQp A M k (q-1) g:=
 ⟨by omega,fun i i0 i1=>h.rng i i0 Oa,fun i i0 i1=>h.mon i i0 Oa,fun j j0 j1=>by
   rcases h.dom j j0 j1 with⟨i,i0,i1,h1,h2⟩|h1
   · by_cases e:i=q-1
     · subst e;exact .inr Oa
     · exact .inl ⟨i,i0,Oa,h1,h2⟩
   · exact .inr h1⟩
structure DQa (A:Of) (M k q:Int) (g:Of):Prop where
  q0:1<=q
  rng:∀i,0<=i->i<q->max 0 (k-1-M)<=g i/\g i<=k
  mon:∀i,0<=i->i+1<q->g i<g (i+1)/\A (g (i+1))<A (g i)
  dom:∀j,max 0 (k-1-M)<=j->j<=k->∃i,0<=i/\i<q/\j<=g i/\A j<=A (g i)
  last:g (q-1)=k
theorem DQp.push{q:Int}(h:DQp A M k q g)(k0:0<=k)(hM:0<=M)(hq:q<=0\/A k<A (g (q-1))):DQa A M k (q+1) (snoc g q k):=by
 have hq0:=h.q0
 refine⟨by omega,fun i i0 i1=> ?_,fun i i0 i1=> ?_,fun j j0 j1=> ?_,?_⟩
 · by_cases e:i<q
   · rw [Zs e];have:=h.rng i i0 e;omega
   · rw [Zt e];omega
 · rw [Zs (show i<q by omega)]
   by_cases e:i+1<q
   · rw [Zs e];exact h.mon i i0 e
   · rw [Zt e]
     obtain rfl:i=q-1:=Oa
     have:=h.rng (q-1) i0 Oa
     omega
 · by_cases e:j=k
   · subst e;exact⟨q,Oa,Oa,by rw [Zt Oa];omega,by rw [Zt Oa];omega⟩
   · rcases h.dom j j0 Oa with⟨i,i0,i1,h1,h2⟩|h1
     · exact⟨i,i0,Oa,by rw [Zs i1];exact h1,by rw [Zs i1];exact h2⟩
     · exact⟨q,Oa,Oa,by rw [Zt Oa];omega,by rw [Zt Oa];exact h1⟩
 · rw [Zt Oa]
theorem DQa.up{A:Of}{M k q:Int}{g:Of}(h:DQa A M k q g):∀i:Nat,(i:Int)<q->g 0+i<=g i/\A (g i)<=A (g 0)
 |0,_=>⟨by simp,Int.le_refl _⟩
 | i+1,hi=>by
   have h1:=h.up i Oa
   have h2:=h.mon i Oa Oa
   rw [show((i+1:Nat):Int)=(i:Int)+1 by omega]
   omega
theorem DQa.keep{q:Int}(h:DQa A M k q g)(k0:0<=k)(hg:¬g 0<k-M):DQ A M (k+1) q g:=by
 have hq:=h.q0
 refine⟨by omega,fun i i0 i1=> ?_,h.mon,fun j j0 j1=>h.dom j Oa Oa⟩
 have h1:=h.up i.toNat Oa
 rw [Int.toNat_of_nonneg i0] at h1
 have:=h.rng i i0 i1;have:=h.rng 0 Oa Oa
 omega
theorem DQa.more{q:Int}(h:DQa A M k q g)(hM:0<=M)(hg:g 0<k-M):1<q:=by
 have:=h.q0;have hl:=h.last
 by_cases e:q=1
 · subst e;rw [show(1:Int)-1=0 by omega] at hl;omega
 · omega
theorem DQa.drop{q p:Int}(h:DQa A M k q g)(k0:0<=k)(hM:0<=M)(hg:g 0<k-M)(e:q-1=p:=by omega):DQ A M (k+1) p (fun i=>g (i+1)):=by
 subst e
 have hq:=h.q0
 refine⟨by omega,fun i i0 i1=> ?_,fun i i0 i1=>h.mon (i+1) Oa Oa,fun j j0 j1=> ?_⟩
 · have h1:=h.up (i+1).toNat Oa
   rw [Int.toNat_of_nonneg Oa] at h1
   have h2:=h.rng (i+1) Oa Oa;have h3:=h.rng 0 Oa Oa
   omega
 · obtain⟨i,i0,i1,h1,h2⟩:=h.dom j Oa Oa
   by_cases e:i=0
   · subst e;omega
   · exact⟨i-1,Oa,Oa,by rw [show i-1+1=i by omega];exact h1,by rw [show i-1+1=i by omega];exact h2⟩
theorem DQ.best{q:Int}(h:DQ A M (k+1) q g)(k0:0<=k)(hM:0<=M):0<q/\max 0 (k-M)<=g 0/\g 0<=k/\∀j,max 0 (k-M)<=j->j<=k->A j<=A (g 0):=by
 obtain⟨i,i0,i1,_,_⟩:=h.dom k Oa Oa
 have hr:=h.rng 0 Oa Oa
 have up:∀i:Nat,(i:Int)<q->A (g i)<=A (g 0):=fun i=>by
   induction i with
   |zero=>intro _;exact Int.le_refl _
   | succ i ih=>
     intro hi
     have h1:=ih Oa
     have h2:=h.mon i Oa Oa
     rw [show((i+1:Nat):Int)=(i:Int)+1 by omega]
     omega
 refine⟨by omega,Oa,Oa,fun j j0 j1=> ?_⟩
 obtain⟨i,i0,i1,h1,h2⟩:=h.dom j Oa Oa
 have:=up i.toNat Oa
 rw [Int.toNat_of_nonneg i0] at this
 omega
theorem DQ.len{q:Int}(h:DQ A M k q g)(k0:0<=k):q<=k:=by
 have up:∀i:Nat,(i:Int)<q->g 0+i<=g i:=fun i=>by
   induction i with
   |zero=>intro _;simp
   | succ i ih=>
     intro hi
     have h1:=ih Oa
     have h2:=h.mon i Oa Oa
     rw [show((i+1:Nat):Int)=(i:Int)+1 by omega]
     omega
 rcases Int.lt_or_le 0 q with hq|hq
 · have h1:=up (q-1).toNat Oa
   rw [Int.toNat_of_nonneg Oa] at h1
   have h2:=h.rng 0 Oa hq;have h3:=h.rng (q-1) Oa Oa
   omega
 · omega
theorem Tu {T:Of} {s b:Int} (hs:1<=s) (hM:0<=M) (r0:0<=r) (r1:r<s) (k0:0<=k) (b0:max 0 (k-M)<=b) (b1:b<=k) (hb:∀j,max 0 (k-M)<=j->j<=k->T (r+j*s)-j*y<=T (r+b*s)-b*y):
   R T s y M.toNat (r+k*s)=T (r+b*s)-b*y+k*y:=by
 have hks:0<=k*s:=Int.mul_nonneg k0 Oa
 apply Int.le_antisymm
 · obtain⟨n,h1,h2,h3⟩:=ZcJ T s y M.toNat (r+k*s) Oa
   have hnk:(n:Int)<=k:=by
     rcases Int.lt_or_le k n with h|h
     · have:=Int.mul_le_mul_of_nonneg_right (show k+1<=(n:Int) by omega) (show 0<=s by omega)
       rw [Int.add_mul] at this;omega
     · exact h
   have h4:=hb (k-n) Oa Oa
   have e1:r+(k-n)*s=r+k*s-n*s:=by rw [Int.sub_mul];omega
   rw [e1,Int.sub_mul] at h4
   rw [h3];omega
 · have h1:=ZdJ T s y M.toNat (k-b).toNat (r+k*s) Oa (by
     have:=Int.mul_le_mul_of_nonneg_right (show(((k-b).toNat:Nat):Int)<=k by omega) (show 0<=s by omega);omega)
   rw [Int.toNat_of_nonneg Oa,Int.sub_mul,Int.sub_mul] at h1
   have e1:r+k*s-(k*s-b*s)=r+b*s:=Oa
   rw [e1] at h1;omega
def LY(T:Of)(s y m n r k:Int)(g:Of):Prop:=∀c,0<=c->c<n->(c%s<r\/(c%s=r/\c<r+k*s))->g c=R T s y m.toNat c
theorem ZgJ{s:Int}(k0:0<=k)(hs:1<=s):k<=k*s:=by
 have:=Int.mul_le_mul_of_nonneg_left hs k0;omega
theorem Kg{j s n:Int}(hs:1<=s)(r0:0<=r)(j0:0<=j)(jk:j<=k)(h:r+k*s<n):0<=j*s/\j*s<=k*s/\r+j*s<n:=by
 have h1:=Int.mul_nonneg j0 (show 0<=s by omega)
 have h2:=Int.mul_le_mul_of_nonneg_right jk (show 0<=s by omega)
 omega
theorem X6{j:Int}(j0:0<=j)(j1:j<=4001)(y0:0<=y)(y1:y<=1073741824):0<=j*y/\j*y<=4296041037824:=by
 have h1:=Int.mul_nonneg j0 y0
 have h2:=Int.mul_le_mul j1 y1 y0 Oa
 omega
theorem LY.start (T:Of) {s n:Int} (h:∀c,0<=c->c<n->c%s<r->g c=R T s y m.toNat c):LY T s y m n r 0 g:=fun c c0 c1 hc=>by
 rcases hc with hc|⟨_,hc⟩
 · exact h c c0 c1 hc
 · by_cases hs:c%s<r
   · exact h c c0 c1 hs
   · exfalso
     rename_i hr
     have:c%s<=c:=by
       by_cases hs0:0<s
       · rcases Int.lt_or_le c s with h1|h1
         · rw [Int.emod_eq_of_lt c0 h1];omega
         · have:=Int.emod_lt_of_pos c hs0;omega
       · by_cases e:s=0
         · subst e;simp
         · have h1:=Int.emod_lt_of_pos c (show 0< -s by omega)
           rw [Int.emod_neg] at h1
           have h2:=Int.emod_emod_of_dvd c (show(-s)∣s from⟨-1,Oa⟩)
           rcases Int.lt_or_le c (-s) with h3|h3
           · have:=Int.emod_eq_of_lt c0 h3;rw [Int.emod_neg] at this;omega
           · omega
     omega
theorem LY.step {T:Of} {s n v:Int} (h:LY T s y m n r k g) (hs:1<=s) (r0:0<=r) (r1:r<s) (k0:0<=k) (hv:R T s y m.toNat (r+k*s)=v):LY T s y m n r (k+1) (upd g (r+k*s) v):=fun c c0 c1 hc=>by
 by_cases e:c=r+k*s
 · subst e;rw [ZC,hv]
 · rw [upd_ne _ _ e]
   refine h c c0 c1 ?_
   rcases hc with hc|⟨hc,hc2⟩
   · exact .inl hc
   · refine .inr ⟨hc,?_⟩
     have h1:=Int.mul_ediv_add_emod c s
     rw [hc] at h1
     rcases Int.lt_trichotomy (c/s) k with h2|h2|h2
     · have:=Int.mul_le_mul_of_nonneg_left (show c/s+1<=k by omega) (show 0<=s by omega)
       rw [Int.mul_add,Int.mul_comm s k] at this;omega
     · rw [h2,Int.mul_comm] at h1;omega
     · have:=Int.mul_le_mul_of_nonneg_left (show k+1<=c/s by omega) (show 0<=s by omega)
       rw [Int.mul_add,Int.mul_comm s k] at this
       rw [Int.add_mul] at hc2;omega
theorem LY.fin{T:Of}{s n:Int}(h:LY T s y m n r k g)(hk:¬r+k*s<n):∀c,0<=c->c<n->c%s<r+1->g c=R T s y m.toNat c:=fun c c0 c1 hc=>h c c0 c1 Oa
structure Its where
  n:Int
  S:Of
  V:Of
  M:Of
def Xd(s v m:Int):Prop:=1<=s/\s<=4000/\0<=v/\v<=1073741824/\0<=m/\m<=1000
def Its.each(t:Its)(i:Int):Prop:=Xd (t.S i) (t.V i) (t.M i)
structure Its.Ok (t:Its) (cap:Int):Prop where
  n:t.n<=20
  c0:0<=cap
  c1:cap<=4000
  all:∀i,0<=i->i<t.n->t.each i
def KT(t:Its):Nat->Int->Int
  |0=>fun _=>0
  |k+1=>R (KT t k) (t.S (t.n-1-k)) (t.V (t.n-1-k)) (t.M (t.n-1-k)).toNat
def KI(t:Its)(i:Int):Of:=KT t (t.n-i).toNat
theorem ZiL(t:Its):KI t t.n=fun _=>0:=by unfold KI;rw [show(t.n-t.n).toNat=0 by omega];rfl
theorem ZeN(t:Its)(i0:0<=i)(i1:i<t.n):KI t i=R (KI t (i+1)) (t.S i) (t.V i) (t.M i).toNat:=by
 unfold KI
 rw [show(t.n-i).toNat=(t.n-(i+1)).toNat+1 by omega]
 show R _ _ _ _=_
 rw [show t.n-1-(((t.n-(i+1)).toNat:Nat):Int)=i by omega]
theorem ZcN{t:Its}{cap:Int}(h:t.Ok cap):∀k:Nat,(k:Int)<=t.n->∀c,0<=c->0<=KT t k c/\KT t k c<=c*1073741824
 |0,_,c,hc=>⟨Int.le_refl _,by show 0<=_;omega⟩
 | k+1,hk,c,hc=>by
   have he:=h.all (t.n-1-k) Oa Oa
   unfold Its.each Xd at he
   exact Zbd he.1 he.2.2.1 he.2.2.2.1 (fun c c0=>ZcN h k Oa c c0) _ c hc
theorem Wn{t:Its}(h:t.Ok cap)(i0:0<=i)(i1:i<=t.n){c:Int}(c0:0<=c):0<=KI t i c/\KI t i c<=c*1073741824:=ZcN h _ Oa c c0
def KU(t:Its)(x:Of)(i:Nat):Int:=Zc (fun k=>x k*t.S k) i
def KW(t:Its)(x:Of)(i:Nat):Int:=Zc (fun k=>x k*t.V k) i
def KX(t:Its)(cap:Int)(x:Of)(n:Int):Prop:=∀i,0<=i->i<n->0<=x i/\x i<=t.M i/\x i*t.S i<=cap-KU t x i.toNat/\KI t (i+1) (cap-KU t x i.toNat-x i*t.S i)+x i*t.V i=KI t i (cap-KU t x i.toNat)/\
  ∀j,x i<j->j<=t.M i->j*t.S i<=cap-KU t x i.toNat->KI t (i+1) (cap-KU t x i.toNat-j*t.S i)+j*t.V i≠KI t i (cap-KU t x i.toNat)
theorem ZeM(t:Its)(x:Of)(h:0<=i):KU t x (i+1).toNat=KU t x i.toNat+x i*t.S i:=ZF _ h
theorem ZkJ(t:Its)(x:Of)(h:0<=i):KW t x (i+1).toNat=KW t x i.toNat+x i*t.V i:=ZF _ h
theorem Rq(t:Its){z:Of}{n:Nat}(h:∀i,0<=i->i<(n:Int)->x i=z i):KU t x n=KU t z n:=Zg fun i i0 i1=>by rw [h i i0 i1]
theorem KX.snoc{t:Its}{cap:Int}{x:Of}{i n:Int}(h:KX t cap x i)(i0:0<=i)(n0:0<=n)(n1:n<=t.M i)(n2:n*t.S i<=cap-KU t x i.toNat)(he:KI t (i+1) (cap-KU t x i.toNat-n*t.S i)+n*t.V i=KI t i (cap-KU t x i.toNat))
   (ha:∀j,n<j->j<=t.M i->j*t.S i<=cap-KU t x i.toNat->KI t (i+1) (cap-KU t x i.toNat-j*t.S i)+j*t.V i≠KI t i (cap-KU t x i.toNat)):KX t cap (snoc x i n) (i+1):=fun k k0 k1=>by
 have hu:KU t (Gw.snoc x i n) k.toNat=KU t x k.toNat:=Rq t fun q q0 q1=>Zs Oa
 rw [hu]
 by_cases e:k<i
 · rw [Zs e];exact h k k0 e
 · obtain rfl:k=i:=Oa
   rw [Zt Oa];exact⟨n0,n1,n2,he,ha⟩
theorem ZkK(t:Its)(x:Of)(n:Int)(i0:0<=i):KU t (snoc x i n) (i+1).toNat=KU t x i.toNat+n*t.S i:=by
 rw [ZeM t _ i0,Zt Oa]
 congr 1
 exact Rq t fun q q0 q1=>Zs Oa
theorem ZpP{t:Its}(h:t.Ok cap){c:Int}(i0:0<=i)(i1:i<t.n)(c0:0<=c):∃j,0<=j/\j<=t.M i/\j*t.S i<=c/\KI t (i+1) (c-j*t.S i)+j*t.V i=KI t i c:=by
 have he:=h.all i i0 i1
 unfold Its.each Xd at he
 obtain⟨j,h1,h2,h3⟩:=ZcJ (KI t (i+1)) (t.S i) (t.V i) (t.M i).toNat c c0
 exact⟨j,Oa,Oa,h2,by rw [ZeN t i0 i1,h3]⟩
theorem KX.same{t:Its}{cap:Int}{x z:Of}:∀{n:Nat},KX t cap x n->KX t cap z n->∀i,0<=i->i<(n:Int)->x i=z i
 |0,_,_,i,_,_=>Oa
 | n +1,hx,hz,i,i0,i1=>by
   have ih:=KX.same (n:=n) (fun i a b=>hx i a Oa) (fun i a b=>hz i a Oa)
   by_cases e:i=n
   · have hu:KU t x i.toNat=KU t z i.toNat:=Rq t fun k k0 k1=>ih k k0 Oa
     obtain⟨a1,a2,a3,a4,a5⟩:=hx i i0 i1
     obtain⟨b1,b2,b3,b4,b5⟩:=hz i i0 i1
     rw [hu] at a3 a4 a5
     rcases Int.lt_trichotomy (x i) (z i) with h|h|h
     · exact absurd b4 (a5 _ h b2 b3)
     · exact h
     · exact absurd a4 (b5 _ h a2 a3)
   · exact ih i i0 Oa
theorem KX.sum{t:Its}{cap:Int}(hc:0<=cap){x:Of}:∀{n:Nat},KX t cap x n->(n:Int)<=t.n->KU t x n<=cap/\KW t x n+KI t n (cap-KU t x n)=KI t 0 cap
 |0,_,_=>by simp [KU,KW,Zc];exact hc
 | n+1,h,hn=>by
   obtain⟨a1,a2⟩:=KX.sum hc (n:=n) (fun i x y=>h i x Oa) Oa
   obtain⟨b1,b2,b3,b4,_⟩:=h n Oa Oa
   have e1:=ZeM t x (i:=n) Oa
   have e2:=ZkJ t x (i:=n) Oa
   rw [Int.toNat_natCast] at b3 b4
   rw [show((n:Int)+1).toNat=n+1 by omega,Int.toNat_natCast] at e1 e2
   rw [e1,e2,show((n+1:Nat):Int)=(n:Int)+1 by omega,show cap-(KU t x n+x n*t.S n)=cap-KU t x n-x n*t.S n by omega]
   omega
theorem KX.worth{t:Its}(hc:0<=cap)(hn:0<=t.n)(h:KX t cap x t.n):KU t x t.n.toNat<=cap/\KW t x t.n.toNat=KI t 0 cap:=by
 obtain⟨h1,h2⟩:=KX.sum hc (n:=t.n.toNat) (by rw [Int.toNat_of_nonneg hn];exact h) Oa
 rw [Int.toNat_of_nonneg hn,ZiL] at h2
 exact⟨h1,by simpa using h2⟩
theorem Zaa(f:Of)(n:Nat):Zc f (n+1)=f 0+Zc (fun j=>f (j+1)) n:=by
 induction n with
 |zero=>simp [Zc]
 | succ n ih=>
   simp only [Zc] at*
   rw [ih,show((n+1:Nat):Int)=(n:Int)+1 by omega];omega
theorem ZiK{t:Its}(hS:∀i,0<=i->i<t.n->1<=t.S i){x:Of}(hx:∀i,0<=i->i<t.n->0<=x i/\x i<=t.M i):∀(k:Nat) (c:Int),(k:Int)<=t.n->Zc (fun j=>x (t.n-k+j)*t.S (t.n-k+j)) k<=c->Zc (fun j=>x (t.n-k+j)*t.V (t.n-k+j)) k<=KT t k c
 |0,c,_,_=>by simp [Zc,KT]
 | k+1,c,hk,hc=>by
   rw [Zaa] at hc⊢
   have e1:∀f:Of,Zc (fun j=>f (t.n-((k+1:Nat):Int)+(j+1))) k=Zc (fun j=>f (t.n-k+j)) k:=fun f=>Zg fun j _ _=>by congr 1;omega
   rw [e1 (fun i=>x i*t.S i),show t.n-((k+1:Nat):Int)+0=t.n-1-k by omega] at hc
   rw [e1 (fun i=>x i*t.V i),show t.n-((k+1:Nat):Int)+0=t.n-1-k by omega]
   have h1:=hx (t.n-1-k) Oa Oa
   have hs:0<=Zc (fun j=>x (t.n-k+j)*t.S (t.n-k+j)) k:=ZY fun j j0 j1=>Int.mul_nonneg (hx _ Oa Oa).1 (by have:=hS (t.n-k+j) Oa Oa;omega)
   have ih:=ZiK hS hx k (c-x (t.n-1-k)*t.S (t.n-1-k)) Oa Oa
   have h2:=ZdJ (KT t k) (t.S (t.n-1-k)) (t.V (t.n-1-k)) (t.M (t.n-1-k)).toNat (x (t.n-1-k)).toNat c Oa (by rw [Int.toNat_of_nonneg h1.1];omega)
   rw [Int.toNat_of_nonneg h1.1] at h2
   show _<=R _ _ _ _ _
   omega
theorem Zom{t:Its}(hn:0<=t.n)(hS:∀i,0<=i->i<t.n->1<=t.S i)(hx:∀i,0<=i->i<t.n->0<=x i/\x i<=t.M i)(hc:KU t x t.n.toNat<=cap):KW t x t.n.toNat<=KI t 0 cap:=by
 have:=ZiK hS hx t.n.toNat cap Oa
 rw [Int.toNat_of_nonneg hn] at this
 simp only [Int.sub_self,Int.zero_add] at this
 have h2:=this hc
 unfold KI;rwa [Int.sub_zero]
end Go.Proofs.Gw
namespace Go.Proofs.Gw
open Go Go.RowKit
variable {i k:Int}
def okF(kind k c:Int):Prop:=(kind=0/\k=0)\/(kind=1/\1<=k/\k<=100)\/(kind=2/\1<=k/\k<=c.tdiv 2)
def dfv(kind k x c:Int):Int:=
  if kind=0 then x else if kind=1 then(if((k+1)*x).tmod c=0 then k*x else((k+1)*x).tdiv c*c) else(if c-k<x then c else if x<k then 0 else x)
def Z4(W H N:Of):Int->Value:=fun k=>if k%3=0 then .int Oi (W (k/3)) else if k%3=1 then .int Oi (H (k/3)) else .int Oi (N (k/3))
theorem Zj0(W H N:Of)(h:k=3*i):Z4 W H N k= .int Oi (W i):=by
 subst h;unfold Z4;rw [if_pos Oa];congr 2;omega
theorem ZjZ(W H N:Of)(h:k=3*i+1):Z4 W H N k= .int Oi (H i):=by
 subst h;unfold Z4;rw [if_neg Oa,if_pos Oa];congr 2;omega
theorem ZjY(W H N:Of)(h:k=3*i+2):Z4 W H N k= .int Oi (N i):=by
 subst h;unfold Z4;rw [if_neg Oa,if_neg Oa];congr 2;omega
theorem UH(W H N:Of)(h:k=3*i):∀(j:Nat) u, [Value.int Oi (W i),.int Oi (H i),.int Oi (N i)][j]? =some u->Z4 W H N (k+j)=u:=fun j u hu=>by
 rcases j with _|_|_|j
 · cases hu;exact Zj0 W H N Oa
 · cases hu;exact ZjZ W H N Oa
 · cases hu;exact ZjY W H N Oa
 · simp at hu
theorem Zds(W H N:Of)(k:Int):(Z4 W H N k).oneCell'=true:=by
 unfold Z4
 split
 · rfl
 · split<;>rfl
theorem ZaS{W H N W' H' N':Of}{n:Int}(h:∀k,0<=k->k<n->W k=W' k/\H k=H' k/\N k=N' k):∀k,0<=k->k<n*(3:Nat)->Z4 W H N k=Z4 W' H' N' k:=fun k k0 k1=>by
 obtain⟨h1,h2,h3⟩:=h (k/3) Oa Oa
 unfold Z4
 rw [h1,h2,h3]
structure DAt (w:World) (v:Value) (n:Int) (W H N:Of):Prop where
  row:Row w v 3 n (Z4 W H N)
  bw:∀i,-9223372036854775808<=W i/\W i<=9223372036854775807
  bh:∀i,-9223372036854775808<=H i/\H i<=9223372036854775807
  bn:∀i,-9223372036854775808<=N i/\N i<=9223372036854775807
theorem DAt.below{w w':World}{v:Value}{n:Int}{W H N:Of}(h:DAt w v n W H N)(hb:Below w.heap.size w w'):DAt w' v n W H N:=⟨h.row.below hb,h.bw,h.bh,h.bn⟩
theorem ZdD(W H N:Of)(n a b c:Int):cat (n*3) (Z4 W H N) (Z4 (fun _=>a) (fun _=>b) (fun _=>c))=Z4 (snoc W n a) (snoc H n b) (snoc N n c):=by
 funext k
 unfold cat Z4 snoc
 by_cases h:k<n*3
 · have:k/3<n:=Oa
   simp only [if_pos h,if_pos this]
 · have:¬k/3<n:=Oa
   have e:(k-n*3)%3=k%3:=Oa
   simp only [if_neg h,if_neg this,e]
end Go.Proofs.Gw
namespace Go.Proofs.Gw
open Go Go.RowKit
structure FL (l:List (Int×Int)) (n:Int) (K A:Of):Prop where
  len:(l.length:Int)=n
  get:∀(k:Nat) x,l[k]? =some x->K k=x.1/\A k=x.2
theorem FL.at{l:List (Int×Int)}{n:Int}{K A:Of}(h:FL l n K A){k:Int}(h0:0<=k)(h1:k<n):l[k.toNat]? =some (K k,A k):=by
 have hl:=h.len
 have hk:k.toNat<l.length:=Oa
 have:=h.get k.toNat _ (List.getElem?_eq_getElem hk)
 rw [Int.toNat_of_nonneg h0] at this
 rw [List.getElem?_eq_getElem hk,this.1,this.2]
def base(k:Nat):List (Int×Int):=(0,0)::(List.range k).map fun i:Nat=>(1,(i:Int)+1)
def CandL(S:Int->Prop)(l:List (Int×Int)):Prop:=∃m:List Int,l=base 5++m.map (fun a=>((2:Int),a))/\m.Pairwise (· < ·)/\∀a,a∈m↔S a
theorem CandL.len{S:Int->Prop}{l:List (Int×Int)}(h:CandL S l):6<=l.length/\l[0]? =some (0,0):=by
 obtain⟨m,rfl,_⟩:=h
 exact⟨by simp [base],rfl⟩
def before(i j I J:Int):Prop:=i<I\/(i=I/\j<J)
end Go.Proofs.Gw
namespace Go.Proofs.YtpnamgfdakfccaaGreat
open Go Go.RowKit Go.Proofs.Gw
variable {vI:Value}
theorem ZmC:Zd Om 286=true:=Oc
theorem ZmB:Zd Om 287=true:=Oc
theorem Zmu:Zd Om 310=true:=Oc
theorem UI:Zd Om 311=true:=Oc
theorem fd_247_0:Zv Om 247 0=some 0:=Oc
theorem fd_247_1:Zv Om 247 1=some 1:=Oc
theorem fd_247_2:Zv Om 247 2=some 2:=Oc
theorem XI:Zu Om 245=some (247,3):=Oc
theorem Zab:Zx Om 247=some 3:=Oc
theorem ZpC{a b c:Int}(w0:World):
   Calls Om 286 [.agg #[.int Oi a,.int Oi b,.int Oi c]].toArray w0 fun e w=>∃v,e= .returned v/\v=B (¬Xd a b c)/\Sat w0 w []:=by
 refine zenG Tryz.func286 Tryz.ntmps286 fun w hS=> ?_
 refine zsr<|zla (xbx (cs:= [_,_,_]) hS) ?_;rintro _ w ⟨g1,rfl,hS⟩
 refine(zP)<|zlz<|(zV (xfb 0 fd_247_0))<|(zV (xlb 0 pl_3 hS))<|(On)<|zlb 6 ?_ ?_<;>intro hc;rotate_left
 refine(zV (xfb 0 fd_247_0))<|(zV (xlb 0 pl_3 hS))<|(Oo)<|zlb 11 ?_ ?_<;>intro hc;rotate_left
 refine(zV (xfb 1 fd_247_1))<|(zV (xlb 0 pl_3 hS))<|(Oo)<|zlb 16 ?_ ?_<;>intro hc;rotate_left
 refine(zV (xfb 1 fd_247_1))<|(zV (xlb 0 pl_3 hS))<|(Oo)<|zlb 21 ?_ ?_<;>intro hc;rotate_left
 refine(zV (xfb 2 fd_247_2))<|(zV (xlb 0 pl_3 hS))<|(Oo)<|zlb 26 ?_ ?_<;>intro hc;rotate_left
 refine(zV (xfb 2 fd_247_2))<|(zV (xlb 0 pl_3 hS))<|(Oo)<|zx1<|Oj ?_
 exact⟨Zm (by unfold Xd;omega),hS.nl⟩
 all_goals
  refine zOps ?_
  refine zx1<|Oj ?_
  exact⟨Yn (by unfold Xd;omega),hS.nl⟩
theorem Zik{t:Its}(w0:World)(hI:Row w0 vI 3 t.n (Z4 t.S t.V t.M)):
   Calls Om 310 [vI,.func (.func 286) #[] #[]].toArray w0 fun e w=>∃v,e= .returned v/\∃r:Int,v= .int Oi r/\((r= -1/\∀k,0<=k->k<t.n->¬(¬Xd (t.S k) (t.V k) (t.M k)))\/(0<=r/\r<t.n/\(¬Xd (t.S r) (t.V r) (t.M r))))/\Sat w0 w []:=by
 have hn:=hI.slh.n0;have hn1:=hI.slh.n1
 refine zenG Tryz.func310 Tryz.ntmps310 fun w hS=> ?_
 refine zsr<|(zP)<|zx5<|(zP)<|(zV (xln XI hI.slh))<|(zP)<|zx6<|zlp (fun mm M w=>∃(i:Int),mm=((t.n-i).toNat)/\(0<=i)/\(i<=t.n)/\(∀k,0<=k->k<i->¬(¬Xd (t.S k) (t.V k) (t.M k)))/\M= [(0,vI),(1,.func (.func 286) #[] #[]),(7,.int Oi t.n),(8,.int Oi i)]/\Sat w0 w []) ⟨0,rfl,Oa,Oa,?_,rfl,hS⟩ ?_
 ·
  intro k h0 h1;omega
 clear hS w
 rintro mm M w ⟨i,rfl,h0,h1,qa,rfl,hS⟩
 refine zsr<|(zP)<|zx7<|Zf ?_ ?_<;>intro hc
 ·
  refine zx3<|(On)<|zlz<|(Oo)<|(zV (xix (kk:=3*i) XI hI.slh))<|(zV (xlw (cs:= [.int Oi (t.S i),.int Oi (t.V i),.int Oi (t.M i)]) Zab (hI.below hS.below) (UH (k:=3*i) (i:=i) t.S t.V t.M Oa)))<|zlc (xc0 ZmC) (ZpC (a:=(t.S i)) (b:=(t.V i)) (c:=(t.M i)) w) ?_;rintro _ w ⟨rfl,hS'⟩
  replace hS:=hS.cmp hS';clear hS'
  refine zlt<|Zf ?_ ?_<;>intro hc
  ·
   refine zsr<|(On)<|zx2<|Oj ?_
   exact⟨i,rfl,.inr ⟨by omega,Oa,‹¬Xd (t.S i) (t.V i) (t.M i)›⟩,hS⟩
  refine zx4<|(zV (Zh (r:=i+1)))<|(zP)<|zln<|zlq ⟨i+1,rfl,Oa,Oa,?_,rfl,hS⟩
  ·
   intro k h0' h1';rcases Int.lt_or_eq_of_le (show k<=i by omega) with hk|hk;exact qa k h0' hk;rw [hk];assumption
 refine zx8<|(zP)<|zx1<|Oj ?_
 exact⟨-1,rfl,.inl ⟨rfl,fun k h0 h1=>qa k h0 Oa⟩,hS⟩
theorem Ziq{t:Its}(w0:World)(hI:Row w0 vI 3 t.n (Z4 t.S t.V t.M)):
   Calls Om 287 [vI,.func (.func 286) #[] #[]].toArray w0 fun e w=>∃v,e= .returned v/\v=B (∃k,0<=k/\k<t.n/\(¬Xd (t.S k) (t.V k) (t.M k)))/\Sat w0 w []:=by
 refine zenG Tryz.func287 Tryz.ntmps287 fun w hS=> ?_
 refine zsr<|(zP)<|zlz<|(On)<|zlc (xc0 Zmu) (Zik w (hI.below hS.below)) ?_;rintro _ w ⟨r1,rfl,hr1,hS'⟩
 replace hS:=hS.cmp hS';clear hS'
 refine(On)<|zx1<|Oj ?_
 exact⟨Zm (by
  rcases hr1 with⟨h1,h2⟩|⟨h1,h2,h3⟩
  · exact⟨fun h=>Oa,fun⟨k,h4,h5,h6⟩=>absurd h6 (h2 k h4 h5)⟩
  · exact⟨fun _=>⟨_,h1,h2,h3⟩,fun _=>h1⟩),hS⟩
theorem Zih{t:Its}{cap:Int}(w0:World)(hI:Row w0 vI 3 t.n (Z4 t.S t.V t.M)):
   Calls Om 233 [vI,.int Oi cap].toArray w0 fun e w=>∃v,e= .returned v/\v=B (t.Ok cap)/\Sat w0 w []:=by
 have hn:=hI.slh.n0
 refine zenG Tryz.func233 Tryz.ntmps233 fun w hS=> ?_
 refine zsr<|(zP)<|zlz<|(zP)<|zlz<|(zP)<|(zV (xln XI hI.slh))<|(On)<|zlb 9 ?_ ?_<;>intro hc
 ·
  refine zs4 ?_
  refine zlb 13 ?_ ?_<;>intro hc
  ·
   refine zs4 ?_
   refine zlb 17 ?_ ?_<;>intro hc
   ·
    refine(On)<|zlc (xc0 ZmB) (Ziq (t:=t) w (hI.below hS.below)) ?_;rintro _ w ⟨rfl,hS'⟩
    replace hS:=hS.cmp hS';clear hS'
    refine(Oo)<|zx1<|Oj ?_
    exact⟨Zm (by exact⟨fun hx=>⟨by omega,Oa,Oa,fun k k0 k1=>Od fun hh=>hx ⟨k,k0,k1,hh⟩⟩,fun hok ⟨k,k0,k1,hh⟩=>hh (hok.all k k0 k1)⟩),hS⟩
   iterate 4 refine zlo ?_
   refine(On)<|zx1<|Oj ?_
   exact⟨Zj (by rintro⟨h1,h2,h3,h4⟩;omega),hS⟩
  refine(zO)<|(zO)<|zs2 ?_
  iterate 4 refine zlo ?_
  refine(On)<|zx1<|Oj ?_
  exact⟨Zj (by rintro⟨h1,h2,h3,h4⟩;omega),hS⟩
 refine(zO)<|(zO)<|(On)<|(zO)<|zlo ?_
 refine zs2 ?_
 iterate 4 refine zlo ?_
 refine(On)<|zx1<|Oj ?_
 exact⟨Zj (by rintro⟨h1,h2,h3,h4⟩;omega),hS⟩
theorem UK{vN:Value}{n s y m r:Int}{T:Of}{gn gr gx:Nat}{k:Int}(w0:World)(hGn:(Ent.blk gn [vN]).holds w0)(hGr:(Ent.blk gr [.int Oi r]).holds w0)(hGx:(Ent.blk gx [.int Oi s,.int Oi y,.int Oi m]).holds w0)(hN:Row w0 vN 1 n (ints T))(hTB:∀c,0<=c->c<n->0<=T c/\T c<=4398046511104)(hs:1<=s)(hn4:n<=4001)(hy:0<=y/\y<=1073741824)(r0:0<=r)(k0:0<=k)(hkn:r+k*s<n):
   Calls Om 311 [.int Oi k,Or gn,Or gr,Or gx].toArray w0 fun e w=>∃v,e= .returned v/\v= .int Oi (T (r+k*s)-k*y)/\Sat w0 w []:=by
 have hn1:=hN.slh.n1
 have jj:=ZgJ k0 hs
 have hjs:=Kg hs r0 k0 (Int.le_refl _) hkn
 have hjy:=X6 k0 Oa hy.1 hy.2
 have htk:=hTB (r+k*s) Oa Oa
 refine zenG Tryz.func311 Tryz.ntmps311 fun w hS=> ?_
 refine zsr<|(zP)<|zx7<|zdst [] [] 1000 mx_ hS ?_;clear hS;intro w hS
 refine(zDl 0 (fun w hS=>(xlf pl_22 (Ent.holds.cell hGn (o:=0) rfl) hS)))<|(zDl 1 (fun w hS=>(xlf pl_3 (Ent.holds.cell hGr (o:=0) rfl) hS)))<|(zDw 2 xmv)<|(zDw 3 (xfb 0 fd_247_0))<|(zDl 4 (fun w hS=>(xlf pl_3 (Ent.holds.cell hGx (o:=0) rfl) hS)))<|(zDw 5 (Yi (r:=(k*s)) (e:=rfl)))<|(zDw 6 (Zh (r:=r+(k*s))))<|(zDw 7 (xix (kk:=r+(k*s)) Zb hN.slh))<|(zDl 8 (fun w hS=>(xlr (u:= .int Oi (T (r+(k*s)))) pl_3 (hN.below hS.below))))<|(zDw 9 xmv)<|(zDw 10 (xfb 1 fd_247_1))<|(zDl 11 (fun w hS=>(xlf pl_3 (Ent.holds.cell hGx (o:=1) rfl) hS)))<|(zDw 12 (Yi (r:=(k*y)) (e:=rfl)))<|(zDw 13 (Zp (r:=(T (r+(k*s)))-(k*y))))<|zDrv 14 xas ?_
 refine zdd<|ztn<|zrt<|Oj ?_
 exact⟨rfl,hS⟩
theorem Zkj{vN:Value}{n s y m:Int}{T:Of}(w0:World)(hN:Row w0 vN 1 n (ints T))(hTB:∀c,0<=c->c<n->0<=T c/\T c<=4398046511104)(hs:1<=s)(hs4:s<=4000)(hn4:n<=4001)(hy:0<=y/\y<=1073741824)(hm:0<=m/\m<=1000):
   Calls Om 288 [.agg #[.int Oi s,.int Oi y,.int Oi m],vN].toArray w0 fun e w=>∃v,e= .returned v/\∃r,v=r/\Slh r n/\Sat w0 w [.own r 1 3 n (ints (R T s y m.toNat))]:=by
 have hn0:=hN.slh.n0
 refine zenG Tryz.func288 Tryz.ntmps288 fun w hS=> ?_
 refine zsr<|zla (xbx (cs:= [_,_,_]) hS) ?_;rintro _ w ⟨g1,rfl,hS⟩
 refine zla (xbx (cs:= [_]) hS (hc:=Slh.cells hN.slh)) ?_;rintro _ w ⟨g2,rfl,hS⟩
 refine(zP)<|zlz<|(zV (xlb 1 pl_22 hS))<|(zV (xln Zb hN.slh))<|zla (xmk Zb ZJ hS) ?_;rintro v1 w ⟨hS,hv1⟩
 refine(zP)<|zx5<|(zV (xfb 0 fd_247_0))<|(zV (xlb 0 pl_3 hS))<|(zV (xlb 1 pl_22 hS))<|(zV (xln Zb hN.slh))<|(zV (Rr (r:=(min s n))))<|(zP)<|zx6<|zlp (fun mm M w=>∃(r:Int) (g:Of),mm=((min s n-r).toNat)/\(0<=r)/\(r<=min s n)/\(∀c,0<=c->c<n->c%s<r->g c=R T s y m.toNat c)/\M= [(2,Or g1),(3,Or g2),(4,Oh),(5,v1),(17,.int Oi (min s n)),(18,.int Oi r)]/\Sat w0 w [.blk g1 [.int Oi s,.int Oi y,.int Oi m],.blk g2 [vN],.own v1 1 3 n (ints g)]) ⟨0,(fun _=>0),rfl,Oa,Oa,?_,rfl,hS⟩ ?_
 ·
  intro c c0 c1 c2;have:=Int.emod_nonneg c (show s≠0 by omega);omega
 clear hS w
 rintro mm M w ⟨r,g,rfl,r0,r1,hg,rfl,hS⟩
 refine zsr<|(zP)<|zx7<|Zf ?_ ?_<;>intro hc
 ·
  refine zx3<|(zP)<|zla (xal (cs:= [_]) ZJ hS) ?_;rintro _ w ⟨g3,rfl,hS⟩
  refine zle (xsb 3 pl_3 hS) ?_;clear hS;rintro w hS
  refine zlz<|(zP)<|zlz<|(zV xmf)<|(zP)<|zlz<|(zP)<|zx6 ?_
  replace hS:=hS.dqnil 3 (fun _=>0)
  refine zlp (fun mm M w=>∃(q:Int) (k:Int) (gg2:Of) (wq:Value) (fq:Of),mm=((n-k).toNat)/\(0<=k)/\(k<=n)/\(DQ (fun j=>T (r+j*s)-j*y) m k q fq)/\(LY T s y m n r k gg2)/\(Slh wq q)/\M= [(2,Or g1),(3,Or g2),(4,Oh),(5,v1),(6,Or g3),(7,wq),(8,.func (.func 311) #[] #[Or g2,Or g3,Or g1]),(9,.int Oi k),(17,.int Oi (min s n)),(18,.int Oi r)]/\Sat w0 w [.blk g1 [.int Oi s,.int Oi y,.int Oi m],.blk g2 [vN],.own v1 1 3 n (ints gg2),.blk g3 [.int Oi r],.sem (Frame.dq 3 wq q fq)]) ⟨0,0,g,Oh,(fun _=>0),rfl,Oa,Oa,?_,?_,?_,rfl,hS⟩ ?_
  ·
   exact DQ.start _ _ _
  ·
   exact LY.start T hg
  ·
   exact slh_nil
  clear hS w
  rintro mm M w ⟨q,k,gg2,wq,fq,rfl,k0,k1,hdq,hLY,hwq,rfl,hS⟩
  refine zsq<|zsr<|(zV (xlb 3 pl_3 hS))<|(zP)<|(zV (xfb 0 fd_247_0))<|(zV (xlb 0 pl_3 hS))<|zlv (Yi (r:=(k*s)) (e:=rfl) (hr:=(by have h1:=Int.mul_nonneg k0 (show 0<=s by omega);have h2:=Int.mul_le_mul (show k<=4001 by omega) hs4 Oa (show 0<=(4001:Int) by omega);unfold I64;omega))) ?_
  have jj:=ZgJ k0 hs
  have mj:0<=k*s/\k*s<=16008000:=by have h1:=Int.mul_nonneg k0 (show 0<=s by omega);have h2:=Int.mul_le_mul (show k<=4001 by omega) hs4 Oa (show 0<=(4001:Int) by omega);omega
  refine(zV (Zh (r:=r+(k*s))))<|(zV (xlb 1 pl_22 hS))<|(zV (xln Zb hN.slh))<|(zP)<|zlt<|Zf ?_ ?_<;>intro hc
  ·
   refine zsk<|ztn<|zsq<|zbk<|zsq<|zbk ?_
   have jA:=hdq.p
   refine zlp (fun mm M w=>∃(q3:Int) (wp:Value),mm=q3.toNat/\(DQp (fun j=>T (r+j*s)-j*y) m k q3 fq)/\(q3<=k)/\(Slh wp q3)/\M= [(2,Or g1),(3,Or g2),(4,Oh),(5,v1),(6,Or g3),(7,wp),(8,.func (.func 311) #[] #[Or g2,Or g3,Or g1]),(9,.int Oi k),(17,.int Oi (min s n)),(18,.int Oi r)]/\Sat w0 w [.blk g1 [.int Oi s,.int Oi y,.int Oi m],.blk g2 [vN],.own v1 1 3 n (ints gg2),.blk g3 [.int Oi r],.sem (Frame.dq 3 wp q3 fq)]) ⟨q,wq,rfl,?_,?_,?_,rfl,hS⟩ ?_
   ·
    exact jA
   ·
    exact hdq.len k0
   ·
    exact hwq
   clear hS w
   rintro mm M w ⟨q3,wp,rfl,hdp,hqk,hwp,rfl,hS⟩
   have kW:=hdp.q0
   refine zsq<|zsr<|(zP)<|(zV (xln Zb hwp))<|(On)<|zlb 36 ?_ ?_<;>intro hc
   ·
    refine(Oo)<|(zV (xln Zb hwp))<|(zV (Zp (r:=q3-1)))<|(zV (xix (kk:=q3-1) Zb hwp))<|zlv (xlr (u:= .int Oi (fq (q3-1))) pl_3 (Frame.dq.row (hS.dqOf 4 rfl))) ?_
    have hq9:=hdp.rng (q3-1) Oa Oa
    have mn:=Kg hs r0 (show 0<=fq (q3-1) by omega) (show fq (q3-1)<=k by omega) (show r+k*s<n by omega)
    refine zlc (xcc (vs:= [_]) UI) (UK (k:=(fq (q3-1))) (n:=n) (T:=T) w (hS.holds _ (List.mem_of_getElem? (i:=1) rfl)) (hS.holds _ (List.mem_of_getElem? (i:=3) rfl)) (hS.holds _ (List.mem_of_getElem? (i:=0) rfl)) (hN.below hS.below) hTB hs hn4 hy Oa Oa Oa) ?_;rintro _ w ⟨rfl,hS'⟩
    replace hS:=hS.cmp hS';clear hS'
    refine(On)<|zlc (xcc (vs:= [_]) UI) (UK (k:=k) (n:=n) (T:=T) w (hS.holds _ (List.mem_of_getElem? (i:=1) rfl)) (hS.holds _ (List.mem_of_getElem? (i:=3) rfl)) (hS.holds _ (List.mem_of_getElem? (i:=0) rfl)) (hN.below hS.below) hTB hs hn4 hy Oa Oa Oa) ?_;rintro _ w ⟨rfl,hS'⟩
    replace hS:=hS.cmp hS';clear hS'
    refine(On)<|zlt<|Zf ?_ ?_<;>intro hc
    ·
     refine zsk<|ztn<|zbk<|zrg<|(On)<|(zV (xln Zb hwp))<|(zV (Zp (r:=q3-1)))<|zlv (ZcP (i:=q3-1) (q3-1).toNat Zb hwp (Frame.dq.roomy (hS.dqOf 4 rfl))) ?_
     have aa:=(Kw (e:=q3-1) hwp Oa Oa)
     replace hS:=hS.dqpre (n:=q3) 4 (q3-1).toNat Oa
     replace hS:=hS.dqn 4 (by omega:((q3-1).toNat:Int)=q3-1)
     refine(zP)<|zln<|zbn<|zlq ⟨q3-1,(Ru wp (q3-1).toNat),rfl,?_,?_,?_,rfl,hS⟩
     ·
      exact hdp.pop Oa (by show T _-_<=T _-_;omega)
     ·
      omega
     ·
      exact aa
    refine zx8<|(On)<|zla (xli (n:=1) (len:=1) (pv:= [(0,.int Oi k)]) (cs:= [.int Oi k]) (c:=ints (fun _=>k)) Zb ZJ hS) ?_;rintro v2 w ⟨hS,hv2⟩
    refine zla (Zle 4 Zb ZJ hS (hS.rowN 5 rfl)) ?_;rintro v3 w ⟨hS,hv3⟩
    have hda:=hdp.push k0 hm.1 (by show _<=_\/T _-_<T _-_;omega)
    have hdr:=hda.rng 0 Oa Oa
    refine(zP)<|zlt<|zsq<|zsq<|zdst [0,1,2,3,4,5] [0,1,2,3,4,5] 1000 mx_ hS ?_;clear hS;intro w hS
    refine(zDw 0 xmv)<|(zDw 1 (xix (kk:=0) Zb hv3))<|(zDl 2 (fun w hS=>(xlr (u:= .int Oi ((snoc fq q3 k) 0)) pl_3 (Frame.dq.row (hS.dqOf 4 rfl)))))<|(zDw 3 xmv)<|(zDw 4 (xfb 2 fd_247_2))<|(zDl 5 (fun w hS=>(xlb 0 pl_3 hS)))<|(zDw 6 (Zp (r:=k-m)))<|(zDw 7 Yc)<|zdd<|ztn ?_
    refine Zf ?_ ?_<;>intro hc
    ·
     refine zrg<|zlv xmv ?_
     have hdm:=hda.more hm.1 Oa
     refine KP rfl rfl rfl (YS (q:=1) rfl Zb rfl rfl rfl hv3 rfl Oa Oa) ?_
     have cH:=(Kv (m:=q3) hv3 (Frame.dq.roomy (hS.dqOf 4 rfl)) Oa Oa)
     replace hS:=hS.dqsuf (n:=q3+1) 4 1 Oa
     replace hS:=hS.dqn 4 (by omega:(q3+1-((1:Nat):Int):Int)=q3)
     replace hS:Sat w0 w [.blk g1 [.int Oi s,.int Oi y,.int Oi m],.blk g2 [vN],.own v1 1 3 n (ints gg2),.blk g3 [.int Oi r],.sem (Frame.dq 3 (Xv v3 1) q3 (fun z9=>(snoc fq q3 k) (z9+1))),.own v2 1 3 1 (ints (fun _=>k))]:=hS
     refine(zP)<|zlt<|zdst [0,1,2,3,4,5] [0,1,3,4,5] 18 mx_ hS ?_;clear hS;intro w hS
     refine zDrv 0 xmv ?_
     have yy:DQ (fun j=>T (r+j*s)-j*y) m (k+1) (q3) ((fun z9=>(snoc fq q3 k) (z9+1))):=hda.drop k0 hm.1 Oa
     have qO:=yy.best k0 hm.1
     have hb2:max 0 (k-m)<=((fun z9=>(snoc fq q3 k) (z9+1))) 0:=qO.2.1
     have hb3:((fun z9=>(snoc fq q3 k) (z9+1))) 0<=k:=qO.2.2.1
     have dE:=Kg hs r0 (show 0<=((fun z9=>(snoc fq q3 k) (z9+1))) 0 by omega) hb3 (show r+k*s<n by omega)
     have dC:=X6 k0 Oa hy.1 hy.2
     have dD:=X6 (show 0<=((fun z9=>(snoc fq q3 k) (z9+1))) 0 by omega) Oa hy.1 hy.2
     have dh:=hTB (r+((fun z9=>(snoc fq q3 k) (z9+1))) 0*s) Oa Oa
     refine(zDl 1 (fun w hS=>(xlb 2 pl_3 hS)))<|(zDw 2 xmv)<|(zDw 3 (xfb 0 fd_247_0))<|(zDl 4 (fun w hS=>(xlb 0 pl_3 hS)))<|(zDw 5 (Yi (r:=(k*s)) (e:=rfl)))<|(zDw 6 (Zh (r:=r+(k*s))))<|(zDw 7 xmv)<|(zDw 8 xmv)<|(zDw 9 (xix (kk:=0) Zb cH))<|(zDl 10 (fun w hS=>(xlr (u:= .int Oi ((fun z9=>(snoc fq q3 k) (z9+1)) 0)) pl_3 (Frame.dq.row (hS.dqOf 3 rfl)))))<|(zDw 12 xmv)<|(zDw 13 (xfb 1 fd_247_1))<|(zDl 14 (fun w hS=>(xlb 0 pl_3 hS)))<|(zDw 15 (Yi (r:=(k*y)) (e:=rfl)))<|zdc 11 (xcc (vs:= [_]) UI) (UK (k:=((fun z9=>(snoc fq q3 k) (z9+1)) 0)) (n:=n) (T:=T) w (hS.holds _ (List.mem_of_getElem? (i:=1) rfl)) (hS.holds _ (List.mem_of_getElem? (i:=3) rfl)) (hS.holds _ (List.mem_of_getElem? (i:=0) rfl)) (hN.below hS.below) hTB hs hn4 hy Oa Oa Oa) ?_;rintro _ w ⟨rfl,hS'⟩
     replace hS:=hS.cmp hS';clear hS'
     refine⟨⟨fun _=>hS,hS.pk [0,1,3,4,5]⟩,?_⟩
     refine(zDw 16 (Zh (r:=(T (r+((fun z9=>(snoc fq q3 k) (z9+1)) 0)*s)-((fun z9=>(snoc fq q3 k) (z9+1)) 0)*y)+(k*y))))<|(zDw 17 (xix (kk:=r+(k*s)) Zb hv1))<|zde 18 (xso 2 pl_3 hS (ZD _ _ _)) ?_;clear hS;rintro w hS
     refine⟨⟨fun h=>absurd h (by decide),hS.pk [0,1,3,4,5]⟩,?_⟩
     refine zdd<|zbn<|ztn<|zrg ?_
     refine(zP)<|(zV (Zh (r:=k+1)))<|(zP)<|zln<|zlq ⟨q3,k+1,(upd gg2 (r+(k*s)) ((T (r+((fun z9=>(snoc fq q3 k) (z9+1)) 0)*s)-((fun z9=>(snoc fq q3 k) (z9+1)) 0)*y)+(k*y))),(Xv v3 1),(fun z9=>(snoc fq q3 k) (z9+1)),rfl,Oa,Oa,?_,?_,?_,rfl,hS.pk [0,1,2,3,4]⟩
     ·
      exact yy
     ·
      exact hLY.step hs r0 Oa k0 (Tu hs hm.1 r0 Oa k0 qO.2.1 qO.2.2.1 (fun j j0 j1=>qO.2.2.2 j j0 j1))
     ·
      exact cH
    refine zsk<|ztn<|zdst [0,1,2,3,4,5] [0,1,3,4,5] 18 mx_ hS ?_;clear hS;intro w hS
    refine zDrv 0 xmv ?_
    have yy:DQ (fun j=>T (r+j*s)-j*y) m (k+1) (q3+1) ((snoc fq q3 k)):=hda.keep k0 Oa
    have qO:=yy.best k0 hm.1
    have hb2:max 0 (k-m)<=((snoc fq q3 k)) 0:=qO.2.1
    have hb3:((snoc fq q3 k)) 0<=k:=qO.2.2.1
    have dE:=Kg hs r0 (show 0<=((snoc fq q3 k)) 0 by omega) hb3 (show r+k*s<n by omega)
    have dC:=X6 k0 Oa hy.1 hy.2
    have dD:=X6 (show 0<=((snoc fq q3 k)) 0 by omega) Oa hy.1 hy.2
    have dh:=hTB (r+((snoc fq q3 k)) 0*s) Oa Oa
    refine(zDl 1 (fun w hS=>(xlb 2 pl_3 hS)))<|(zDw 2 xmv)<|(zDw 3 (xfb 0 fd_247_0))<|(zDl 4 (fun w hS=>(xlb 0 pl_3 hS)))<|(zDw 5 (Yi (r:=(k*s)) (e:=rfl)))<|(zDw 6 (Zh (r:=r+(k*s))))<|(zDw 7 xmv)<|(zDw 8 xmv)<|(zDw 9 (xix (kk:=0) Zb hv3))<|(zDl 10 (fun w hS=>(xlr (u:= .int Oi ((snoc fq q3 k) 0)) pl_3 (Frame.dq.row (hS.dqOf 3 rfl)))))<|(zDw 12 xmv)<|(zDw 13 (xfb 1 fd_247_1))<|(zDl 14 (fun w hS=>(xlb 0 pl_3 hS)))<|(zDw 15 (Yi (r:=(k*y)) (e:=rfl)))<|zdc 11 (xcc (vs:= [_]) UI) (UK (k:=((snoc fq q3 k) 0)) (n:=n) (T:=T) w (hS.holds _ (List.mem_of_getElem? (i:=1) rfl)) (hS.holds _ (List.mem_of_getElem? (i:=3) rfl)) (hS.holds _ (List.mem_of_getElem? (i:=0) rfl)) (hN.below hS.below) hTB hs hn4 hy Oa Oa Oa) ?_;rintro _ w ⟨rfl,hS'⟩
    replace hS:=hS.cmp hS';clear hS'
    refine⟨⟨fun _=>hS,hS.pk [0,1,3,4,5]⟩,?_⟩
    refine(zDw 16 (Zh (r:=(T (r+((snoc fq q3 k) 0)*s)-((snoc fq q3 k) 0)*y)+(k*y))))<|(zDw 17 (xix (kk:=r+(k*s)) Zb hv1))<|zde 18 (xso 2 pl_3 hS (ZD _ _ _)) ?_;clear hS;rintro w hS
    refine⟨⟨fun h=>absurd h (by decide),hS.pk [0,1,3,4,5]⟩,?_⟩
    refine zdd<|zbn<|ztn<|zrg ?_
    refine(zP)<|(zV (Zh (r:=k+1)))<|(zP)<|zln<|zlq ⟨q3+1,k+1,(upd gg2 (r+(k*s)) ((T (r+((snoc fq q3 k) 0)*s)-((snoc fq q3 k) 0)*y)+(k*y))),v3,(snoc fq q3 k),rfl,Oa,Oa,?_,?_,?_,rfl,hS.pk [0,1,2,3,4]⟩
    ·
     exact yy
    ·
     exact hLY.step hs r0 Oa k0 (Tu hs hm.1 r0 Oa k0 qO.2.1 qO.2.2.1 (fun j j0 j1=>qO.2.2.2 j j0 j1))
    ·
     exact hv3
   iterate 12 refine zlo ?_
   refine(zP)<|zlt<|zcf<|zxt<|ztx<|ztx<|zbh<|ztn<|zsr ?_
   refine(On)<|zla (xli (n:=1) (len:=1) (pv:= [(0,.int Oi k)]) (cs:= [.int Oi k]) (c:=ints (fun _=>k)) Zb ZJ hS) ?_;rintro v4 w ⟨hS,hv4⟩
   refine zla (Zle 4 Zb ZJ hS (hS.rowN 5 rfl)) ?_;rintro v5 w ⟨hS,hv5⟩
   have hda:=hdp.push k0 hm.1 (by show _<=_\/T _-_<T _-_;omega)
   have hdr:=hda.rng 0 Oa Oa
   refine(zP)<|zlt<|zsq<|zsq<|zdst [0,1,2,3,4,5] [0,1,2,3,4,5] 1000 mx_ hS ?_;clear hS;intro w hS
   refine(zDw 0 xmv)<|(zDw 1 (xix (kk:=0) Zb hv5))<|(zDl 2 (fun w hS=>(xlr (u:= .int Oi ((snoc fq q3 k) 0)) pl_3 (Frame.dq.row (hS.dqOf 4 rfl)))))<|(zDw 3 xmv)<|(zDw 4 (xfb 2 fd_247_2))<|(zDl 5 (fun w hS=>(xlb 0 pl_3 hS)))<|(zDw 6 (Zp (r:=k-m)))<|(zDw 7 Yc)<|zdd<|ztn ?_
   refine Zf ?_ ?_<;>intro hc
   ·
    refine zrg<|zlv xmv ?_
    have hdm:=hda.more hm.1 Oa
    refine KP rfl rfl rfl (YS (q:=1) rfl Zb rfl rfl rfl hv5 rfl Oa Oa) ?_
    have cG:=(Kv (m:=q3) hv5 (Frame.dq.roomy (hS.dqOf 4 rfl)) Oa Oa)
    replace hS:=hS.dqsuf (n:=q3+1) 4 1 Oa
    replace hS:=hS.dqn 4 (by omega:(q3+1-((1:Nat):Int):Int)=q3)
    replace hS:Sat w0 w [.blk g1 [.int Oi s,.int Oi y,.int Oi m],.blk g2 [vN],.own v1 1 3 n (ints gg2),.blk g3 [.int Oi r],.sem (Frame.dq 3 (Xv v5 1) q3 (fun z9=>(snoc fq q3 k) (z9+1))),.own v4 1 3 1 (ints (fun _=>k))]:=hS
    refine(zP)<|zlt<|zdst [0,1,2,3,4,5] [0,1,3,4,5] 18 mx_ hS ?_;clear hS;intro w hS
    refine zDrv 0 xmv ?_
    have yy:DQ (fun j=>T (r+j*s)-j*y) m (k+1) (q3) ((fun z9=>(snoc fq q3 k) (z9+1))):=hda.drop k0 hm.1 Oa
    have qO:=yy.best k0 hm.1
    have hb2:max 0 (k-m)<=((fun z9=>(snoc fq q3 k) (z9+1))) 0:=qO.2.1
    have hb3:((fun z9=>(snoc fq q3 k) (z9+1))) 0<=k:=qO.2.2.1
    have dE:=Kg hs r0 (show 0<=((fun z9=>(snoc fq q3 k) (z9+1))) 0 by omega) hb3 (show r+k*s<n by omega)
    have dC:=X6 k0 Oa hy.1 hy.2
    have dD:=X6 (show 0<=((fun z9=>(snoc fq q3 k) (z9+1))) 0 by omega) Oa hy.1 hy.2
    have dh:=hTB (r+((fun z9=>(snoc fq q3 k) (z9+1))) 0*s) Oa Oa
    refine(zDl 1 (fun w hS=>(xlb 2 pl_3 hS)))<|(zDw 2 xmv)<|(zDw 3 (xfb 0 fd_247_0))<|(zDl 4 (fun w hS=>(xlb 0 pl_3 hS)))<|(zDw 5 (Yi (r:=(k*s)) (e:=rfl)))<|(zDw 6 (Zh (r:=r+(k*s))))<|(zDw 7 xmv)<|(zDw 8 xmv)<|(zDw 9 (xix (kk:=0) Zb cG))<|(zDl 10 (fun w hS=>(xlr (u:= .int Oi ((fun z9=>(snoc fq q3 k) (z9+1)) 0)) pl_3 (Frame.dq.row (hS.dqOf 3 rfl)))))<|(zDw 12 xmv)<|(zDw 13 (xfb 1 fd_247_1))<|(zDl 14 (fun w hS=>(xlb 0 pl_3 hS)))<|(zDw 15 (Yi (r:=(k*y)) (e:=rfl)))<|zdc 11 (xcc (vs:= [_]) UI) (UK (k:=((fun z9=>(snoc fq q3 k) (z9+1)) 0)) (n:=n) (T:=T) w (hS.holds _ (List.mem_of_getElem? (i:=1) rfl)) (hS.holds _ (List.mem_of_getElem? (i:=3) rfl)) (hS.holds _ (List.mem_of_getElem? (i:=0) rfl)) (hN.below hS.below) hTB hs hn4 hy Oa Oa Oa) ?_;rintro _ w ⟨rfl,hS'⟩
    replace hS:=hS.cmp hS';clear hS'
    refine⟨⟨fun _=>hS,hS.pk [0,1,3,4,5]⟩,?_⟩
    refine(zDw 16 (Zh (r:=(T (r+((fun z9=>(snoc fq q3 k) (z9+1)) 0)*s)-((fun z9=>(snoc fq q3 k) (z9+1)) 0)*y)+(k*y))))<|(zDw 17 (xix (kk:=r+(k*s)) Zb hv1))<|zde 18 (xso 2 pl_3 hS (ZD _ _ _)) ?_;clear hS;rintro w hS
    refine⟨⟨fun h=>absurd h (by decide),hS.pk [0,1,3,4,5]⟩,?_⟩
    refine zdd<|zbn<|ztn<|zrg ?_
    refine(zP)<|(zV (Zh (r:=k+1)))<|(zP)<|zln<|zlq ⟨q3,k+1,(upd gg2 (r+(k*s)) ((T (r+((fun z9=>(snoc fq q3 k) (z9+1)) 0)*s)-((fun z9=>(snoc fq q3 k) (z9+1)) 0)*y)+(k*y))),(Xv v5 1),(fun z9=>(snoc fq q3 k) (z9+1)),rfl,Oa,Oa,?_,?_,?_,rfl,hS.pk [0,1,2,3,4]⟩
    ·
     exact yy
    ·
     exact hLY.step hs r0 Oa k0 (Tu hs hm.1 r0 Oa k0 qO.2.1 qO.2.2.1 (fun j j0 j1=>qO.2.2.2 j j0 j1))
    ·
     exact cG
   refine zsk<|ztn<|zdst [0,1,2,3,4,5] [0,1,3,4,5] 18 mx_ hS ?_;clear hS;intro w hS
   refine zDrv 0 xmv ?_
   have yy:DQ (fun j=>T (r+j*s)-j*y) m (k+1) (q3+1) ((snoc fq q3 k)):=hda.keep k0 Oa
   have qO:=yy.best k0 hm.1
   have hb2:max 0 (k-m)<=((snoc fq q3 k)) 0:=qO.2.1
   have hb3:((snoc fq q3 k)) 0<=k:=qO.2.2.1
   have dE:=Kg hs r0 (show 0<=((snoc fq q3 k)) 0 by omega) hb3 (show r+k*s<n by omega)
   have dC:=X6 k0 Oa hy.1 hy.2
   have dD:=X6 (show 0<=((snoc fq q3 k)) 0 by omega) Oa hy.1 hy.2
   have dh:=hTB (r+((snoc fq q3 k)) 0*s) Oa Oa
   refine(zDl 1 (fun w hS=>(xlb 2 pl_3 hS)))<|(zDw 2 xmv)<|(zDw 3 (xfb 0 fd_247_0))<|(zDl 4 (fun w hS=>(xlb 0 pl_3 hS)))<|(zDw 5 (Yi (r:=(k*s)) (e:=rfl)))<|(zDw 6 (Zh (r:=r+(k*s))))<|(zDw 7 xmv)<|(zDw 8 xmv)<|(zDw 9 (xix (kk:=0) Zb hv5))<|(zDl 10 (fun w hS=>(xlr (u:= .int Oi ((snoc fq q3 k) 0)) pl_3 (Frame.dq.row (hS.dqOf 3 rfl)))))<|(zDw 12 xmv)<|(zDw 13 (xfb 1 fd_247_1))<|(zDl 14 (fun w hS=>(xlb 0 pl_3 hS)))<|(zDw 15 (Yi (r:=(k*y)) (e:=rfl)))<|zdc 11 (xcc (vs:= [_]) UI) (UK (k:=((snoc fq q3 k) 0)) (n:=n) (T:=T) w (hS.holds _ (List.mem_of_getElem? (i:=1) rfl)) (hS.holds _ (List.mem_of_getElem? (i:=3) rfl)) (hS.holds _ (List.mem_of_getElem? (i:=0) rfl)) (hN.below hS.below) hTB hs hn4 hy Oa Oa Oa) ?_;rintro _ w ⟨rfl,hS'⟩
   replace hS:=hS.cmp hS';clear hS'
   refine⟨⟨fun _=>hS,hS.pk [0,1,3,4,5]⟩,?_⟩
   refine(zDw 16 (Zh (r:=(T (r+((snoc fq q3 k) 0)*s)-((snoc fq q3 k) 0)*y)+(k*y))))<|(zDw 17 (xix (kk:=r+(k*s)) Zb hv1))<|zde 18 (xso 2 pl_3 hS (ZD _ _ _)) ?_;clear hS;rintro w hS
   refine⟨⟨fun h=>absurd h (by decide),hS.pk [0,1,3,4,5]⟩,?_⟩
   refine zdd<|zbn<|ztn<|zrg ?_
   refine(zP)<|(zV (Zh (r:=k+1)))<|(zP)<|zln<|zlq ⟨q3+1,k+1,(upd gg2 (r+(k*s)) ((T (r+((snoc fq q3 k) 0)*s)-((snoc fq q3 k) 0)*y)+(k*y))),v5,(snoc fq q3 k),rfl,Oa,Oa,?_,?_,?_,rfl,hS.pk [0,1,2,3,4]⟩
   ·
    exact yy
   ·
    exact hLY.step hs r0 Oa k0 (Tu hs hm.1 r0 Oa k0 qO.2.1 qO.2.2.1 (fun j j0 j1=>qO.2.2.2 j j0 j1))
   ·
    exact hv5
  refine zxt<|ztx<|ztx<|zbh<|zbn<|ztn<|zrg<|(zV (Zh (r:=r+1)))<|(zP)<|zln<|zlq ⟨r+1,gg2,rfl,Oa,Oa,?_,rfl,hS.pk [0,1,2]⟩
  ·
   exact hLY.fin Oa
 refine zx8<|(On)<|zx1<|Oj ?_
 obtain⟨hs1,hs2⟩:r=min s n/\r<=n:=Oa
 replace hS:=hS.recont 2 rfl (d:=ints (R T s y m.toNat)) (fun c c0 c1=>by
   unfold ints;rw [hg c c0 Oa (by rcases Int.lt_or_le c s with h1|h1;rw [Int.emod_eq_of_lt c0 h1];omega;have:=Int.emod_lt_of_pos c (show 0<s by omega);omega)])
 exact⟨_,rfl,hv1,hS.pk [2]⟩
end Go.Proofs.YtpnamgfdakfccaaGreat
namespace Go.Proofs.YtpnamgfdakfccaaGreat
open Go Go.RowKit Go.Proofs.Gw
theorem ZmA:Zd Om 288=true:=Oc
theorem Sat.revrows{w w0:World}{l:List Ent}{E:TypeId}{n:Int}{vv:Int->Value}{ln:Of}{f:Og}(i:Nat)(h:Sat w0 w l)(hi:l[i]? =some (.sem (Frame.rows E n vv ln f))):Sat w0 w (l.set i (.sem (Frame.rows E n (fun k=>vv (n-1-k)) (fun k=>ln (n-1-k)) (fun k=>f (n-1-k))))):=
 h.resem i hi (fun⟨h1,h2⟩=>⟨fun k k0 k1=>h1 (n-1-k) Oa Oa,fun a b a0 a1 b0 b1 hab=>h2 (n-1-a) (n-1-b) Oa Oa Oa Oa Oa⟩) fun g ⟨k,k0,k1,hk⟩=>⟨n-1-k,Oa,Oa,hk⟩
theorem Zln{w:World}{v:Value}{n:Int}{f g:Of}(h:Row w v 1 n (ints f))(e:f=g):Row w v 1 n (ints g):=e▸h
theorem Zig{vI:Value}{t:Its}{cap:Int}(w0:World)(hI:Row w0 vI 3 t.n (Z4 t.S t.V t.M))(hk:t.Ok cap):
   Calls Om 234 [vI,.int Oi cap].toArray w0 fun e w=>∃v,e= .returned v/\∃r vv,v=r/\Slh r (t.n+1)/\Sat w0 w [.own r 1 22 (t.n+1) vv,.sem (Frame.rows 3 (t.n+1) vv (fun _=>cap+1) (KI t))]:=by
 have hn:=hI.slh.n0
 have hk1:=hk.n;have hk2:=hk.c0;have hk3:=hk.c1
 refine zenG Tryz.func234 Tryz.ntmps234 fun w hS=> ?_
 refine zsr<|(zP)<|zlz<|(zP)<|(zV (xln XI hI.slh))<|(zV (Zh (r:=t.n+1)))<|zla (xmk Zk Yl hS) ?_;rintro v1 w ⟨hS,hv1⟩
 refine(zP)<|zlz<|(On)<|(zV (xln XI hI.slh))<|(zP)<|(zV (Zh (r:=cap+1)))<|zla (xmk Zb ZJ hS) ?_;rintro v2 w ⟨hS,hv2⟩
 refine(zV (xix (kk:=t.n) Zk hv1))<|zle (xso 0 pl_22 hS rfl (hv:=hv2.one)) ?_;clear hS;rintro w hS
 refine zx5<|(zP)<|(zV (xln XI hI.slh))<|(zV (Zp (r:=t.n-1)))<|(zP)<|zx6 ?_
 replace hS:=hS.addrows 3 (fun _=>Oh) (fun _=>cap+1) (fun j=>KI t (t.n-j))
 have aV:=fun k (k0:0<=k) (k1:k<0)=>hS.slhIn 2 rfl k0 k1
 replace hS:=Sat.merge2 (l1:= [_]) (l2:= []) (l3:= []) hS Oa
 have xp:=fun k (k0:0<=k) (k1:k<1)=>hS.slhIn 1 rfl k0 k1
 replace hS:=hS.rerows (vv':=gsn (fun _=>Oh) 0 v2) (ln':=fun _=>cap+1) (f':=fun j=>KI t (t.n-j)) 1 rfl (fun k k0 k1=>by
   by_cases e:k<0
   · exact⟨rfl,Zq e,fun j _ _=>by rw [Zq e]⟩
   · have hk9:k=0:=Oa
     refine⟨rfl,ZB e,fun j _ _=> ?_⟩
     rw [ZB e,hk9];rw [show t.n-(0:Int)=t.n by omega,ZiL])
 have ko:=fun k (k0:0<=k) (k1:k<1)=>hS.slhIn 1 rfl k0 k1
 refine zlp (fun mm M w=>∃(nC:Int) (wv:Int->Value) (rv:Int->Value) (i:Int),mm=((i+1).toNat)/\(-1<=i)/\(i<=t.n-1)/\(nC=t.n-i)/\(∀j,0<=j->j<nC->wv (t.n-j)=rv j)/\M= [(0,vI),(4,Oh),(5,v1),(6,.int Oi i)]/\Sat w0 w [.own v1 1 22 (t.n+1) wv,.sem (Frame.rows 3 nC rv (fun _=>cap+1) (fun j=>KI t (t.n-j)))]) ⟨1,upd (fun _=> Oh) t.n (v2),gsn (fun _=>Oh) 0 v2,(t.n-1),rfl,Oa,Oa,Oa,?_,rfl,hS⟩ ?_
 ·
  intro j j0 j1;obtain rfl:j=0:=Oa
  rw [show t.n-(0:Int)=t.n by omega,gu_self,ZB Oa]
 clear hS w
 rintro mm M w ⟨nC,wv,rv,i,rfl,i0,i1,hnC,hwv,rfl,hS⟩
 have za:=fun k (k0:0<=k) (k1:k<nC)=>hS.slhIn 1 rfl k0 k1
 refine zsq<|zsr<|(On)<|zlt<|Zf ?_ ?_<;>intro hc
 ·
  refine zsk<|ztn<|zsq<|zbk<|zdst [0,1] [1] 13 mx_ hS ?_;clear hS;intro w hS
  refine(zDw 0 xmv)<|(zDw 1 xmv)<|(zDw 2 xmv)<|(zDw 3 xmv)<|(zDw 4 (xix (kk:=3*i) XI hI.slh))<|YF 5 (fun w hS=>(xlw (cs:= [.int Oi (t.S i),.int Oi (t.V i),.int Oi (t.M i)]) Zab (hI.below hS.below) (UH (k:=3*i) (i:=i) t.S t.V t.M Oa))) ?_
  have hev:=hk.all i Oa Oa;unfold Its.each Xd at hev
  refine(zDw 6 xmv)<|(zDw 7 xmv)<|(zDw 8 (Zh (r:=i+1)))<|(zDw 9 (xix (kk:=i+1) Zk hv1))<|zdl 10 (fun w hS=>(xlr (u:=(rv (t.n-i-1))) pl_22 (hS.rowN 0 rfl) (e:=(by have:=hwv (t.n-i-1) Oa Oa;rwa [show t.n-(t.n-i-1)=i+1 by omega] at this)))) ?_
  refine zdc 11 (xc0 ZmA) (Zkj (n:=cap+1) (s:=(t.S i)) (y:=(t.V i)) (m:=(t.M i)) (T:=KI t (i+1)) w (Zln (hS.rowIn (k:=t.n-i-1) 1 rfl Oa Oa) (by show KI t (t.n-(t.n-i-1))=_;congr 1;omega)) (fun c c0 c1=>by have:=Wn hk (i:=i+1) Oa Oa c0;omega) Oa Oa Oa Oa Oa) ?_;rintro aw w ⟨_,rfl,cZ,hS'⟩
  replace hS:=(hS.comp hS').n3;clear hS'
  refine⟨⟨fun _=>hS.pk [0,1],hS.pk [1]⟩,?_⟩
  refine(zDw 12 (xix (kk:=i) Zk hv1))<|zde 13 (xso 0 pl_22 hS rfl (hv:=cZ.one)) ?_;clear hS;rintro w hS
  refine⟨⟨fun h=>absurd h (by decide),hS.pk [1]⟩,?_⟩
  refine zdd<|zbn<|ztn<|zrg ?_
  refine(zP)<|(zV (Zp (r:=i-1)))<|(zP)<|zln ?_
  replace hS:=Sat.merge (l1:= [_]) (l2:= []) (l3:= []) hS Oa
  have kV:=fun k (k0:0<=k) (k1:k<nC+1)=>hS.slhIn 1 rfl k0 k1
  replace hS:=hS.rerows (vv':=gsn rv nC aw) (ln':=fun _=>cap+1) (f':=fun j=>KI t (t.n-j)) 1 rfl (fun k k0 k1=>by
    by_cases e:k<nC
    · exact⟨rfl,Zq e,fun j _ _=>by rw [Zq e]⟩
    · have hk9:k=nC:=Oa
      refine⟨rfl,ZB e,fun j _ _=> ?_⟩
      rw [ZB e,hk9];rw [hnC,show t.n-(t.n-i)=i by omega,ZeN t (i:=i) Oa Oa])
  have km:=fun k (k0:0<=k) (k1:k<nC+1)=>hS.slhIn 1 rfl k0 k1
  refine zlq ⟨nC+1,upd wv i (aw),gsn rv nC aw,i-1,rfl,Oa,Oa,Oa,?_,rfl,hS⟩
  ·
   intro j j0 j1;by_cases e:j=nC
   · rw [e,hnC,show t.n-(t.n-i)=i by omega,gu_self,ZB Oa]
   · rw [gu_ne Oa,Zq Oa];exact hwv j j0 Oa
 refine zx8<|(On)<|zx1<|Oj ?_
 obtain rfl:i= -1:=Oa
 obtain rfl:nC=t.n+1:=Oa
 replace hS:=Sat.revrows 1 hS rfl
 replace hS:=hS.rerows (vv':=wv) (ln':=fun _=>cap+1) (f':=KI t) 1 rfl (fun k k0 k1=>⟨by rw [<-hwv _ Oa Oa];congr 1;omega,rfl,fun j _ _=>by show KI t (t.n-(t.n+1-1-k)) j=_;congr 1;omega⟩)
 exact⟨_,_,rfl,hv1,hS.pk [0,1]⟩
variable {cap i j:Int}
theorem ZmR:Zd Om 233=true:=Oc
theorem ZmQ:Zd Om 234=true:=Oc
theorem Zdn:ZN Om 247=some (.agg #[.int Oi 0,.int Oi 0,.int Oi 0],3,24):=Oc
def ZpO(t:Its)(cap n:Int)(x:Of)(val e:Int):Prop:=(¬t.Ok cap/\n=0/\val=0/\e=1)\/(t.Ok cap/\n=t.n/\KX t cap x t.n/\val=KI t 0 cap/\e=0)
theorem Zd8{t:Its}(hk:t.Ok cap){c:Int}(i0:0<=i)(i1:i<t.n)(j0:0<=j)(j1:j<=c.tdiv (t.S i))(c0:0<=c):0<=j*t.S i/\j*t.S i<=c:=by
 have he:=hk.all i i0 i1
 unfold Its.each Xd at he
 have hq:=YD (a:=c) (b:=t.S i) c0 he.1
 have h1:=Int.mul_nonneg j0 (show 0<=t.S i by omega)
 have h2:=Int.mul_le_mul_of_nonneg_right j1 (show 0<=t.S i by omega)
 omega
theorem ZgN{t:Its}(hk:t.Ok cap){c:Int}(i0:0<=i)(i1:i<t.n)(h:j*t.S i<=c)(c0:0<=c):j<=c.tdiv (t.S i):=by
 have he:=hk.all i i0 i1
 unfold Its.each Xd at he
 rw [Int.tdiv_eq_ediv_of_nonneg c0]
 exact(Int.le_ediv_iff_mul_le Oa).2 h
theorem ZgM{t:Its}(hk:t.Ok cap)(i0:0<=i)(i1:i<t.n)(j0:0<=j)(j1:j<=4001):0<=j*t.V i/\j*t.V i<=4296041037824:=by
 have he:=hk.all i i0 i1
 unfold Its.each Xd at he
 exact X6 j0 j1 he.2.2.1 he.2.2.2.1
theorem Zii{vI:Value}{t:Its}(w0:World)(hI:Row w0 vI 3 t.n (Z4 t.S t.V t.M)):
   Calls Om 166 [vI,.int Oi cap].toArray w0 fun e w=>∃v,e= .returned v/\∃r n x val e,v= .tuple #[r,.int Oi val,.int Oi e]/\ZpO t cap n x val e/\Slh r n/\Sat w0 w [.own r 1 3 n (ints x)]:=by
 have hn:=hI.slh.n0
 refine zenG Tryz.func166 Tryz.ntmps166 fun w hS=> ?_
 refine zsr<|(Oo)<|zx5<|(On)<|zlc (xc0 ZmR) (Zih (t:=t) (cap:=cap) w (hI.below hS.below)) ?_;rintro _ w ⟨rfl,hS'⟩
 replace hS:=hS.cmp hS';clear hS'
 refine(zP)<|zlt<|Zf ?_ ?_<;>intro hc
 ·
  refine zsr<|(Oo)<|zx14<|zf3 ⟨_,rfl,?_⟩
  exact⟨_,0,fun _=>0,0,1,rfl,.inl ⟨‹¬t.Ok cap›,rfl,rfl,rfl⟩,slh_nil,(hS.addnil 1 3 (ints fun _=>0)).pk [0]⟩
 refine ZV<|zlv xmv ?_
 have hk:t.Ok cap:=by first|assumption|exact Od ‹_›
 refine(zP)<|zlc (xc0 ZmQ) (Zig (t:=t) (cap:=cap) w (hI.below hS.below) hk) ?_;rintro yK w ⟨_,yf,rfl,yO,hS'⟩
 replace hS:=(hS.comp hS').n2;clear hS'
 have zB:=fun k (k0:0<=k) (k1:k<(t.n+1))=>hS.slhIn 1 rfl k0 k1
 refine(zP)<|zlz<|(On)<|zx5<|(zP)<|(zV (xln XI hI.slh))<|(zP)<|zx6 ?_
 replace hS:=hS.addnil 1 3 (ints (fun _=>0))
 have hk1:=hk.n;have hk2:=hk.c0;have hk3:=hk.c1
 refine zlp (fun mm M w=>∃(nx:Int) (c:Int) (i:Int) (wx:Value) (fx:Of),mm=((t.n-i).toNat)/\(0<=i)/\(i<=t.n)/\(nx=i)/\(0<=c)/\(c<=cap)/\(c=cap-KU t fx i.toNat)/\(KX t cap fx i)/\(Slh wx nx)/\M= [(1,.int Oi cap),(4,wx),(5,.int Oi 0),(6,.int Oi 0),(7,yK),(8,.int Oi c),(20,vI),(21,.int Oi t.n),(22,.int Oi i)]/\Sat w0 w [.own yK 1 22 (t.n+1) yf,.sem (Frame.rows 3 (t.n+1) yf (fun _=>cap+1) (KI t)),.own wx 1 3 nx (ints fx)]) ⟨0,cap,0,Oh,(fun _=>0),rfl,Oa,Oa,Oa,Oa,Oa,?_,?_,?_,rfl,hS⟩ ?_
 ·
  show cap=cap-0;omega
 ·
  intro k k0 k1;omega
 ·
  exact slh_nil
 clear hS w
 rintro mm M w ⟨nx,c,i,wx,fx,rfl,i0,i1,hnx,c0,c1,hcu,hkx,hwx,rfl,hS⟩
 refine zsr<|(zP)<|zx7<|Zf ?_ ?_<;>intro hc
 ·
  refine zx3<|(zP)<|(zV (xix (kk:=3*i) XI hI.slh))<|zlv (xlw (cs:= [.int Oi (t.S i),.int Oi (t.V i),.int Oi (t.M i)]) Zab (hI.below hS.below) (UH (k:=3*i) (i:=i) t.S t.V t.M Oa)) ?_
  have hev:=hk.all i i0 Oa;unfold Its.each Xd at hev
  obtain⟨j0,hj0,hj1,hj2,hj3⟩:=ZpP hk i0 (by omega:i<t.n) (c:=c) Oa
  have hjd:=ZgN hk i0 (by omega:i<t.n) hj2 Oa
  have hqf:=YD (a:=c) (b:=t.S i) Oa hev.1
  refine zla (xal (cs:= [_,_,_]) Zdn hS) ?_;rintro _ w ⟨g1,rfl,hS⟩
  refine(zP)<|zle (xsw 3 Zab hS) ?_;clear hS;rintro w hS
  refine zx7<|zdst [0,1,2,3] [0,1,2,3] 1000 mx_ hS ?_;clear hS;intro w hS
  refine(zDw 0 (xfb 2 fd_247_2))<|(zDl 1 (fun w hS=>(xlb 3 pl_3 hS)))<|(zDw 2 xmv)<|(zDw 3 (xfb 0 fd_247_0))<|(zDl 4 (fun w hS=>(xlb 3 pl_3 hS)))<|(zDw 5 (Uk (r:=(Int.tdiv c (t.S i)))))<|(zDw 6 (Rr (r:=(min (t.M i) (Int.tdiv c (t.S i))))))<|(zDw 7 xas)<|zdd<|ztn<|zsq<|zbk<|zlp (fun mm M w=>∃(n:Int),mm=((n-j0).toNat)/\(j0<=n)/\(n<=min (t.M i) (c.tdiv (t.S i)))/\(∀j,n<j->j<=t.M i->j*t.S i<=c->KI t (i+1) (c-j*t.S i)+j*t.V i≠KI t i c)/\M= [(1,.int Oi cap),(4,wx),(5,.int Oi 0),(6,.int Oi 0),(7,yK),(8,.int Oi c),(9,.int Oi i),(10,Or g1),(11,.int Oi n),(20,vI),(21,.int Oi t.n),(22,.int Oi i)]/\Sat w0 w [.own yK 1 22 (t.n+1) yf,.sem (Frame.rows 3 (t.n+1) yf (fun _=>cap+1) (KI t)),.own wx 1 3 nx (ints fx),.blk g1 [.int Oi (t.S i),.int Oi (t.V i),.int Oi (t.M i)]]) ⟨(min (t.M i) (c.tdiv (t.S i))),rfl,Oa,Oa,?_,rfl,hS⟩ ?_
  ·
   intro j h1 h2 h3;have:=ZgN hk i0 (by omega:i<t.n) h3 Oa;omega
  clear hS w
  rintro mm M w ⟨n,rfl,hnj,hnm,qa,rfl,hS⟩
  refine zsq<|zsq<|zdst [0,1,2,3] [0,1,2,3] 1000 mx_ hS ?_;clear hS;intro w hS
  refine(zDw 0 xmv)<|(zDw 1 xmv)<|(zDw 2 (Zh (r:=i+1)))<|(zDw 3 (xix (kk:=i+1) Zk yO))<|(zDl 4 (fun w hS=>(xlr (u:=(yf (i+1))) pl_22 (hS.rowN 0 rfl))))<|(zDw 5 xmv)<|zDrv 6 xmv ?_
  have hjs:=Zd8 hk i0 (by omega:i<t.n) (show 0<=n by omega) (show n<=c.tdiv (t.S i) by omega) Oa
  have hjv:=ZgM hk i0 (by omega:i<t.n) (show 0<=n by omega) Oa
  have hkb:=Wn hk (i:=i+1) Oa Oa (c:=c-n*t.S i) Oa
  have hkc:=Wn hk (i:=i) Oa Oa (c:=c) Oa
  refine(zDw 7 (xfb 0 fd_247_0))<|(zDl 8 (fun w hS=>(xlb 3 pl_3 hS)))<|(zDw 9 (Yi (r:=(n*(t.S i))) (e:=rfl)))<|(zDw 10 (Zp (r:=c-(n*(t.S i)))))<|(zDw 11 (xix (kk:=c-(n*(t.S i))) Zb (zB (i+1) Oa Oa)))<|(zDl 12 (fun w hS=>(xlr (u:= .int Oi ((KI t) (i+1) (c-(n*(t.S i))))) pl_3 (hS.rowIn (k:=i+1) 1 rfl Oa Oa))))<|(zDw 13 xmv)<|(zDw 14 (xfb 1 fd_247_1))<|(zDl 15 (fun w hS=>(xlb 3 pl_3 hS)))<|(zDw 16 (Yi (r:=(n*(t.V i))) (e:=rfl)))<|(zDw 17 (Zh (r:=((KI t) (i+1) (c-(n*(t.S i))))+(n*(t.V i)))))<|(zDw 18 xmv)<|(zDw 19 xmv)<|(zDw 20 (xix (kk:=i) Zk yO))<|YF 21 (fun w hS=>(xlr (u:=(yf i)) pl_22 (hS.rowN 0 rfl))) ?_
  refine(zDw 22 xmv)<|(zDw 23 (xix (kk:=c) Zb (zB i Oa Oa)))<|(zDl 24 (fun w hS=>(xlr (u:= .int Oi ((KI t) i c)) pl_3 (hS.rowIn (k:=i) 1 rfl Oa Oa))))<|(zDw 25 YE)<|zdd<|ztn ?_
  refine Zf ?_ ?_<;>intro hc
  ·
   refine zsk<|ztn<|zbk<|zrg<|(zP)<|(zV (Zp (r:=n-1)))<|(zP)<|zln<|zbn ?_
   have hne:j0≠n:=fun hh=>by rw [hh] at hj3;omega
   refine zlq ⟨n-1,rfl,Oa,Oa,?_,rfl,hS⟩
   ·
    intro j h1 h2 h3;by_cases e:j=n
    · rw [e];assumption
    · exact qa j Oa h2 h3
  refine zx8<|zlv xmv ?_
  have hjs:=Zd8 hk i0 (by omega:i<t.n) (show 0<=n by omega) (show n<=c.tdiv (t.S i) by omega) Oa
  have hjv:=ZgM hk i0 (by omega:i<t.n) (show 0<=n by omega) Oa
  have hkb:=Wn hk (i:=i+1) Oa Oa (c:=c-n*t.S i) Oa
  have hkc:=Wn hk (i:=i) Oa Oa (c:=c) Oa
  have hqe:KI t (i+1) (c-n*t.S i)+n*t.V i=KI t i c:=Oa
  refine(zP)<|zla (xli (n:=1) (len:=1) (pv:= [(0,.int Oi n)]) (cs:= [.int Oi n]) (c:=ints (fun _=>n)) Zb ZJ hS) ?_;rintro v1 w ⟨hS,hv1⟩
  refine zla (xap 2 (r:=nx+1) Zb ZJ hS (hS.rowN 4 rfl) (Wl _ _ _)) ?_;rintro v2 w ⟨hS,hv2⟩
  refine(zP)<|zlt<|zrg<|(On)<|(zV (xfb 0 fd_247_0))<|(zV (xlb 3 pl_3 hS))<|(zV (Yi (r:=(n*(t.S i))) (e:=rfl)))<|(zV (Zp (r:=c-(n*(t.S i)))))<|(zP)<|zx10<|(zV (Zh (r:=i+1)))<|(zP)<|zln<|zlq ⟨nx+1,c-(n*(t.S i)),i+1,v2,(snoc fx nx n),rfl,Oa,Oa,Oa,Oa,Oa,?_,?_,?_,rfl,hS.pk [0,1,2]⟩
  ·
   rw [hnx,ZkK t fx n i0];omega
  ·
   rw [hnx];rw [hcu] at qa hjs hqe;exact KX.snoc hkx i0 Oa Oa Oa hqe (fun j j0 j1 j2=>qa j j0 j1 j2)
  ·
   exact hv2
 refine zxt<|ztx<|ztx<|zbh<|ztn<|zsq<|zdst [0,1,2] [0,1,2] 1000 mx_ hS ?_;clear hS;intro w hS
 refine(zDw 0 xmv)<|(zDw 1 xmv)<|zDrv 2 (xix (kk:=0) Zk yO) ?_
 have hk0:=Wn hk (i:=0) Oa Oa (c:=cap) Oa
 refine(zDl 3 (fun w hS=>(xlr (u:=(yf 0)) pl_22 (hS.rowN 0 rfl))))<|(zDw 4 xmv)<|(zDw 5 (xix (kk:=cap) Zb (zB 0 Oa Oa)))<|(zDl 6 (fun w hS=>(xlr (u:= .int Oi ((KI t) 0 cap)) pl_3 (hS.rowIn (k:=0) 1 rfl Oa Oa))))<|(zDw 7 xas)<|(zDw 8 xas)<|(zDw 9 xas)<|zdd<|ztn<|zrt<|zf3 ⟨_,rfl,?_⟩
 obtain rfl:i=t.n:=Oa
 subst hnx
 exact⟨_,_,_,_,0,rfl,.inr ⟨hk,rfl,hkx,rfl,rfl⟩,hwx,hS.pk [2]⟩
end Go.Proofs.YtpnamgfdakfccaaGreat
namespace Go.Proofs.YtpnamgfdakfccaaGreat
open Go Go.RowKit Go.Proofs.Gw
variable {y:Of}
theorem Zm8:Zd Om 165=true:=Oc
theorem Zm7:Zd Om 166=true:=Oc
theorem ZmS:Zd Om 232=true:=Oc
def TQ(n:Int):Prop:=n<0\/1073741824<n
def ZfN(p:Prob)(n:Int)(y:Of):Prop:=p.Ok/\n=p.m/\VH p y
def X0(p:Prob)(y:Of):Its:=⟨p.m,fun i=>p.L i+p.kerf,y,p.D⟩
theorem ZlA{p:Prob}(hp:p.Ok)(hy:VH p y):(X0 p y).Ok (p.stock+p.kerf):=by
 have h1:=hp.m2;have h2:=hp.s1;have h3:=hp.s2;have h4:=hp.k1;have h5:=hp.k2
 refine⟨h1,Oa,Oa,fun i i0 i1=> ?_⟩
 have h6:=hp.all i i0 i1
 have h7:=hy i i0 i1
 unfold Prob.each at h6
 show Xd (p.L i+p.kerf) (y i) (p.D i)
 unfold Xd;omega
def WC(p:Prob)(y:Of):Int:=KI (X0 p y) 0 (p.stock+p.kerf)
noncomputable def aC(p:Prob)(y:Of):Of:= @dite _ (∃x,KX (X0 p y) (p.stock+p.kerf) x p.m) (Classical.propDecidable _) (fun h=>Classical.choose h) fun _ _=>0
theorem Zk9{p:Prob}(hm:0<=p.m){x:Of}(h:KX (X0 p y) (p.stock+p.kerf) x p.m):∀i,0<=i->i<p.m->x i=aC p y i:=by
 have hex:∃x,KX (X0 p y) (p.stock+p.kerf) x p.m:=⟨x,h⟩
 have h2:=Classical.choose_spec hex
 unfold aC
 rw [dif_pos hex]
 intro i i0 i1
 exact KX.same (n:=p.m.toNat) (by rw [Int.toNat_of_nonneg hm];exact h) (by rw [Int.toNat_of_nonneg hm];exact h2) i i0 Oa
def PriceR(p:Prob)(n:Int)(y:Of)(na:Int)(a:Of)(worth e:Int):Prop:=(¬ZfN p n y/\na=0/\worth=0/\e=1)\/(ZfN p n y/\na=p.m/\a=aC p y/\(∃x,KX (X0 p y) (p.stock+p.kerf) x p.m)/\worth=WC p y/\e=0)
theorem ZnE{x:Int}(w0:World):
   Calls Om 232 [.int Oi x].toArray w0 fun e w=>∃v,e= .returned v/\v=B (TQ x)/\Sat w0 w []:=by
 refine zenG Tryz.func232 Tryz.ntmps232 fun w hS=> ?_
 refine zsr<|(zP)<|zlz<|(Oo)<|zlb 5 ?_ ?_<;>intro hc
 ·
  refine(zO)<|(zO)<|(On)<|zx1<|Oj ?_
  exact⟨Yn (by unfold TQ;omega),hS⟩
 refine zs4 ?_
 refine zx1<|Oj ?_
 exact⟨Zm (by unfold TQ;omega),hS⟩
theorem Zkk{v:Value}{n:Int}{f:Of}(w0:World)(hR:Row w0 v 1 n (ints f)):
   Calls Om 147 [v,.func (.func 232) #[] #[]].toArray w0 fun e w=>∃v,e= .returned v/\∃r:Int,v= .int Oi r/\((r= -1/\∀k,0<=k->k<n->¬(TQ (f k)))\/(0<=r/\r<n/\(TQ (f r))))/\Sat w0 w []:=by
 have hn:=hR.slh.n0;have hn1:=hR.slh.n1
 refine zenG Tryz.func147 Tryz.ntmps147 fun w hS=> ?_
 refine zsr<|(zP)<|zx5<|(zP)<|(zV (xln Zb hR.slh))<|(zP)<|zx6<|zlp (fun mm M w=>∃(i:Int),mm=((n-i).toNat)/\(0<=i)/\(i<=n)/\(∀k,0<=k->k<i->¬(TQ (f k)))/\M= [(0,v),(1,.func (.func 232) #[] #[]),(7,.int Oi n),(8,.int Oi i)]/\Sat w0 w []) ⟨0,rfl,Oa,Oa,?_,rfl,hS⟩ ?_
 ·
  intro k h0 h1;omega
 clear hS w
 rintro mm M w ⟨i,rfl,h0,h1,qa,rfl,hS⟩
 refine zsr<|(zP)<|zx7<|Zf ?_ ?_<;>intro hc
 ·
  refine zx3<|(On)<|zlz<|(Oo)<|(zV (xix (kk:=i) Zb hR.slh))<|(zV (xlr (u:= .int Oi (f i)) pl_3 (hR.below hS.below)))<|zlc (xc0 ZmS) (ZnE (x:=(f i)) w) ?_;rintro _ w ⟨rfl,hS'⟩
  replace hS:=hS.cmp hS';clear hS'
  refine zlt<|Zf ?_ ?_<;>intro hc
  ·
   refine zsr<|(On)<|zx2<|Oj ?_
   exact⟨i,rfl,.inr ⟨by omega,Oa,‹TQ (f i)›⟩,hS⟩
  refine zx4<|(zV (Zh (r:=i+1)))<|(zP)<|zln<|zlq ⟨i+1,rfl,Oa,Oa,?_,rfl,hS⟩
  ·
   intro k h0' h1';rcases Int.lt_or_eq_of_le (show k<=i by omega) with hk|hk;exact qa k h0' hk;rw [hk];assumption
 refine zx8<|(zP)<|zx1<|Oj ?_
 exact⟨-1,rfl,.inl ⟨rfl,fun k h0 h1=>qa k h0 Oa⟩,hS⟩
theorem Zkt{v:Value}{n:Int}{f:Of}(w0:World)(hR:Row w0 v 1 n (ints f)):
   Calls Om 90 [v,.func (.func 232) #[] #[]].toArray w0 fun e w=>∃v,e= .returned v/\v=B (∃k,0<=k/\k<n/\(TQ (f k)))/\Sat w0 w []:=by
 refine zenG Tryz.func90 Tryz.ntmps90 fun w hS=> ?_
 refine zsr<|(zP)<|zlz<|(On)<|zlc (xc0 WX) (Zkk w (hR.below hS.below)) ?_;rintro _ w ⟨r1,rfl,hr1,hS'⟩
 replace hS:=hS.cmp hS';clear hS'
 refine(On)<|zx1<|Oj ?_
 exact⟨Zm (by
  rcases hr1 with⟨h1,h2⟩|⟨h1,h2,h3⟩
  · exact⟨fun h=>Oa,fun⟨k,h4,h5,h6⟩=>absurd h6 (h2 k h4 h5)⟩
  · exact⟨fun _=>⟨_,h1,h2,h3⟩,fun _=>h1⟩),hS⟩
theorem Zh5{vL vD:Value}{p:Prob}{vY:Value}{n:Int}(w0:World)(h:PAt w0 vL vD p)(hY:Row w0 vY 1 n (ints y)):
   Calls Om 165 [.agg #[vL,vD,.int Oi p.stock,.int Oi p.kerf],vY].toArray w0 fun e w=>∃v,e= .returned v/\v=B (ZfN p n y)/\Sat w0 w []:=by
 obtain⟨hm,hm1,hd,hd1,hs,hk⟩:=h.Oq
 have hn0:=hY.slh.n0;have hn1:=hY.slh.n1
 refine zenG Tryz.func165 Tryz.ntmps165 fun w hS=> ?_
 refine zsr<|zla (xbx (cs:= [_,_,_,_]) hS) ?_;rintro _ w ⟨g1,rfl,hS⟩
 refine(zP)<|zlz<|(zV (xls 0 st_27 hS))<|zlc (xc0 XP) (Ya (p:=p) w (h.below hS.below)) ?_;rintro _ w ⟨rfl,hS'⟩
 replace hS:=hS.cmp hS';clear hS'
 refine(zP)<|zlb 7 ?_ ?_<;>intro hc
 ·
  refine(zP)<|(zV (xln Zb hY.slh))<|(zV (xfb 0 fd_27_0))<|(zV (xlb 0 pl_22 hS))<|(zV (xln Zb h.L.slh))<|(Oo)<|zlb 15 ?_ ?_<;>intro hc
  ·
   refine(zP)<|zlc (xc0 U2) (Zkt (n:=n) (f:=y) w (hY.below hS.below)) ?_;rintro _ w ⟨rfl,hS'⟩
   replace hS:=hS.cmp hS';clear hS'
   refine(Oo)<|zx1<|Oj ?_
   exact⟨Zm (by exact⟨fun hx=>⟨by assumption,Oa,fun k k0 k1=>by have:¬TQ (y k):=fun hh=>hx ⟨k,k0,Oa,hh⟩;unfold TQ at this;omega⟩,fun⟨h1,h2,h3⟩ ⟨k,k0,k1,hk⟩=>by have:=h3 k k0 Oa;unfold TQ at hk;omega⟩),hS.nl⟩
  iterate 3 refine zlo ?_
  refine(On)<|zx1<|Oj ?_
  exact⟨Zj (by rintro⟨h1,h2,h3⟩;first|exact absurd h1 ‹_›|omega),hS.nl⟩
 iterate 6 refine zlo ?_
 refine zs2 ?_
 iterate 3 refine zlo ?_
 refine(On)<|zx1<|Oj ?_
 exact⟨Zj (by rintro⟨h1,h2,h3⟩;first|exact absurd h1 ‹_›|omega),hS.nl⟩
theorem Zkf{vL vD:Value}{p:Prob}{vY:Value}{n:Int}(w0:World)(h:PAt w0 vL vD p)(hY:Row w0 vY 1 n (ints y)):
   Calls Om 88 [.agg #[vL,vD,.int Oi p.stock,.int Oi p.kerf],vY].toArray w0 fun e w=>∃v,e= .returned v/\∃r na a worth e,v= .tuple #[r,.int Oi worth,.int Oi e]/\PriceR p n y na a worth e/\Slh r na/\Sat w0 w [.own r 1 3 na (ints a)]:=by
 obtain⟨hm,hm1,hd,hd1,hs,hk⟩:=h.Oq
 have hn0:=hY.slh.n0;have hn1:=hY.slh.n1
 refine zenG Tryz.func88 Tryz.ntmps88 fun w hS=> ?_
 refine zsr<|zla (xbx (cs:= [_,_,_,_]) hS) ?_;rintro _ w ⟨g1,rfl,hS⟩
 refine(Oo)<|zx5<|(zV (xls 0 st_27 hS))<|(zP)<|zlc (xc0 Zm8) (Zh5 (p:=p) (n:=n) (y:=y) w (h.below hS.below) (hY.below hS.below)) ?_;rintro _ w ⟨rfl,hS'⟩
 replace hS:=hS.cmp hS';clear hS'
 refine(zP)<|zlt<|Zf ?_ ?_<;>intro hc
 ·
  refine zsr<|(Oo)<|zx14<|zf3 ⟨_,rfl,?_⟩
  exact⟨_,0,fun _=>0,0,1,rfl,.inl ⟨‹¬ZfN p n y›,rfl,rfl,rfl⟩,slh_nil,(hS.addnil 1 3 (ints fun _=>0)).pk [1]⟩
 refine ZV<|(zP)<|zx5<|(zV (xfb 0 fd_27_0))<|(zV (xlb 0 pl_22 hS))<|(zV (xln Zb h.L.slh))<|(zP)<|zx6 ?_
 have hpr:ZfN p n y:=by first|assumption|exact Od ‹_›
 obtain⟨hok,hnm,hyp⟩:=id hpr
 have hs1:=hok.s1;have hs2:=hok.s2;have hk1:=hok.k1;have hk2:=hok.k2;have hm2:=hok.m2;have hmd:=hok.d
 replace hS:=hS.addnil 3 247 (Z4 (fun _=>0) (fun _=>0) (fun _=>0))
 refine zlp (fun mm M w=>∃(nC:Int) (fS:Of) (fV:Of) (fM:Of) (i:Int) (wC:Value),mm=((p.m-i).toNat)/\(0<=i)/\(i<=p.m)/\(nC=i)/\(∀k,0<=k->k<i->fS k=(X0 p y).S k/\fV k=(X0 p y).V k/\fM k=(X0 p y).M k)/\(Slh wC nC)/\M= [(1,vY),(2,Or g1),(4,Oh),(5,.int Oi 0),(6,.int Oi 0),(7,wC),(15,vL),(16,.int Oi p.m),(17,.int Oi i)]/\Sat w0 w [.blk g1 [vL,vD,.int Oi p.stock,.int Oi p.kerf],.own wC 3 247 nC (Z4 fS fV fM)]) ⟨0,(fun _=>0),(fun _=>0),(fun _=>0),0,Oh,rfl,Oa,Oa,Oa,?_,?_,rfl,hS⟩ ?_
 ·
  intro k k0 k1;omega
 ·
  exact slh_nil
 clear hS w
 rintro mm M w ⟨nC,fS,fV,fM,i,wC,rfl,h0,h1,hnC,hcc,hwC,rfl,hS⟩
 refine zsr<|(zP)<|zx7<|Zf ?_ ?_<;>intro hc
 ·
  refine zx3<|(zP)<|(zV (xix (kk:=i) Zb h.L.slh))<|zlv (xlr (u:= .int Oi (p.L i)) pl_3 (h.L.below hS.below)) ?_
  have hbv:=h.iL i
  have he:=hok.all i h0 Oa;unfold Prob.each at he
  refine(On)<|zlt<|zdst [0] [0] 1000 mx_ hS ?_;clear hS;intro w hS
  refine(zDw 0 xmv)<|(zDw 1 xmv)<|(zDw 2 (xfb 3 fd_27_3))<|(zDl 3 (fun w hS=>(xlb 0 pl_3 hS)))<|(zDw 4 (Zh (r:=p.L i+p.kerf)))<|(zDw 5 xmv)<|(zDw 6 xmv)<|(zDw 7 (xix (kk:=i) Zb hY.slh))<|(zDl 8 (fun w hS=>(xlr (u:= .int Oi (y i)) pl_3 (hY.below hS.below))))<|(zDw 9 (xfb 1 fd_27_1))<|(zDl 10 (fun w hS=>(xlb 0 pl_22 hS)))<|(zDw 11 xmv)<|(zDw 12 (xix (kk:=i) Zb h.D.slh))<|YF 13 (fun w hS=>(xlr (u:= .int Oi (p.D i)) pl_3 (h.D.below hS.below))) ?_
  have hbv:=h.iD i
  refine(zDw 14 (xany (v:= .agg #[.int Oi (p.L i+p.kerf),.int Oi (y i),.int Oi (p.D i)])))<|zda 15 (xli (n:=1) (len:=1) (pv:= [(0,.agg #[.int Oi (p.L i+p.kerf),.int Oi (y i),.int Oi (p.D i)])]) (cs:= [.int Oi (p.L i+p.kerf),.int Oi (y i),.int Oi (p.D i)]) (c:=Z4 (fun _=>p.L i+p.kerf) (fun _=>(y i)) (fun _=>p.D i)) XI Zdn hS) ?_;rintro v1 w ⟨hS,hv1⟩
  refine⟨⟨fun _=>hS.pk [0],hS.pk [0]⟩,?_⟩
  refine zda 16 (xap 1 (r:=nC+1) XI Zdn hS (hS.rowN 2 rfl) (ZdD ..) (h1:=(fun k _ _=>Zds _ _ _ k))) ?_;rintro v2 w ⟨hS,hv2⟩
  refine⟨⟨fun _=>hS.pk [0],hS.pk [0]⟩,?_⟩
  refine(zDw 17 xas)<|zdd<|zbn<|ztn<|zrg ?_
  refine(zV (Zh (r:=i+1)))<|(zP)<|zln<|zlq ⟨nC+1,(snoc fS nC (p.L i+p.kerf)),(snoc fV nC (y i)),(snoc fM nC (p.D i)),i+1,v2,rfl,Oa,Oa,Oa,?_,?_,rfl,hS.pk [0,1]⟩
  ·
   intro k k0 k1;by_cases e:k<i
   · rw [Zs Oa,Zs Oa,Zs Oa];exact hcc k k0 e
   · obtain rfl:k=i:=Oa
     rw [Zt Oa,Zt Oa,Zt Oa];exact⟨rfl,rfl,rfl⟩
  ·
   exact hv2
 refine zx8<|zlv xmv ?_
 obtain rfl:i=p.m:=Oa
 subst hnC
 replace hS:=hS.recont 1 rfl (d:=Z4 (X0 p y).S (X0 p y).V (X0 p y).M) (ZaS hcc)
 refine(zV (xfb 2 fd_27_2))<|(zV (xlb 0 pl_3 hS))<|(zV (xfb 3 fd_27_3))<|(zV (xlb 0 pl_3 hS))<|(zV (Zh (r:=p.stock+p.kerf)))<|zlc (xc0 Zm7) (Zii (t:=(X0 p y)) (cap:=(p.stock+p.kerf)) w (hS.rowN 1 rfl)) ?_;rintro _ w ⟨jY,eB,jW,jX,kJ,rfl,dB,c7,hS'⟩
 replace hS:=(hS.comp hS').n3;clear hS'
 refine zs6 ?_
 refine zx1<|zf3 ⟨_,rfl,?_⟩
 have hio:=ZlA hok hyp
 obtain⟨_,q2,q3,q4,q5⟩:=dB.resolve_left (fun hh=>hh.1 hio)
 replace q2:eB=p.m:=q2
 subst q2
 replace hS:=hS.recont 2 rfl (d:=ints (aC p y)) (fun k k0 k1=>by unfold ints;rw [Zk9 Oa q3 k k0 Oa])
 exact⟨_,_,_,_,_,rfl,.inr ⟨hpr,rfl,rfl,⟨_,q3⟩,q4,q5⟩,c7,hS.pk [2]⟩
end Go.Proofs.YtpnamgfdakfccaaGreat
namespace Go.Proofs.Gw
open Go Go.RowKit
section
variable {P:Program} {L:List (Nat×Value)} {w w0:World} {o:Oper} {x y z:Operand} {T T':TypeId} {l:List Ent} {E:TypeId}
theorem UV (g q:Nat) (E:TypeId):∀(vs:List Value) (k:Nat) (cur:List Value) (w:World),w.heap[g]? =some (.cells cur.toArray E (0,0))->q+k+vs.length<=cur.length->(∀v∈vs,v.oneCell'=true)->
   ∃w',(storeCells ⟨g,q,none⟩ vs k).run P w= .ok () w'/\w'.heap[g]? =some (.cells (cur.take (q+k)++vs++cur.drop (q+k+vs.length)).toArray E (0,0))/\(∀j,j≠g->w'.heap[j]? =w.heap[j]?)/\w'.tape=w.tape/\w'.os=w.os/\w'.output=w.output/\w'.heap.size=w.heap.size
 | [],k,cur,w,hg,hk,_=>⟨w,rfl,by simp [hg],fun _ _=>rfl,rfl,rfl,rfl,rfl⟩
 | v ::vs,k,cur,w,hg,hk,h1=>by
   simp only [List.length_cons] at hk
   have hv:=h1 v (by simp)
   have hlt:q+k<cur.length:=Oa
   have hc:w.cell? ⟨g,q+k,none⟩=some cur[q+k]:=by simp [World.cell?,hg,hlt]
   have hf:w.frozen? ⟨g,q+k,none⟩=false:=by simp [World.frozen?,hg]
   have hg':(w.setCell ⟨g,q+k,none⟩ v).heap[g]? =some (.cells (cur.set (q+k) v).toArray E (0,0)):=by simp [World.setCell,Array.getElem?_modify,hg]
   obtain⟨w',h2,h3,h4,h5,h6,h7,h8⟩:=UV g q E vs (k+1) (cur.set (q+k) v) (w.setCell ⟨g,q+k,none⟩ v) hg' (by simp;omega) (fun u hu=>h1 u (by simp [hu]))
   refine⟨w',?_,?_,fun j hj=> ?_,h5,h6,h7,?_⟩
   · have e0:(⟨g,q,none⟩:Addr).add k=⟨g,q+k,none⟩:=by rw [Addr.add_eq _ rfl]
     simp only [storeCells,Sem.run_bind,e0]
     rw [run_store P w _ v _ hv,hc]
     simp only [hf]
     exact h2
   · rw [h3]
     congr 3
     have e1:(cur.set (q+k) v).take (q+(k+1))=cur.take (q+k)++ [v]:=by
       rw [show q+(k+1)=q+k+1 by omega,List.take_set,List.take_succ_eq_append_getElem hlt,List.set_append_right _ _ (by simp;omega)]
       simp [Nat.min_eq_left (Nat.le_of_lt hlt)]
     have e2:(cur.set (q+k) v).drop (q+(k+1)+vs.length)=cur.drop (q+k+(v::vs).length):=by
       rw [List.drop_set_of_lt Oa];congr 1;simp;omega
     rw [e1,e2];simp
   · rw [h4 j hj];exact Below.heap_setCell _ _ _ _ hj
   · rw [h8];simp [World.setCell]
theorem xsp(i:Nat){g q k:Nat}{cs ds es:List Value}(ht:Zx P T=some k)(hS:Sat w0 w l)(ho:o.op= .store T x y:=by exact rfl)(hi:l[i]? =some (.blk g cs):=by exact rfl)(hx:evL L x=some (.pointer (some ⟨g,q,none⟩)):=by exact rfl)(hy:evL L y=some (.agg ds.toArray):=by exact rfl)
   (hl:ds.length=k:=by exact rfl) (hc:Nat.ble (q+ds.length) cs.length=true:=by exact rfl) (he:cs.take q++ds++cs.drop (q+ds.length)=es:=by exact rfl) (hd:∀v∈ds,v.oneCell'=true:=by repeat' first|exact Zi|apply Za rfl):∃w',Runs P L w o .skip w'/\Sat w0 w' (l.set i (.blk g es)):=by
 obtain⟨_,hsz⟩:=Xh (w:=w) ht
 obtain⟨E,hg⟩:=hS.holds _ (List.mem_of_getElem? hi)
 obtain⟨w',h3,h4,h5,h6,h7,h8,h9⟩:=UV (P:=P) g q E ds 0 cs w hg (by have:=Nat.le_of_ble_eq_true hc;omega) hd
 refine⟨w',fun ρ h=> ?_,?_⟩
 · simp [execOp,ho,h _ _ hx,h _ _ hy,Instr.storeAt,Instr.sureAddr,storeVar,Value.cells,hsz,hl,h3]
 · have hS':=hS
   rw [Z3 hi] at hS'
   rw [Yx hi]
   refine hS'.turn (fun j _ hj=>h5 j (fun e=>hj (by rw [e];rfl))) h6 h7 h8 Oa ⟨E,?_⟩ (fun _ h=> .inl h)
   rw [h4,Nat.add_zero,he]
theorem Zoe {l:List Ent} (h:(Frame.bun l).holds w) (is:List Nat) (hn:is.Nodup:=by decide):(Frame.bun (pkL l is)).holds w:=by
 refine⟨fun e he=> ?_,?_⟩
 · obtain⟨i,_,hi⟩:=XX he;exact h.1 e (List.mem_of_getElem? hi)
 · have hs:=h.2
   induction is with
   |nil=>exact List.Pairwise.nil
   | cons i is ih=>
     obtain⟨hni,hn⟩:=List.nodup_cons.1 hn
     unfold pkL
     cases hi:l[i]? with
     |none=>exact ih hn
     | some e=>
       refine List.pairwise_cons.2 ⟨fun e' he'=> ?_,ih hn⟩
       obtain⟨j,hj,hj'⟩:=XX he'
       have hil:=(List.getElem?_eq_some_iff.1 hi)
       have hjl:=(List.getElem?_eq_some_iff.1 hj')
       obtain⟨fA,fz⟩:=hil
       obtain⟨fy,fv⟩:=hjl
       have hij:i≠j:=fun e=>hni (e▸hj)
       rcases Nat.lt_or_gt_of_ne hij with h1|h1
       · have:=List.pairwise_iff_getElem.1 hs i j fA fy h1
         rw [fz,fv] at this;exact this
       · have:=List.pairwise_iff_getElem.1 hs j i fy fA h1
         rw [fz,fv] at this;exact this.symm
theorem ZkD{l:List Ent}(is:List Nat){g:Nat}(h:(Frame.bun (pkL l is)).has g):(Frame.bun l).has g:=by
 obtain⟨e,he,hg⟩:=h
 obtain⟨i,_,hi⟩:=XX he
 exact⟨e,List.mem_of_getElem? hi,hg⟩
def Frame.gives(F:Frame)(l:List Ent):Prop:=(∀w,F.holds w->(Frame.bun l).holds w)/\∀g,(Frame.bun l).has g->F.has g
theorem T0{l m:List Ent}(is:List Nat)(e:pkL l is=m:=by exact rfl)(hn:is.Nodup:=by decide):(Frame.bun l).gives m:=by
 subst e;exact⟨fun w h=>Zoe h is hn,fun g h=>ZkD is h⟩
theorem Sat.given{l:List Ent}(h:Sat w0 w l)(i:Nat){F:Frame}{m:List Ent}(hF:F.gives m)(hi:l[i]? =some (.sem F):=by exact rfl):Sat w0 w (l.set i (.sem (Frame.bun m))):=by
 have h':=h
 rw [Z3 hi] at h'
 rw [Yx hi]
 exact h'.turn (d:= .sem F) (fun k _ _=>rfl) rfl rfl rfl (Nat.le_refl _) (hF.1 _ (h.holds _ (List.mem_of_getElem? hi))) (fun g hg=> .inl (hF.2 g hg))
end
end Go.Proofs.Gw
namespace Go.Proofs.Gw
open Go Go.RowKit
def FZ(r:Option Nat):Fence:={fn:=fun _=>True,depth:=none,alive:=false,round:=r}
theorem Wo{P:Program}{f:FuncId}{args:Array Value}{w:World}{R:Ending->World->Prop}{r:Option Nat}{n:Nat}(h:Calls P f args w R):CallsIn (FZ r) n P f args w R:=
 (callsIn_wide (n:=n)).2 h
theorem UQ{P:Program}{f:FuncId}{args:Array Value}{w:World}{R:Ending->World->Prop}{r:Option Nat}{n:Nat}(h:CallsIn (FZ r) n P f args w R):Calls P f args w R:=
 (callsIn_wide (n:=n)).1 h
abbrev Frd(a:Act)(n:Nat)(ds:List Deferred)(L:List (Nat×Value)):Prop:=Fr a n ds L
def ndf(o:Oper):Bool:=match o.op with
  | .defer _=>false
  |_=>true
theorem YX{o:Oper}(h:ndf o=true)(r:Option Nat)(ρ:Operand->Value):o.semAt r ρ=execOp ρ o:=
 Oper.semAt_eq _ _ _ (by intro c hc;unfold ndf at h;rw [hc] at h;cases h)
section
variable {P:Program} {l rest:List Oper} {Q Q':Exit->Act->World->Prop} {w w' w0:World} {o:Oper} {n d:Nat} {L M:List (Nat×Value)} {x y:Code} {c:Operand} {e:Exit} {p:Prop} {r:Option Nat} {ds:List Deferred}
def Hl(P:Program)(r:Option Nat)(n:Nat)(l:List Oper)(Q:Exit->Act->World->Prop)(rest:List Oper)(ds:List Deferred)(L:List (Nat×Value))(w:World):Prop:=∀a,Frd a n ds L->wpListIn (FZ r) 0 P l.toArray Q rest a w
def Hc(P:Program)(r:Option Nat)(n:Nat)(Q:Exit->Act->World->Prop)(x:Code)(ds:List Deferred)(L:List (Nat×Value))(w:World):Prop:=∀a,Frd a n ds L->x.wpIn (FZ r) 0 P Q a w
abbrev He(n:Nat)(Q:Exit->Act->World->Prop)(e:Exit)(ds:List Deferred)(L:List (Nat×Value))(w:World):Prop:=Ge n ds Q e L w
theorem TZ{b:Bool}{a:Act}(hF:Frd a n ds L)(h:gdB l L o=some b):Region.wanted o (yielded l.toArray a.tmps)=b:=by
 exact(Z8 h).wanted hF
theorem hlv{v:Value}(hr:Runs P L w o (.value v) w')(K:Hl P r n l Q rest ds ((d,v)::L) w')(hg:gdB l L o=some true:=by exact rfl)(hd:o.dst=some d:=by exact rfl)(hdn:Nat.blt d n=true:=by exact rfl)(hn:ndf o=true:=by exact rfl):Hl P r n l Q (o::rest) ds L w:=fun a hF=>by
 unfold wpListIn
 rw [if_pos (TZ hF hg)]
 refine⟨fun _ _=>trivial,?_⟩
 rw [YX hn,hr _ hF.agr,Oper.uponIn_value,hd]
 exact K _ (hF.put (by simpa [Nat.blt_eq] using hdn) v)
theorem hlo(K:Hl P r n l Q rest ds ((d,undef)::L) w)(hg:gdB l L o=some false:=by exact rfl)(hd:o.dst=some d:=by exact rfl)(hdn:Nat.blt d n=true:=by exact rfl):Hl P r n l Q (o::rest) ds L w:=fun a hF=>by
 unfold wpListIn
 rw [if_neg (by rw [TZ hF hg];simp)]
 refine⟨fun _ _=>trivial,?_⟩
 rw [hd]
 exact K _ (hF.put (by simpa [Nat.blt_eq] using hdn) undef)
def Yld(P:Program)(l:Nat)(vs:List Value)(w:World)(R:Value->World->Prop):Prop:=
  ∃fn tmps assign body,(Instr.yield l vs.toArray).run P w= .ok (.round l fn tmps assign body) w/\RoundIn (FZ none) 0 P l fn tmps assign body w fun e w'=>∃v,e= .returned v/\R v w'
theorem xyl{l0:Nat}{xs:Array Operand}{ts:Array TypeId}{vs:List Value}{z:Operand}{N:Next}(hy:(Instr.yield l0 vs.toArray).run P w= .ok N w)(ho:o.op= .call {callee:= .value z,args:=xs,argTypes:=ts})(hx:evL L z=some (.func (.yield l0) #[] #[]))(ha:UR L xs vs):Runs P L w o N w:=fun ρ h=>by
 have h1:=ha ρ h
 simp [execOp,ho,resolve,h _ _ hx,Deferred.ofValue,invoke,h1,hy]
theorem hly{l0:Nat}{xs:Array Operand}{ts:Array TypeId}{vs:List Value}{z:Operand}{R:Value->World->Prop}(hY:Yld P l0 vs w R)(K:∀v w',R v w'->Hl P none n l Q rest ds ((d,v)::L) w')
   (ho:o.op= .call {callee:= .value z,args:=xs,argTypes:=ts}:=by exact rfl) (hx:evL L z=some (.func (.yield l0) #[] #[]):=by exact rfl) (ha:UR L xs vs:=by repeat' first|exact ZcE|apply Wm rfl)
   (hg:gdB l L o=some true:=by exact rfl) (hd:o.dst=some d:=by exact rfl) (hdn:Nat.blt d n=true:=by exact rfl):Hl P none n l Q (o::rest) ds L w:=fun a hF=>by
 obtain⟨fn,tmps,assign,body,hy,hR⟩:=hY
 have hr:=xyl (P:=P) (L:=L) (o:=o) hy ho hx ha
 unfold wpListIn
 rw [if_pos (TZ hF hg)]
 refine⟨fun _ _=>trivial,?_⟩
 rw [YX (by unfold ndf;rw [ho]),hr _ hF.agr,Oper.uponIn_round]
 refine⟨fun h=>(by cases h),hR.mono fun e w' ⟨v,he,hR⟩=> ?_⟩
 subst he
 rw [hd]
 exact K v w' hR _ (hF.put (by simpa [Nat.blt_eq] using hdn) v)
theorem hln(K:He n Q .normal ds L w):Hl P r n l Q [] ds L w:=K
theorem hsq(h:Hc P r n (Exit.then (y.wpIn (FZ r) 0 P Q) Q) x ds L w):Hc P r n Q (.seq x y) ds L w:=fun a hF=>wpIn_seq (h a hF)
theorem hrg{id:Nat}(h:Hl P r n l Q l ds L w):Hc P r n Q (.region id l.toArray false) ds L w:=fun a hF=>wpIn_region_lit (h a hF)
def TR(Q:Exit->Act->World->Prop):Exit->Act->World->Prop:=fun e a w=>e= .normal/\Q .normal a w
theorem ZbX:¬LetsOut (TR Q):=fun⟨_,_,h⟩=>by cases h.1
theorem Zi8{row:String}{args:Array Value}{R:Value->World->Prop}(h:Rows P row args w R):RowsIn (FZ r) 0 P row args w R:=fun c cs _=>by
 obtain⟨v,w',h1,h2⟩:=h c cs
 exact⟨v,w',h1,(stepsIn_wide (P:=P)).2 h2⟩
theorem Ww {ops:Array Oper} {Qn:Exit->Act->World->Prop} (q1:∀a w,Qn .normal a w->Q .normal a w) (q2:∀ch a w,¬Qn (.panic ch) a w) (q3:¬LetsOut Qn) (hn:ops.toList.all ndf=true):∀(is:List Nat) (a:Act) (w:World),wpOps P ops Qn is a w->wpOpsIn (FZ r) 0 P ops Q is a w
 | [],a,w,h=>q1 _ _ h
 | i ::is,a,w,h=>by
   unfold wpOps at h
   unfold wpOpsIn
   cases ho:ops[i]? with
   |none=>simp only [ho] at h⊢;exact Ww q1 q2 q3 hn is a w h
   | some o=>
     simp only [ho] at h⊢
     have ja:ndf o=true:=List.all_eq_true.1 hn o (by
       obtain⟨hi,rfl⟩:=Array.getElem?_eq_some_iff.1 ho
       simp)
     by_cases hw:Region.wanted o (yielded ops a.tmps)=true
     · rw [if_pos hw] at h⊢
       refine⟨fun _ _=>trivial,?_⟩
       rw [YX ja]
       rcases h with h|h
       · unfold Oper.wp at h
         cases he:(execOp a.eval o).run P w with
         | ok N w1=>
           rw [he] at h
           cases N with
           |value v=>exact Ww q1 q2 q3 hn is _ _ h
           |skip=>exact Ww q1 q2 q3 hn is _ _ h
           |defer d=>exact Ww q1 q2 q3 hn is _ _ h
           | enter f args=>
             refine⟨fun h=>(by cases h),Wo (Calls.mono h fun e w' hh=> ?_)⟩
             cases e with
             |returned v=>exact Ww q1 q2 q3 hn is _ _ hh
             |panicked ch=>exact absurd hh (q2 _ _ _)
             |outgrown=>exact absurd hh q3
           | row rw args=>
             refine⟨fun h=>(by cases h),Zi8 (Rows.mono h fun v w' hh=>Ww q1 q2 q3 hn is _ _ hh)⟩
           |_=>exact h.elim
         | halt x w1=>
           rw [he] at h
           cases x with
           |panic v=>exact absurd h (q2 _ _ _)
           |_=>exact h.elim
       · exact absurd h.2 q3
     · rw [if_neg hw] at h⊢
       exact⟨fun _ _=>trivial,Ww q1 q2 q3 hn is _ _ h⟩
theorem ZoH:∀a w,TR Q .normal a w->Q .normal a w:=fun _ _ h=>h.2
theorem ZoG:∀ch a w,¬TR Q (.panic ch) a w:=fun _ _ _ h=>by cases h.1
theorem zh(h:Ge n ds Q .normal L w):Ge n ds (TR Q) .normal L w:=fun a hF=>⟨rfl,h a hF⟩
theorem ZbU{ops:Array Oper}{a:Act}(h:wpList P ops Q ops.toList a w):wpOps P ops Q (List.range ops.size) a w:=by
 rw [List.range_eq_range',<-Array.length_toList,wpOps_eq_wpList ops.toList 0 (by simp)];exact h
theorem hrz{id:Nat}(h:Gl P n ds l (TR Q) l L w)(hn:l.all ndf=true:=by exact rfl):Hc P r n Q (.region id l.toArray false) ds L w:=fun a hF=>
 wpIn_region (Ww ZoH ZoG ZbX (by simpa using hn) _ _ _ (ZbU (by have:=h a hF;simpa using this)))
theorem hdst{w0:World}{id:Nat}{m m0 m1:List Ent}{fuel:Nat}(is js:List Nat)(brk:Nat)(hm:P.follows .mixedOrders=true)(hS:Sat w0 w m)(K:∀w',Sat w0 w' m->Gd P n ds l (TR Q) (fun w'=>Sat w0 w' m0) (fun w'=>Sat w0 w' m1) brk fuel (Array.replicate fuel false) L w')
   (h0:pkL m is=m0:=by exact rfl) (h1:pkL m js=m1:=by exact rfl) (hn0:is.Nodup:=by decide) (hn1:js.Nodup:=by decide) (hn:l.length=fuel:=by exact rfl) (hnd:l.all ndf=true:=by exact rfl):Hc P r n Q (.region id l.toArray true) ds L w:=fun a hF=>by
 subst h0;subst h1;subst hn
 refine wpIn_region_draw fun t=>Ww (Qn:=NoPanic (TR Q)) (fun _ _ h=>h.2) (fun _ _ _ h=>h.elim) (fun⟨_,_,h⟩=>by cases h.1) (by simpa using hnd) _ _ _ ?_
 simp only [Region.schedule,hm,Bool.true_or,if_true]
 have hcl:Closed l.toArray (Array.replicate l.length false):=by have:=Closed.start (ops:=l.toArray);simpa using this
 have h2:=Vt _ _ _ _ (K w.drew hS.draw hcl ⟨fun _=>hS.draw.pk is hn0,hS.draw.pk js hn1⟩ a hF)
 have h3:=wpAny_sound l.length t _ a _ h2
 have e:l.toArray.size=l.length:=by simp
 first|exact h3|(unfold Region.linearise;rw [e];exact h3)
theorem Y0(ht:p->Hc P r n Q x ds L w)(hf:¬p->Hc P r n Q y ds L w)(hc:evL L c=some (B p):=by exact rfl):Hc P r n Q (.cond c x y) ds L w:=fun a hF=>by
 have:=hF.agr _ _ hc
 by_cases hp:p
 · exact wpIn_cond_true (by rw [this,ZQ hp]) (ht hp a hF)
 · exact wpIn_cond_false (by rw [this,ZA hp]) (hf hp a hF)
theorem hct(h:Hc P r n Q x ds L w)(hc:evL L c=some (.bool true):=by exact rfl):Hc P r n Q (.cond c x y) ds L w:=fun a hF=>wpIn_cond_true (hF.agr _ _ hc) (h a hF)
theorem hcf(h:Hc P r n Q y ds L w)(hc:evL L c=some (.bool false):=by exact rfl):Hc P r n Q (.cond c x y) ds L w:=fun a hF=>wpIn_cond_false (hF.agr _ _ hc) (h a hF)
theorem hsk(h:He n Q .normal ds L w):Hc P r n Q .skip ds L w:=fun a hF=>wpIn_skip (h a hF)
theorem hrt(h:He n Q .ret ds L w):Hc P r n Q .ret ds L w:=fun a hF=>wpIn_ret (h a hF)
theorem hxt{id:Nat}(h:He n Q (.exit id) ds L w):Hc P r n Q (.exit id) ds L w:=fun a hF=>wpIn_exit (h a hF)
theorem hbk{id:Nat}(h:Hc P r n (Exit.inBlock id Q) x ds L w):Hc P r n Q (.block id x) ds L w:=fun a hF=>wpIn_block (h a hF)
theorem htn(h:Hc P r n Q y ds L w):He n (Exit.then (y.wpIn (FZ r) 0 P Q) Q') .normal ds L w:=h
theorem wpIn_loopJ {F:Fence} {nn:Nat} {body:Code} {a:Act} (I:Nat->Act->World->Prop) {m:Nat} (h0:I m a w) (round:∀m a w,I m a w->body.wpIn F nn P (Exit.then (fun a' w'=>∃m',m'<m/\I m' a' w') Q) a w):(Code.loop body).wpIn F nn P Q a w:=by
 intro b k cs hro hb hr
 have key:∀m a w,I m a w->∃e a' w',Q e a' w'/\ArrivesIn (Machine.fenced P F) P (lone (b.atR a (.code body:: .inLoop body::k)) cs w) b k cs e a' w':=by
   intro m
   induction m using Nat.strongRecOn with
   | _ m ih=>
     intro a w hI
     obtain⟨e,a₁,w₁,hq,qJ⟩:=round m a w hI b (.inLoop body::k) cs hro hb hr
     cases e with
     | normal=>
       obtain⟨m',hlt,hI₁⟩:=hq
       obtain⟨e₂,a₂,w₂,hq₂,harr₂⟩:=ih m' hlt a₁ w₁ hI₁
       exact⟨e₂,a₂,w₂,hq₂,.of_steps (StepsIn.trans qJ (.one (fenced_calm hb hr rfl) stepR_inLoop)) harr₂⟩
     |exit id=>exact⟨_,a₁,w₁,hq,.pass (x:= .inLoop body) rfl (fun _ _=> .inl (by simp)) qJ⟩
     |goto l=>exact⟨_,a₁,w₁,hq,.pass (x:= .inLoop body) rfl (fun _ _=> .inl (by simp)) qJ⟩
     |ret=>exact⟨_,a₁,w₁,hq,.pass (x:= .inLoop body) rfl (fun _ _=> .inl (by simp)) qJ⟩
     |panic ch=>exact⟨_,a₁,w₁,hq,.pass (x:= .inLoop body) rfl (fun _ _=> .inl (by simp)) qJ⟩
     |outgrown=>exact⟨_,a₁,w₁,hq,.pass (x:= .inLoop body) rfl (fun _ _=> .inl (by simp)) qJ⟩
 obtain⟨e,a',w',hq,qJ⟩:=key m a w h0
 exact⟨e,a',w',hq,.of_steps (.one (fenced_calm hb hr rfl) stepR_loop) qJ⟩
theorem hlp(J:Nat->List (Nat×Value)->World->Prop){m:Nat}(h0:J m M w)(round:∀m M w,J m M w->Hc P r n (Exit.then (fun a w=>∃m',m'<m/\∃M',J m' M' w/\Frd a n ds M') Q) x ds M w)
   (hM:Sub L M:=by repeat' first|exact KO|refine zpk rfl ?_):Hc P r n Q (.loop x) ds L w:=fun a hF=>
 wpIn_loopJ (fun m a w=>∃M,J m M w/\Frd a n ds M) ⟨M,h0,hF.sub hM⟩ fun m a w ⟨M',hJ,hF'⟩=>round m M' w hJ a hF'
theorem hlq{J:Nat->List (Nat×Value)->World->Prop}{m m':Nat}(hJ:J m' M w)(hlt:m'<m:=by omega)(hM:Sub L M:=by repeat' first|exact KO|refine zpk rfl ?_):He n (Exit.then (fun a w=>∃m',m'<m/\∃M',J m' M' w/\Frd a n ds M') Q) .normal ds L w:=
 fun a hF=>⟨m',hlt,M,hJ,hF.sub hM⟩
theorem ZjE{f:FuncId}{fn:Func}{vs:List Value}{R:Ending->World->Prop}(hf:P.funcs[f]? =some fn)(hn:fn.ntmps=n)(K:∀w,Sat w0 w []->Hc P none n (bodyPostM (FZ none) 0 P fn R) x [] (num 0 vs) w)(hb:fn.body=some x:=by exact rfl)(hv:Nat.ble vs.length n=true:=by exact rfl):Calls P f vs.toArray w0 R:=
 UQ (r:=none) (n:=0) (callsIn_of_wp_marks hf hb trivial (by
   rw [hn]
   exact K _ (Sat.start w0) _ ((Fr.enter (vs:=vs.toArray) (by simpa using Nat.le_of_ble_eq_true hv) fun t v ht=>by have:=(Zar vs 0 t v ht).2;simpa using this))))
theorem ZgQ{f:FuncId}{fn:Func}{vs:List Value}{R:Ending->World->Prop}(hf:P.funcs[f]? =some fn)(hn:fn.ntmps=n)(K:Hc P none n (bodyPost P fn R) x [] (num 0 vs) w)(hb:fn.body=some x:=by exact rfl)(hv:Nat.ble vs.length n=true:=by exact rfl):Calls P f vs.toArray w R:=
 enter hf hb hn hv fun a hF=>(wpIn_wide (n:=0)).1 (K a hF)
theorem ZlH{fn:Func}{R:Ending->World->Prop}(h:Ge n [] (bodyPost P fn R) .ret L w):He n (bodyPostM (FZ none) 0 P fn R) .ret [] L w:=fun a hF=>by
 obtain⟨_,v,h1,h2⟩:=h a hF
 have e:=hF.defers
 show LeavesInM _ _ _ _ _ _ a.defers _ _
 rw [e]
 exact⟨v,h1,h2⟩
def Frame.obj(g:Nat)(o:Obj):Frame where
  holds w:=w.heap[g]? =some o
  has k:=k=g
  keep h hk:=(hk g rfl).trans h
  lt h hg:=by rw [hg];exact(Array.getElem?_eq_some_iff.1 h).1
abbrev dfE(D:Nat)(b:Bool):Ent:= .sem (Frame.obj D (.deferred (if b then some [] else none)))
def mrk(D:Nat):Deferred:={target:= .collected D,args:= #[]}
theorem Sat.putObj{l1 l2:List Ent}{g:Nat}{o o':Obj}(h:Sat w0 w (l1++ .sem (Frame.obj g o)::l2)):Sat w0 (w.putObj g o') (l1++ .sem (Frame.obj g o')::l2):=by
 have hg:w.heap[g]? =some o:=h.get
 refine h.turn (d:= .sem (Frame.obj g o)) (fun k _ hk=>World.putObj_heap_other (fun e=>hk e)) rfl rfl rfl (by simp) ?_ (fun _ h=> .inl h)
 exact World.putObj_heap_same (Array.getElem?_eq_some_iff.1 hg).1
theorem Zdh{fn:Func}{R:Ending->World->Prop}{E:List Ent}{D:Nat}(i:Nat)(hS:Sat w0 w E)(K:∀w',Sat w0 w' (E.set i (dfE D false))->Ge n [] (bodyPost P fn R) .ret L w')(hi:E[i]? =some (dfE D true):=by exact rfl):He n (bodyPostM (FZ none) 0 P fn R) .ret [mrk D] L w:=fun a hF=>by
 have e:=hF.defers
 show LeavesInM _ _ _ _ _ _ a.defers _ _
 rw [e]
 have hD:w.heap[D]? =some (.deferred (some [])):=hS.holds _ (List.mem_of_getElem? hi)
 refine⟨by simp,.inl ⟨D,_,rfl,run_takeDeferred hD,?_⟩⟩
 have h1:Sat w0 (w.putObj D (.deferred none)) (E.set i (dfE D false)):=by
   have h':=hS
   rw [Z3 hi] at h'
   rw [Yx hi]
   exact h'.putObj
 obtain⟨_,v,h2,h3⟩:=K _ h1 {a with defers:= []} ⟨hF.size,rfl,hF.get⟩
 exact⟨v,h2,h3⟩
end
theorem ZgR{J:List (Nat×Value)->List Ent->Prop}{F:List Ent->List Ent}{Q:Exit->Act->World->Prop}{w w0:World}{n:Nat}{L M:List (Nat×Value)}{es:List Ent}(hJ:J M es)(hS:Sat w0 w (F es))(hM:Sub L M:=by repeat' first|exact KO|refine zpk rfl ?_):
 Ge n [] (Exit.then (fun a w'=>∃M es,J M es/\Frd a n [] M/\Sat w0 w' (F es)) Q) .normal L w:=fun a hF=>⟨M,es,hJ,hF.sub hM,hS⟩
theorem Zos{P:Program}{L:List (Nat×Value)}{w:World}{n:Nat}{fn:Func}{R:Ending->World->Prop}{T1 T2:TypeId}{s1 s2:Nat}{a1 a2:Addr}{v1 v2:Value}(t1:ZG P T1=true)(t2:ZG P T2=true)(c1:w.cell? a1=some v1)(c2:w.cell? a2=some v2)(h:R (.returned (.tuple #[v1,v2])) w)
   (hr:fn.results= #[.cell s1 T1,.cell s2 T2]:=by exact rfl) (h1:lk L s1=some (.pointer (some a1)):=by exact rfl) (h2:lk L s2=some (.pointer (some a2)):=by exact rfl):Ge n [] (bodyPost P fn R) .ret L w:=fun a hF=>by
 refine⟨hF.defers,_,?_,h⟩
 obtain⟨⟨_,_,q1⟩,_⟩:=XJ (w:=w) t1
 obtain⟨⟨_,_,q2⟩,_⟩:=XJ (w:=w) t2
 have e1:=hF.get s1 _ h1
 have e2:=hF.get s2 _ h2
 rw [Array.getD_eq_getD_getElem?] at e1 e2
 simp [results,hr,e1,e2,asAddr,loadVar,q1,q2,c1,c2]
theorem Yf{l m:List Ent}(h:∀f:Ent->Nat,(l.map f).sum=(m.map f).sum):l.Perm m:=by
 classical
 rw [List.perm_iff_count]
 intro z
 have:=h (fun x=>if x=z then 1 else 0)
 have e:∀l:List Ent,(l.map fun x=>if x=z then 1 else 0).sum=l.count z:=fun l=>by
   induction l with
   |nil=>rfl
   | cons x l ih=>
     rw [List.map_cons,List.sum_cons,ih,List.count_cons]
     by_cases hx:x=z
     · subst hx;simp;omega
     · simp [hx]
 rw [e,e] at this
 exact this
section
variable {P:Program} {Q:Exit->Act->World->Prop} {w w' w0:World} {n:Nat} {L:List (Nat×Value)} {ds:List Deferred}
def ItC {St X Tt:Type} (P:Program) (w0:World) (gf:FuncId) (lb:List Value) (Sh:List Ent) (enc:X->List Value) (Pre:St->X->Frame->Prop) (Nx:St->X->St->Prop) (Sx:St->X->Tt->Prop) (s0:St) (Fin:St->Frame->Prop) (FinX:Tt->Frame->Prop):Prop:=
  ∀ (l:Nat) (C:St->Frame) (D:Tt->Frame) (w:World),Sat w0 w (.sem (C s0)::Sh)->
    (∀s x rest w,Pre s x rest->Sat w0 w (.sem (C s)::(Sh++ [.sem rest]))->Yld P l (enc x) w fun v w'=>
      (v= .bool true/\∃s',Nx s x s'/\Sat w0 w' (.sem (C s')::(Sh++ [.sem rest])))\/(v= .bool false/\∃t,Sx s x t/\Sat w0 w' (.sem (D t)::(Sh++ [.sem rest]))))->
    Calls P gf (.func (.yield l) #[] #[]::lb).toArray w fun e w'=>∃v,e= .returned v/\
      ((∃s rest,Fin s rest/\Sat w0 w' (.sem (C s)::(Sh++ [.sem rest])))\/(∃t rest,FinX t rest/\Sat w0 w' (.sem (D t)::(Sh++ [.sem rest]))))
def KS:List Nat->List Value->List (Nat×Value)->List (Nat×Value)
  |t::ts,v::vs,L=>KS ts vs ((t,v)::L)
  |_,_,L=>L
theorem KR{a:Act}:∀(ts:List Nat) (vs:List Value) (T:Array Value) {L:List (Nat×Value)},Frd {tmps:=T,defers:= []} n [] L->(ts.all fun t=>Nat.blt t n)=true->
   Frd {tmps:=(ts.zip vs).foldl (fun t (p:Nat×Value)=>t.setIfInBounds p.1 p.2) T,defers:= []} n [] (KS ts vs L)
 | [],vs,T,L,h,_=>by simpa [KS] using h
 |t::ts, [],T,L,h,_=>by simpa [KS] using h
 | t::ts,v::vs,T,L,h,hb=>by
   simp only [List.all_cons,Bool.and_eq_true] at hb
   have h1:=h.put (by simpa [Nat.blt_eq] using hb.1) v
   simp only [List.zip_cons_cons,List.foldl_cons,KS]
   exact KR (a:=a) ts vs _ h1 hb.2
def rdQ{St Tt:Type}(w0:World)(C:St->List Ent)(D:Tt->List Ent)(jc:Tt->Code)(Sh:List Ent)(N:St->Prop)(S:Tt->Prop)(rest:Frame):Exit->Act->World->Prop
  | .normal,_,w'=>∃s',N s'/\Sat w0 w' (C s'++(Sh++ [.sem rest]))
  | .ret,_,w'=>∃t,S t/\jc t= .ret/\Sat w0 w' (D t++(Sh++ [.sem rest]))
  | .exit id,_,w'=>∃t,S t/\jc t= .exit id/\Sat w0 w' (D t++(Sh++ [.sem rest]))
  |_,_,_=>False
theorem Zdg{St Tt:Type}{w0 w:World}{C:St->List Ent}{D:Tt->List Ent}{jc:Tt->Code}{Sh:List Ent}{N:St->Prop}{S:Tt->Prop}{rest:Frame}{n:Nat}{L:List (Nat×Value)}(s':St)(hN:N s')(hS:Sat w0 w (C s'++(Sh++ [.sem rest]))):Ge n [] (rdQ w0 C D jc Sh N S rest) .normal L w:=fun _ _=>⟨s',hN,hS⟩
theorem ZgP{St Tt:Type}{w0 w:World}{C:St->List Ent}{D:Tt->List Ent}{jc:Tt->Code}{Sh:List Ent}{N:St->Prop}{S:Tt->Prop}{rest:Frame}{n:Nat}{L:List (Nat×Value)}(t:Tt)(hN:S t)(hj:jc t= .ret)(hS:Sat w0 w (D t++(Sh++ [.sem rest]))):Ge n [] (rdQ w0 C D jc Sh N S rest) .ret L w:=fun _ _=>⟨t,hN,hj,hS⟩
def Zg8:Code->Exit
  | .ret=> .ret
  | .exit id=> .exit id
  |_=> .normal
theorem Sat.unbun{l1 l2 l3:List Ent}(h:Sat w0 w (l1++ .sem (Frame.bun l2)::l3)):Sat w0 w (l1++(l2++l3)):=h.unbundle
theorem hrf {St X Tt:Type} {gf:FuncId} {lb:List Value} {g:Operand} {ps:Array Tmp} {assign body:Code} {Sh:List Ent} {enc:X->List Value} {Pre:St->X->Frame->Prop} {Nx:St->X->St->Prop} {Sx:St->X->Tt->Prop} {Fin:St->Frame->Prop} {FinX:Tt->Frame->Prop}
   (C:St->List Ent) (D:Tt->List Ent) (jc:Tt->Code) (s0:St) (J:X->List (Nat×Value)->List Ent->Prop) (hit:ItC P w0 gf lb Sh enc Pre Nx Sx s0 Fin FinX) (hS:Sat w0 w (C s0++Sh)) (hcl:Zd P gf=true)
   (hpl:∀x,(enc x).length=ps.size) (hjc:∀t,jc t= .ret\/∃id,jc t= .exit id)
   (yZ:∀l s x rest w,Pre s x rest->∀rest',(∀w,rest'.holds w->rest.holds w)->Sat w0 w (C s++(Sh++ [.sem rest']))->Hc P (some l) n (Exit.then (fun a w'=>∃M es,J x M es/\Frd a n [] M/\Sat w0 w' (C s++(Sh++(.sem rest'::es)))) (fun _ _ _=>False)) assign [] (KS ps.toList (enc x) L) w)
   (bA:∀l s x M es rest w,Pre s x rest->J x M es->∀rest',(∀w,rest'.holds w->rest.holds w)->Sat w0 w (C s++(Sh++(.sem rest'::es)))->Hc P (some l) n (rdQ w0 C D jc Sh (Nx s x) (Sx s x) rest') body [] M w)
   (zc:∀Dk s rest w',Fin s rest->Sat w0 w' (C s++(Sh++ [.sem rest,dfE Dk true]))->He n Q .normal (mrk Dk::ds) L w')
   (aT:∀Dk t rest w',FinX t rest->Sat w0 w' (D t++(Sh++ [.sem rest,dfE Dk true]))->He n Q (Zg8 (jc t)) (mrk Dk::ds) L w')
   (hg:evL L g=some (.func (.func gf) #[] lb.toArray):=by exact rfl) (hpb:(ps.toList.all fun t=>Nat.blt t n)=true:=by exact rfl):Hc P none n Q (.rangeFunc g ps assign body) ds L w:=by
 intro a hF
 refine wpIn_rangeFunc ?_
 intro fn hfn
 obtain⟨rec,xe⟩:∃rec:LoopState->Option Code->Loop,rec=fun st pe=>{state:=st,pending:=pe,fn,tmps:=a.tmps,params:=ps,assign,body,defers:=w.heap.size}:=⟨_,rfl⟩
 obtain⟨W1,hW1⟩:∃W1,(w.alloc (.deferred (some []))).alloc (.loop (rec .ready none))=W1:=⟨_,rfl⟩
 obtain⟨l,hl⟩:∃l,w.heap.size+1=l:=⟨_,rfl⟩
 obtain⟨Dk,hDk⟩:∃Dk,w.heap.size=Dk:=⟨_,rfl⟩
 have hS1:Sat w0 W1 ((C s0++Sh)++ [dfE Dk true]++ [.sem (Frame.obj l (.loop (rec .ready none)))]):=by
   rw [<-hW1]
   refine(hS.alloc _ (e:=dfE Dk true) ?_ ?_).alloc _ (e:= .sem (Frame.obj l (.loop (rec .ready none)))) ?_ ?_
   · rw [<-hDk];exact heap_alloc_new w _
   · intro g hg;rw [<-hDk] at hg;exact hg
   · have:=heap_alloc_new (w.alloc (.deferred (some []))) (.loop (rec .ready none))
     rw [World.size_alloc,hl] at this;exact this
   · intro g hg;rw [World.size_alloc,hl];exact hg
 have eval:a.eval g= .func (.func gf) #[] lb.toArray:=hF.agr _ _ hg
 have dG:∃fnn,P.funcs[gf]? =some fnn/\fnn.body.isSome=true/\(fnn.name== "runtime.NumGoroutine")=false:=by
   unfold Zd at hcl
   cases hf:P.funcs[gf]? with
   |none=>simp [hf] at hcl
   | some fnn=>
     simp only [hf,Bool.and_eq_true,Bool.not_eq_true'] at hcl
     exact⟨fnn,rfl,hcl.1,hcl.2⟩
 obtain⟨fnn,hf1,hf2,hf3⟩:=dG
 have dK:fnn.body≠none:=by intro e;rw [e] at hf2;simp at hf2
 have dJ:fnn.name≠ "runtime.NumGoroutine" :=by simpa using hf3
 let C':St->Frame:=fun s=>Frame.bun (C s++ [.sem (Frame.obj l (.loop (rec .ready none))),dfE Dk true])
 let D':Tt->Frame:=fun t=>Frame.bun (D t++ [.sem (Frame.obj l (.loop (rec .done (some (jc t))))),dfE Dk true])
 have hS2:Sat w0 W1 (.sem (C' s0)::Sh):=by
   have h1:Sat w0 W1 (Sh++(C s0++ [.sem (Frame.obj l (.loop (rec .ready none))),dfE Dk true])):=hS1.perm (Yf fun f=>by simp only [List.map_append,List.map_cons,List.map_nil,List.sum_append,List.sum_cons,List.sum_nil];omega)
   have h2:=h1.bundle
   exact h2.perm List.perm_append_comm
 refine⟨l, [mrk Dk],W1,{target:= .fn (.func gf) lb.toArray,args:= #[.func (.yield l) #[] #[]]},W1,gf, #[.func (.yield l) #[] #[]]++lb.toArray,W1,?_,?_,?_,?_,fun h=>(by cases h),?_⟩
 · rw [<-hW1,xe,<-hl,<-hDk];exact run_enterLoop_outer _ _ _ _ _
 · simp only [resolve,eval]
   simp [go_sem]
 · intro f' hf';trivial
 · simp [invoke,go_sem,callFunc,hf1,dK,dJ]
 have eargs:(#[.func (.yield l) #[] #[]]++lb.toArray:Array Value)=(.func (.yield l) #[] #[]::lb).toArray:=by simp
 rw [eargs]
 refine Wo ((hit l C' D' W1 hS2 ?_).mono ?_)
 ·
   intro s x rest W qs hSW
   have h1:Sat w0 W (C s++(Sh++ [.sem rest,.sem (Frame.obj l (.loop (rec .ready none))),dfE Dk true])):=by
     have:=Sat.unbun (l1:= []) hSW
     exact this.perm (Yf fun f=>by simp only [List.map_append,List.map_cons,List.map_nil,List.sum_append,List.sum_cons,List.sum_nil];omega)
   have hlr:W.heap[l]? =some (.loop (rec .ready none)):=h1.holds (.sem (Frame.obj l (.loop (rec .ready none)))) (by simp)
   have hy:=run_yield (P:=P) (args:=(enc x).toArray) hlr (by rw [xe];simp [hpl x])
   rw [xe] at hy
   refine⟨fn,_,assign,body,hy,roundIn_of_wpIn trivial ?_⟩
   clear hy
   let r1:Frame:=Frame.bun [.sem rest,.sem (Frame.obj l (.loop (rec .ready none))),dfE Dk true]
   have h2:Sat w0 W (C s++(Sh++ [.sem r1])):=by
     rw [<-List.append_assoc] at h1⊢
     exact h1.bundle
   have hfr:Frd {tmps:=(ps.zip (enc x).toArray).foldl (fun t (p,v)=>t.setIfInBounds p v) a.tmps,defers:= []} n [] (KS ps.toList (enc x) L):=by
     have:=KR (a:=a) (n:=n) ps.toList (enc x) a.tmps (L:=L) ⟨hF.size,rfl,hF.get⟩ hpb
     have e:(ps.zip (enc x).toArray).foldl (fun t (p,v)=>t.setIfInBounds p v) a.tmps=(ps.toList.zip (enc x)).foldl (fun t (p:Nat×Value)=>t.setIfInBounds p.1 p.2) a.tmps:=by
       rw [<-Array.foldl_toList,Array.toList_zip]
     rw [e];exact this
   refine Go.wpIn_mono (yZ l s x rest W qs r1 (fun w h=>h.1 (.sem rest) (by simp)) h2 _ hfr) ?_
   intro e a1 Wa hp
   cases e<;>try exact hp.elim
   obtain⟨M,es,hJ,hFM,hSa⟩:=hp
   have h3:Sat w0 Wa ((C s++(Sh++([.sem rest]++es))++ [dfE Dk true])++ .sem (Frame.obj l (.loop (rec .ready none))):: []):=by
     have:=Sat.unbun (l1:=C s++Sh) (l3:=es) (by rw [List.append_assoc];exact hSa)
     exact this.perm (Yf fun f=>by simp only [List.map_append,List.map_cons,List.map_nil,List.sum_append,List.sum_cons,List.sum_nil];omega)
   have hlr:Wa.heap[l]? =some (.loop (rec .ready none)):=h3.get
   refine⟨_,run_beginRound hlr (by rw [xe]),?_⟩
   have h4:=h3.putObj (o':= .loop {rec .ready none with state:= .busy})
   let r2:Frame:=Frame.bun [.sem rest,.sem (Frame.obj l (.loop {rec .ready none with state:= .busy})),dfE Dk true]
   have h5:Sat w0 (Wa.putObj l (.loop {rec .ready none with state:= .busy})) (C s++(Sh++(.sem r2::es))):=by
     have h:Sat w0 (Wa.putObj l (.loop {rec .ready none with state:= .busy})) ((C s++(Sh++es))++ [.sem rest,.sem (Frame.obj l (.loop {rec .ready none with state:= .busy})),dfE Dk true]):=by
       exact h4.perm (Yf fun f=>by simp only [List.map_append,List.map_cons,List.map_nil,List.sum_append,List.sum_cons,List.sum_nil];omega)
     have hb:Sat w0 (Wa.putObj l (.loop {rec .ready none with state:= .busy})) ((C s++(Sh++es))++ [.sem r2]):=h.bundle
     exact hb.perm (Yf fun f=>by simp only [List.map_append,List.map_cons,List.map_nil,List.sum_append,List.sum_cons,List.sum_nil];omega)
   refine Go.wpIn_mono (bA l s x M es rest _ qs hJ r2 (fun w h=>h.1 (.sem rest) (by simp)) h5 _ hFM) ?_
   have fin:∀(jump:Option Code) (A:List Ent) (W3:World),Sat w0 W3 (A++(Sh++ [.sem r2]))->
       (Instr.endRound l jump).run P W3= .ok (.bool jump.isNone) (W3.putObj l (.loop (rec (if jump.isNone then .ready else .done) jump)))/\
       Sat w0 (W3.putObj l (.loop (rec (if jump.isNone then .ready else .done) jump))) (.sem (Frame.bun (A++ [.sem (Frame.obj l (.loop (rec (if jump.isNone then .ready else .done) jump))),dfE Dk true]))::(Sh++ [.sem rest])):=fun jump A W3 hA=>by
     have h6:Sat w0 W3 ((Sh++ [.sem rest]++(A++ [dfE Dk true]))++ .sem (Frame.obj l (.loop {rec .ready none with state:= .busy})):: []):=by
       have:=Sat.unbun (l1:=A++Sh) (l3:= []) (by rw [List.append_assoc];exact hA)
       exact this.perm (Yf fun f=>by simp only [List.map_append,List.map_cons,List.map_nil,List.sum_append,List.sum_cons,List.sum_nil];omega)
     have hlb:W3.heap[l]? =some (.loop {rec .ready none with state:= .busy}):=h6.get
     have hr:=run_endRound (P:=P) jump hlb
     have h7:=h6.putObj (o':= .loop (rec (if jump.isNone then .ready else .done) jump))
     refine⟨by rw [xe] at hr⊢;exact hr,?_⟩
     have h8:Sat w0 (W3.putObj l (.loop (rec (if jump.isNone then .ready else .done) jump))) ((Sh++ [.sem rest])++(A++ [.sem (Frame.obj l (.loop (rec (if jump.isNone then .ready else .done) jump))),dfE Dk true])):=by
       exact h7.perm (Yf fun f=>by simp only [List.map_append,List.map_cons,List.map_nil,List.sum_append,List.sum_cons,List.sum_nil];omega)
     exact h8.bundle.perm List.perm_append_comm
   intro e a3 W3 hp
   cases e with
   | normal=>
     obtain⟨s',hn,hA⟩:=hp
     obtain⟨hr,h6⟩:=fin none _ _ hA
     exact⟨_,_,hr,_,rfl,.inl ⟨rfl,s',hn,h6⟩⟩
   | ret=>
     obtain⟨t,hn,hj,hA⟩:=hp
     obtain⟨hr,h6⟩:=fin (some .ret) _ _ hA
     refine⟨_,_,hr,_,rfl,.inr ⟨rfl,t,hn,?_⟩⟩
     simp only [D',hj];exact h6
   | exit id=>
     obtain⟨t,hn,hj,hA⟩:=hp
     obtain⟨hr,h6⟩:=fin (some (.exit id)) _ _ hA
     refine⟨_,_,hr,_,rfl,.inr ⟨rfl,t,hn,?_⟩⟩
     simp only [D',hj];exact h6
   |goto t=>exact hp.elim
   |panic ch=>exact hp.elim
   |outgrown=>exact hp.elim
 ·
   have out:∀(st:LoopState) (pe:Option Code) (A:List Ent) (rest:Frame) (W2:World),st≠ .busy->Sat w0 W2 (.sem (Frame.bun (A++ [.sem (Frame.obj l (.loop (rec st pe))),dfE Dk true]))::(Sh++ [.sem rest]))->
       (Instr.endLoop l).run P W2= .ok pe (W2.putObj l (.loop {rec st pe with state:= .exhausted}))/\Sat w0 (W2.putObj l (.loop {rec st pe with state:= .exhausted})) (A++(Sh++ [.sem rest,dfE Dk true])):=fun st pe A rest W2 hst h=>by
     have h1:=Sat.unbun (l1:= []) h
     have h2:Sat w0 W2 ((A++(Sh++ [.sem rest,dfE Dk true]))++ .sem (Frame.obj l (.loop (rec st pe))):: []):=by
       exact h1.perm (Yf fun f=>by simp only [List.map_append,List.map_cons,List.map_nil,List.sum_append,List.sum_cons,List.sum_nil];omega)
     have hl:W2.heap[l]? =some (.loop (rec st pe)):=h2.get
     have h3:=h2.putObj (o':= .loop {rec st pe with state:= .exhausted})
     refine⟨?_,h3.sub (List.sublist_append_left _ _)⟩
     have:=run_endLoop (P:=P) hl (by rw [xe];exact hst)
     rw [xe] at this⊢;exact this
   rintro e W2 ⟨v,rfl,h⟩
   have hF':∀{L'},Frd a n ds L'->Frd {a with defers:= [mrk Dk]++a.defers} n (mrk Dk::ds) L':=fun h=>⟨h.size,by rw [<-h.defers];rfl,h.get⟩
   rcases h with⟨s,rest,qt,h⟩|⟨t,rest,qt,h⟩
   · obtain⟨h1,h2⟩:=out .ready none _ rest W2 (by simp) h
     exact⟨none,_,h1,zc Dk s rest _ qt h2 _ (hF' hF)⟩
   · obtain⟨h1,h2⟩:=out .done (some (jc t)) _ rest W2 (by simp) h
     refine⟨some (jc t),_,h1,?_⟩
     have h3:=aT Dk t rest _ qt h2 _ (hF' hF)
     rcases hjc t with hj|⟨id,hj⟩
     · rw [hj] at h3⊢;exact wpIn_ret h3
     · rw [hj] at h3⊢;exact wpIn_exit h3
end
end Go.Proofs.Gw
namespace Go.Proofs.YtpnamgfdakfccaaGreat
open Go Go.RowKit Go.Proofs.Gw
theorem Zo5:Zd Om 85=true:=Oc
theorem Zo4:Zd Om 86=true:=Oc
theorem cl_87:Zd Om 87=true:=Oc
theorem Zo3:Zd Om 88=true:=Oc
theorem Zdo:ZN Om 100=some (.agg #[Oh,Oh,Oh,.int Oi 0,.int Oi 0,.int Oi 0],6,96):=Oc
theorem fd_100_0:Zv Om 100 0=some 0:=Oc
theorem WU:Zv Om 100 1=some 5:=Oc
theorem fd_56_1:Zv Om 56 1=some 1:=Oc
theorem pl_35:ZG Om 35=true:=Oc
theorem Up:Zx Om 100=some 6:=Oc
structure CX where
  u:Int
  vP:Value
  vv:Int->Value
  ml:Of
  mf:Og
  vX:Value
  vY:Value
  s:So
  e:Int
inductive CRn (p:Prob):Int->(Of)->(Og)->Int->Prop
  |start {u e:Int} {ml:Of} {mf:Og} (h:ZeL p u ml mf e):CRn p u ml mf e
  |go {u na worth f:Int} {ml:Of} {mf:Og} {a:Of} {s:So} (h:CRn p u ml mf 0) (hs:MSolveR p u ml mf s 0) (hp:PriceR p s.m s.Y na a worth f) (hn:¬(f=0/\worth<=s.den)):CRn p (u+1) (gsn ml u na) (gsn mf u a) f
def ZeP(p:Prob)(s:So):Prop:=∃na a worth,PriceR p s.m s.Y na a worth 0/\worth<=s.den
def Zqi(x:CX):List Ent:= [.own x.vP 1 22 x.u x.vv,.sem (Frame.rows 3 x.u x.vv x.ml x.mf),.own x.vX 1 3 x.s.n (ints x.s.X),.own x.vY 1 3 x.s.m (ints x.s.Y)]
def ZkL(p:Prob)(s:List CX)(x:CX)(rest:Gw.Frame):Prop:=(∀y∈s,y.e=0)/\Slh x.vP x.u/\Slh x.vX x.s.n/\Slh x.vY x.s.m/\(x.e=0->Frame.gives rest (Zqi x))/\
  ∃e,CRn p x.u x.ml x.mf e/\((e≠0/\x.e=e/\x.s=So.zero)\/(e=0/\MSolveR p x.u x.ml x.mf x.s x.e))
def Zqj(p:Prob)(s:List CX)(rest:Gw.Frame):Prop:=∃s' x,s=s'++ [x]/\ZkL p s' x rest/\(x.e=0->ZeP p x.s)
theorem MSolveR.few{p:Prob}{u:Int}{ml:Of}{mf:Og}{s:So}(h:MSolveR p u ml mf s 0):p.Ok/\u<=60/\s.m=p.m:=by
 rcases h with⟨_,_,h⟩|⟨_,_,_,h⟩|⟨_,_,_,_,_,_,h⟩|⟨h1,h2,h3,h4,h5,h6,h7⟩|⟨h1,h2,h3,h4,h5⟩
 · omega
 · omega
 · omega
 · exact⟨h1.1,h3,by rw [h6];rfl⟩
 · refine⟨h1.1,h3,?_⟩
   have:=(SolveR.chk (p:=ZgF p u mf) (by have:=h1.1.m1;show 0<=p.m;omega) h5 rfl).m
   exact this
theorem Zir {v:Value} {n:Int} {vv:Int->Value} (w0:World) (ho:(Ent.own v 1 22 n vv).holds w0) (h1:∀k,0<=k->k<n->(vv k).oneCell'=true) (hn:n<=1000000):Calls Om 86 [v].toArray w0 fun e w=>∃u,e= .returned u/\∃r,u=r/\Slh r n/\Sat w0 w [.own r 1 22 n vv]:=by
 have qv:=ho.row
 obtain⟨hn0,hn1,⟨rfl,rfl⟩|⟨g,cap,cur,rfl,hg,h2,h3,h4,h5⟩⟩:=ho
 · refine(WP 0 0 w0).mono fun e w ⟨he,hw⟩=>⟨_,he,_,rfl,slh_nil,?_⟩
   rw [hw]
   exact(Sat.start w0).addnil 1 22 vv
 · obtain⟨i,hi,hz,hs,hb⟩:=Yq Yl
   refine(Uq i Oh 1 24 hi hz hs hb rfl (by decide) (fun w=>by simp [sizeOf,typeInfo,hi,hs]) g 0 n.toNat cap (cellsOf vv n.toNat) w0 (by rw [YB];omega) (by unfold maxLen;omega) Oa (fun j u hj=> ?_) (fun u hu=> ?_)).mono fun e w ⟨r,he,hr,_,hB⟩=>⟨r,he,r,rfl,?_⟩
   · rw [cellsOf_get] at hj
     split at hj
     · rename_i hlt
       cases hj
       have:=qv.2 j Oa
       rw [<-this];simp [cad]
     · cases hj
   · obtain⟨j,hj⟩:=List.getElem?_of_mem hu
     rw [cellsOf_get] at hj
     split at hj
     · cases hj;exact h1 j Oa Oa
     · cases hj
   · have hE:(Ent.own r 1 22 n vv).holds w:=Ent.holds.of_owns hn0 Oa (by rw [Nat.mul_one];exact hr)
     exact⟨hE.row.slh,hB,fun e he=>by obtain rfl:=List.mem_singleton.1 he;exact hE,fun e he g hg=>by obtain rfl:=List.mem_singleton.1 he;exact(hr.lt g hg).1,List.pairwise_singleton _ _⟩
theorem ZdG{vL vD:Value}{p:Prob}{gp:Nat}(w0:World)(h:PAt w0 vL vD p):ItC (St:=List CX) (X:=CX) (Tt:=CX) Om w0 84 [Or gp] [.blk gp [vL,vD,.int Oi p.stock,.int Oi p.kerf]] (fun x=> [.agg #[x.vP,x.vX,x.vY,.int Oi x.s.val,.int Oi x.s.den,.int Oi x.e]]) (ZkL p) (fun s x s1=>s1=s++ [x]) (fun _ _ _=>False) ([]) (Zqj p) (fun _ _=>False):=by
 intro l C D w hS hY
 obtain⟨hm,hm1,hd,hd1,hs,hk⟩:=h.Oq
 refine ZgQ Tryz.func84 Tryz.ntmps84 ?_
 refine hsq<|hrz ?_
 refine zlv (xls 1 st_27 hS) ?_
 refine zlc (xc0 Zo5) (Zib (p:=p) w (h.below hS.below)) ?_;rintro _ w ⟨bW,zM,aA,bX,bZ,jM,rfl,bg,dm,hS'⟩
 replace hS:Sat w0 w [.sem (C []),.blk gp [vL,vD,.int Oi p.stock,.int Oi p.kerf],.own bW 1 22 zM aA,.sem (Frame.rows 3 zM aA bX bZ)]:=hS.comp hS';clear hS'
 have gL:=fun k (k0:0<=k) (k1:k<zM)=>hS.slhIn 3 rfl k0 k1
 refine zs5 ?_
 refine zln<|zh<|htn<|hbk<|hlp (fun mm M w=>∃(s:List CX) (u:Int) (wP:Value) (vv:Int->Value) (ml:Of) (mf:Og) (e:Int),mm=((62-u).toNat)/\(CRn p u ml mf e)/\(∀y∈s,y.e=0)/\(Slh wP u)/\(u<=61)/\M= [(0,.func (.yield l) #[] #[]),(1,Or gp),(3,wP),(4,.int Oi e)]/\Sat w0 w [.sem (C s),.blk gp [vL,vD,.int Oi p.stock,.int Oi p.kerf],.own wP 1 22 u vv,.sem (Frame.rows 3 u vv ml mf)]) ⟨[],zM,bW,aA,bX,bZ,jM,rfl,?_,?_,?_,?_,rfl,hS⟩ ?_
 ·
  exact .start bg
 ·
  intro y hy;cases hy
 ·
  exact dm
 ·
  rcases bg with⟨_,h9,_⟩|⟨h9,h8,_⟩
  · omega
  · have:=VN p p.m.toNat;have:=h9.m2;have:=h9.m1;omega
 clear hS w
 rintro mm M w ⟨s,u,wP,vv,ml,mf,e,rfl,hRn,xT,hsP,kU,rfl,hS⟩
 have hrs:=fun k (k0:0<=k) (k1:k<u)=>hS.slhIn 3 rfl k0 k1
 have hu0:=hsP.n0
 refine hbk<|hsq<|hrz ?_
 refine zlv xmv ?_
 refine zlc (xc0 Zo4) (Zir w (hS.holds _ (List.mem_of_getElem? (i:=2) rfl)) (fun k k0 k1=>(hS.slhIn 3 rfl k0 k1).one) Oa) ?_;rintro xa w ⟨_,rfl,yj,hS'⟩
 replace hS:Sat w0 w [.sem (C s),.blk gp [vL,vD,.int Oi p.stock,.int Oi p.kerf],.own wP 1 22 u vv,.sem (Frame.rows 3 u vv ml mf),.own xa 1 22 u vv]:=hS.comp hS';clear hS'
 refine zlv (xany (v:= .agg #[xa,Oh,Oh,.int Oi 0,.int Oi 0]) (hr:=by obtain⟨_,_,_,_,rfl,_⟩:=yj;kernel_rfl)) ?_
 refine zlv xmv ?_
 refine zlv (xany (v:= .agg #[xa,Oh,Oh,.int Oi 0,.int Oi 0,.int Oi e]) (hr:=by obtain⟨_,_,_,_,rfl,_⟩:=yj;kernel_rfl)) ?_
 refine zla (xal (cs:= [_,_,_,_,_,_]) Zdo hS) ?_;rintro _ w ⟨g1,rfl,hS⟩
 replace hS:=hS.n6
 refine zle (xsw 5 Up hS (hd:=(Za yj.one (Za rfl (Za rfl (Za rfl (Za rfl (Za rfl Zi)))))))) ?_;clear hS;rintro w hS
 replace hS:=hS.n6
 refine zln<|zh<|htn<|hsq<|hsq<|hrz ?_
 refine zs2 ?_
 refine zln<|zh<|htn ?_
 refine Y0 ?_ ?_<;>intro hc
 ·
  refine hrz ?_
  refine zlv (xls 1 st_27 hS) ?_
  refine zlv xmv ?_
  refine zlc (xc0 cl_87) (c_msolve (p:=p) (u:=u) (ml:=ml) (mf:=mf) w (h.below hS.below) (⟨(hS.rowN 2 rfl),fun k k0 k1=>hS.rowIn 3 rfl k0 k1,fun k k0 k1=>hS.roomIn 3 rfl k0 k1⟩:MAt _ wP u vv ml mf)) ?_;rintro _ w ⟨yE,yD,qP,aq,rfl,bi,aQ,aP,hS'⟩
  replace hS:Sat w0 w [.sem (C s),.blk gp [vL,vD,.int Oi p.stock,.int Oi p.kerf],.own wP 1 22 u vv,.sem (Frame.rows 3 u vv ml mf),.own xa 1 22 u vv,.blk g1 [xa,Oh,Oh,.int Oi 0,.int Oi 0,.int Oi e],.own yE 1 3 qP.n (ints qP.X),.own yD 1 3 qP.m (ints qP.Y)]:=hS.comp hS';clear hS'
  refine zs3 ?_
  refine zlv (xfb 0 fd_100_0) ?_
  refine zlv (xfb 1 fd_56_1) ?_
  refine zle (xsp 5 ZT hS (hd:=(Za aQ.one (Za aP.one (Za rfl (Za rfl Zi)))))) ?_;clear hS;rintro w hS
  replace hS:=hS.n8
  refine zlv (xfb 5 WU) ?_
  refine zle (xsb 5 pl_35 hS) ?_;clear hS;rintro w hS
  replace hS:=hS.n8
  refine zln<|zh<|htn<|hsq<|hsq<|hrg ?_
  refine hlv xmv ?_
  refine hlv (xls 5 Up hS) ?_
  have qM:ZkL p s ⟨u,xa,vv,ml,mf,yE,yD,qP,aq⟩ (Frame.bun [.own wP 1 22 u vv,.sem (Frame.rows 3 u vv ml mf),.own xa 1 22 u vv,.blk g1 [xa,yE,yD,.int Oi qP.val,.int Oi qP.den,.int Oi aq],.own yE 1 3 qP.n (ints qP.X),.own yD 1 3 qP.m (ints qP.Y)]):=⟨xT,yj,aQ,aP,fun _=>T0 [2,1,4,5],e,hRn,.inr ⟨by assumption,bi⟩⟩
  refine hly (hY s _ _ w qM (Sat.bundle (l1:= [_,_]) hS)) ?_;rintro _ w (⟨rfl,sy1,qw,hS⟩|⟨rfl,ty1,xh,hS⟩)
  ·
   replace hS:=Sat.unbundle (l1:= [_,_]) (l3:= []) hS
   replace hS:=hS.n8
   refine hlv xnt ?_
   refine hlv xmv ?_
   refine hlv (xfb 5 WU) ?_
   refine hlv (xlb 5 pl_35 hS) ?_
   refine hlv YE ?_
   refine hlv xpf ?_
   refine hln<|htn ?_
   refine Y0 ?_ ?_<;>intro hc
   ·
    refine hrt<|ztr<|zbr<|ztr<|zbr<|zf0 ⟨_,rfl,?_⟩
    subst qw
    exact .inl ⟨_,_,⟨s,_,rfl,⟨qM.1,qM.2.1,qM.2.2.1,qM.2.2.2.1,fun _=>T0 [2,1,4,5],qM.2.2.2.2.2⟩,by first|exact fun hh=>absurd hh (by assumption)|exact fun _=>⟨_,_,_,(by rw [show(0:Int)=zi by omega];exact ye),by show au<=qP.den;omega⟩⟩,Sat.bundle (l1:= [_,_]) hS⟩
   refine hsk<|htn<|hsq<|hrz ?_
   refine zlv (xls 1 st_27 hS) ?_
   refine zlv (xfb 0 fd_100_0) ?_
   refine zlv (xfb 1 fd_56_1) ?_
   refine zlv (xfb 2 fd_54_1) ?_
   refine zlv (xlb 5 pl_22 hS) ?_
   refine zlc (xc0 Zo3) (Zkf (p:=p) (n:=qP.m) (y:=qP.Y) w (h.below hS.below) (hS.rowN 7 rfl)) ?_;rintro _ w ⟨xI,aI,ar,au,zi,rfl,yS,yP,hS'⟩
   replace hS:Sat w0 w [.sem (C sy1),.blk gp [vL,vD,.int Oi p.stock,.int Oi p.kerf],.own wP 1 22 u vv,.sem (Frame.rows 3 u vv ml mf),.own xa 1 22 u vv,.blk g1 [xa,yE,yD,.int Oi qP.val,.int Oi qP.den,.int Oi aq],.own yE 1 3 qP.n (ints qP.X),.own yD 1 3 qP.m (ints qP.Y),.own xI 1 3 aI (ints ar)]:=hS.comp hS';clear hS'
   refine zs2 ?_
   have hfe:=bi;rw [show aq=0 by omega] at hfe
   obtain⟨hok,gI,hsm⟩:=hfe.few
   refine zs5 ?_
   refine zln<|zh<|htn<|hsq<|hsq<|hrz ?_
   refine zs3 ?_
   refine zlb 51 ?_ ?_<;>intro hc
   ·
    refine zlv xmv ?_
    refine zlv (xfb 0 fd_100_0) ?_
    refine zlv (xfb 1 fd_56_1) ?_
    refine zlv (xfb 4 fd_54_3) ?_
    refine zlv (xlb 5 pl_3 hS) ?_
    refine zs2 ?_
    have ye:=yS
    refine zln<|zh<|htn ?_
    refine Y0 ?_ ?_<;>intro hc
    ·
     refine hrt<|ztr<|zbr<|ztr<|zbr<|zf0 ⟨_,rfl,?_⟩
     subst qw
     exact .inl ⟨_,_,⟨s,_,rfl,⟨qM.1,qM.2.1,qM.2.2.1,qM.2.2.2.1,fun _=>T0 [2,1,4,5],qM.2.2.2.2.2⟩,by first|exact fun hh=>absurd hh (by assumption)|exact fun _=>⟨_,_,_,(by rw [show(0:Int)=zi by omega];exact ye),by show au<=qP.den;omega⟩⟩,Sat.bundle (l1:= [_,_]) hS⟩
    refine hsk<|htn<|hrz ?_
    refine zs2 ?_
    refine zla (xli (n:=1) (len:=1) (pv:= [(0,xI)]) (cs:= [xI]) (c:=(fun _=>xI)) Zk Yl hS (hf:=by obtain⟨_,_,_,_,rfl,_⟩:=yP;kernel_rfl)) ?_;rintro v1 w ⟨hS,hv1⟩
    replace hS:=hS.n10
    refine zla (xap 2 (r:=u+1) Zk Yl hS (hS.rowN 9 rfl) (WE _ _ _) (h1:=fun _ _ _=>yP.one)) ?_;rintro v2 w ⟨hS,hv2⟩
    replace hS:=hS.n10
    replace hS:=Sat.merge (l1:= [_,_,_]) (l2:= [_,_,_,_]) (l3:= [_]) hS Oa
    have xp:=fun k (k0:0<=k) (k1:k<u+1)=>hS.slhIn 3 rfl k0 k1
    replace hS:=hS.n9
    refine zs3 ?_
    refine zln<|zh<|zbn<|hlq ⟨sy1,u+1,v2,gsn vv u xI,gsn ml u aI,gsn mf u ar,zi,rfl,?_,?_,?_,?_,rfl,hS.pk [0,1,2,3]⟩
    ·
     exact .go (by rw [show(0:Int)=e by omega];exact hRn) hfe yS Oa
    ·
     rw [qw];intro y hy;rcases List.mem_append.1 hy with hy|hy
     · exact xT y hy
     · obtain rfl:=List.mem_singleton.1 hy;show aq=0;omega
    ·
     exact hv2
    ·
     omega
   iterate 6 refine zlo ?_
   refine zlv xpf ?_
   have ye:=yS
   refine zln<|zh<|htn<|hcf<|hsk<|htn<|hrz ?_
   refine zs2 ?_
   refine zla (xli (n:=1) (len:=1) (pv:= [(0,xI)]) (cs:= [xI]) (c:=(fun _=>xI)) Zk Yl hS (hf:=by obtain⟨_,_,_,_,rfl,_⟩:=yP;kernel_rfl)) ?_;rintro v3 w ⟨hS,hv3⟩
   replace hS:=hS.n10
   refine zla (xap 2 (r:=u+1) Zk Yl hS (hS.rowN 9 rfl) (WE _ _ _) (h1:=fun _ _ _=>yP.one)) ?_;rintro v4 w ⟨hS,hv4⟩
   replace hS:=hS.n10
   replace hS:=Sat.merge (l1:= [_,_,_]) (l2:= [_,_,_,_]) (l3:= [_]) hS Oa
   have za:=fun k (k0:0<=k) (k1:k<u+1)=>hS.slhIn 3 rfl k0 k1
   replace hS:=hS.n9
   refine zs3 ?_
   refine zln<|zh<|zbn<|hlq ⟨sy1,u+1,v4,gsn vv u xI,gsn ml u aI,gsn mf u ar,zi,rfl,?_,?_,?_,?_,rfl,hS.pk [0,1,2,3]⟩
   ·
    exact .go (by rw [show(0:Int)=e by omega];exact hRn) hfe yS Oa
   ·
    rw [qw];intro y hy;rcases List.mem_append.1 hy with hy|hy
    · exact xT y hy
    · obtain rfl:=List.mem_singleton.1 hy;show aq=0;omega
   ·
    exact hv4
   ·
    omega
  ·
   replace hS:=Sat.unbundle (l1:= [_,_]) (l3:= []) hS
   replace hS:=hS.n8
   refine hlv xnf ?_
   refine hlv xmv ?_
   iterate 3 refine hlo ?_
   refine hlv xpt ?_
   refine hln<|htn<|hct<|hrt<|ztr<|zbr<|ztr<|zbr<|zf0 ⟨_,rfl,?_⟩
   exact xh.elim
 refine hsk<|htn<|hsq<|hsq<|hrg ?_
 refine hlv xmv ?_
 refine hlv (xls 5 Up hS) ?_
 have xS:ZkL p s ⟨u,xa,vv,ml,mf,Oh,Oh,So.zero,e⟩ (Frame.bun [.own wP 1 22 u vv,.sem (Frame.rows 3 u vv ml mf),.own xa 1 22 u vv,.blk g1 [xa,Oh,Oh,.int Oi 0,.int Oi 0,.int Oi e]]):=⟨xT,yj,slh_nil,slh_nil,fun hh=>absurd hh (by assumption),e,hRn,.inl ⟨by assumption,rfl,rfl⟩⟩
 refine hly (hY s _ _ w xS (Sat.bundle (l1:= [_,_]) hS)) ?_;rintro _ w (⟨rfl,sy2,gZ,hS⟩|⟨rfl,ty2,jy,hS⟩)
 ·
  replace hS:=Sat.unbundle (l1:= [_,_]) (l3:= []) hS
  replace hS:=hS.n6
  refine hlv xnt ?_
  refine hlv xmv ?_
  refine hlv (xfb 5 WU) ?_
  refine hlv (xlb 5 pl_35 hS) ?_
  refine hlv YE ?_
  refine hlv xpf ?_
  refine hln<|htn ?_
  refine Y0 ?_ ?_<;>intro hc
  ·
   refine hrt<|ztr<|zbr<|ztr<|zbr<|zf0 ⟨_,rfl,?_⟩
   subst gZ
   exact .inl ⟨_,_,⟨s,_,rfl,⟨xS.1,xS.2.1,xS.2.2.1,xS.2.2.2.1,fun hh=>absurd hh (by assumption),xS.2.2.2.2.2⟩,by first|exact fun hh=>absurd hh (by assumption)|exact fun _=>⟨_,_,_,(by rw [show(0:Int)=zi by omega];exact ye),by show au<=qP.den;omega⟩⟩,Sat.bundle (l1:= [_,_]) hS⟩
  exfalso;omega
 ·
  replace hS:=Sat.unbundle (l1:= [_,_]) (l3:= []) hS
  replace hS:=hS.n6
  refine hlv xnf ?_
  refine hlv xmv ?_
  iterate 3 refine hlo ?_
  refine hlv xpt ?_
  refine hln<|htn<|hct<|hrt<|ztr<|zbr<|ztr<|zbr<|zf0 ⟨_,rfl,?_⟩
  exact jy.elim
theorem ZfH{vL vD:Value}{p:Prob}(w0:World)(h:PAt w0 vL vD p):
   Calls Om 41 [.agg #[vL,vD,.int Oi p.stock,.int Oi p.kerf]].toArray w0 fun e w=>∃v,e= .returned v/\∃g,v= .func (.func 84) #[] #[Or g]/\Sat w0 w [.blk g [vL,vD,.int Oi p.stock,.int Oi p.kerf]]:=by
 refine zenG Tryz.func41 Tryz.ntmps41 fun w hS=> ?_
 refine zsr<|zla (xbx (cs:= [_,_,_,_]) hS) ?_;rintro _ w ⟨g1,rfl,hS⟩
 refine(zP)<|zlz<|(zV xmf)<|(zP)<|zx1<|Oj ?_
 exact⟨_,rfl,hS⟩
theorem Zpj:Zd Om 41=true:=Oc
theorem Zo6:Zd Om 84=true:=Oc
theorem Zcq:ZN Om 56=some (.agg #[Oh,Oh,Oh,.int Oi 0,.int Oi 0],5,88):=Oc
theorem XH:Zx Om 56=some 5:=Oc
def CX.zer:CX:=⟨0,Oh,fun _=>undef,fun _=>0,fun _ _=>0,Oh,Oh,So.zero,0⟩
def V3(s:List CX):CX:=s.getLast?.getD CX.zer
theorem TY(s:List CX)(x:CX):V3 (s++ [x])=x:=by simp [V3]
def ColR(p:Prob)(u:Int)(ml:Of)(mf:Og)(s:So)(e:Int):Prop:=(¬p.Ok/\u=0/\s=So.zero/\e=1)\/
  (p.Ok/\e≠0/\u=0/\s=So.zero/\∃u1 ml1 mf1 e1,CRn p u1 ml1 mf1 e1/\((e1≠0/\e=e1)\/(e1=0/\∃s1,MSolveR p u1 ml1 mf1 s1 e)))\/(p.Ok/\e=0/\CRn p u ml mf 0/\MSolveR p u ml mf s 0/\ZeP p s)
theorem Ue{vL vD:Value}{p:Prob}(w0:World)(h:PAt w0 vL vD p):
   Calls Om 16 [.agg #[vL,vD,.int Oi p.stock,.int Oi p.kerf]].toArray w0 fun e w=>∃v,e= .returned v/\∃vP vv vX vY u ml mf s e,v= .tuple #[.agg #[vP,vX,vY,.int Oi s.val,.int Oi s.den],.int Oi e]/\ColR p u ml mf s e/\Slh vP u/\Slh vX s.n/\Slh vY s.m/\Sat w0 w [.own vP 1 22 u vv,.sem (Frame.rows 3 u vv ml mf),.own vX 1 3 s.n (ints s.X),.own vY 1 3 s.m (ints s.Y)]:=by
 obtain⟨hm,hm1,hd,hd1,hs,hk⟩:=h.Oq
 refine ZjE Tryz.func16 Tryz.ntmps16 fun w hS=> ?_
 refine hsq<|hrz ?_
 refine zla (xbx (cs:= [_,_,_,_]) hS) ?_;rintro _ w ⟨g1,rfl,hS⟩
 refine zla (xal (cs:= [_,_,_,_,_]) Zcq hS) ?_;rintro _ w ⟨g2,rfl,hS⟩
 refine(zP)<|zln<|zh<|htn<|hsq<|hsq<|hrz ?_
 refine(zV (xls 0 st_27 hS))<|zlc (xc0 XP) (Ya (p:=p) w (h.below hS.below)) ?_;rintro _ w ⟨rfl,hS'⟩
 replace hS:=hS.cmp hS';clear hS'
 refine(zP)<|zln<|zh<|htn ?_
 refine Y0 ?_ ?_<;>intro hc
 ·
  refine hsq<|hrz ?_
  refine(zV (xany (v:= .agg #[Oh,Oh,Oh,.int Oi 0,.int Oi 0])))<|zle (xsw 1 XH hS) ?_;clear hS;rintro w hS
  refine(zP)<|zln<|zh<|htn<|hrt<|ztr<|ZlH<|Ym 1 XH hS ⟨_,rfl,?_⟩
  exact⟨_,fun _=>undef,_,_,0,fun _=>0,fun _ _=>0,So.zero,1,rfl,.inl ⟨‹¬p.Ok›,rfl,rfl,rfl⟩,slh_nil,slh_nil,slh_nil,((((hS.sub (.cons _ (.cons _ .slnil))).addnil 1 22 (fun _=>undef)).addrows 3 (fun _=>undef) (fun _=>0) (fun _ _=>0)).addnil 1 3 (ints So.zero.X)).addnil 1 3 (ints So.zero.Y)⟩
 refine hsk<|htn<|hsq<|hrz ?_
 refine zla (xal (cs:= [_,_,_,_,_,_]) Zdo hS) ?_;rintro _ w ⟨g3,rfl,hS⟩
 refine zln<|zh<|htn<|hsq<|hsq<|hrz ?_
 refine zlv (xls 0 st_27 hS) ?_
 have hok:p.Ok:=by first|assumption|exact Od ‹_›
 refine zlc (xc0 Zpj) (ZfH (p:=p) w (h.below hS.below)) ?_;rintro _ w ⟨g4,rfl,hS'⟩
 replace hS:=(hS.comp hS').n4;clear hS'
 refine zln<|zh<|htn<|hbk<| ?_
 refine hrf (St:=List CX) (X:=CX) (Tt:=CX) (fun s=> [.blk g1 [vL,vD,.int Oi p.stock,.int Oi p.kerf],.blk g2 [Oh,Oh,Oh,.int Oi 0,.int Oi 0],.blk g3 [(V3 s).vP,(V3 s).vX,(V3 s).vY,.int Oi ((V3 s).s.val),.int Oi ((V3 s).s.den),.int Oi ((V3 s).e)]]) (fun t=> []) (fun _=> .ret) [] (fun x M es=>∃(g5:Nat),M= [(0,.agg #[vL,vD,.int Oi p.stock,.int Oi p.kerf]),(1,Or g1),(2,Or g2),(3,.int Oi 0),(6,.agg #[vL,vD,.int Oi p.stock,.int Oi p.kerf]),(7,B (p.Ok)),(8,B (¬(p.Ok))),(4,Or g3),(10,.agg #[vL,vD,.int Oi p.stock,.int Oi p.kerf]),(11,.func (.func 84) #[] #[Or g4]),(12,.agg #[x.vP,x.vX,x.vY,.int Oi x.s.val,.int Oi x.s.den,.int Oi x.e]),(5,Or g5)]/\es= [.blk g5 [x.vP,x.vX,x.vY,.int Oi x.s.val,.int Oi x.s.den,.int Oi x.e]]) (ZdG (gp:=g4) w0 h) (hS) Zo6 (fun _=>rfl) (fun _=> .inl rfl) ?_ ?_ ?_ ?_
 ·
  intro lq s x rest w qs qK hrr hS
  have hxP:=qs.2.1;have hxX:=qs.2.2.1;have hxY:=qs.2.2.2.1
  refine hrz ?_
  refine zla (xal (cs:= [_,_,_,_,_,_]) Zdo hS) ?_;rintro _ w ⟨g5,rfl,hS⟩
  refine zle (xsw 5 Up hS (hd:=(Za hxP.one (Za hxX.one (Za hxY.one (Za rfl (Za rfl (Za rfl Zi)))))))) ?_;clear hS;rintro w hS
  refine zln<|zh<|ZgR ⟨g5,rfl,rfl⟩ hS
 ·
  rintro lq s x _ _ rest w qs ⟨g5,rfl,rfl⟩ qK hrr hS
  have hxP:=qs.2.1;have hxX:=qs.2.2.1;have hxY:=qs.2.2.2.1
  refine hbk<|hrz ?_
  refine(zV (xls 5 Up hS))<|zle (xsw 2 Up hS (hd:=(Za hxP.one (Za hxX.one (Za hxY.one (Za rfl (Za rfl (Za rfl Zi)))))))) ?_;clear hS;rintro w hS
  refine zln<|zh<|zbn ?_
  obtain⟨s1,hs1⟩:∃s1,s1=s++ [x]:=⟨_,rfl⟩
  have e1:V3 s1=x:=by rw [hs1,TY]
  rw [<-e1] at hS
  refine Zdg s1 hs1 (hS.pk [0,1,2,3,4])
 ·
  intro Dk s rest w qt hS
  obtain⟨s9,x,rfl,qs,fo⟩:=qt
  have hxP:=qs.2.1;have hxX:=qs.2.2.1;have hxY:=qs.2.2.2.1
  rw [TY] at hS
  refine zbn<|htn<|hsq<|hsq<|hrz ?_
  refine(zV (xfb 5 WU))<|(zV (xlb 2 pl_35 hS))<|(zP)<|zln<|zh<|htn ?_
  refine Y0 ?_ ?_<;>intro hc
  ·
   refine hsq ?_
   refine hdst [0,1,2,3,4,5] [0,2,3,4,5] 3 mx_ hS ?_;clear hS;intro w hS
   refine(zDw 0 (xany (v:= .agg #[Oh,Oh,Oh,.int Oi 0,.int Oi 0])))<|(zDw 1 (xfb 5 WU))<|(zDl 2 (fun w hS=>(xlb 1 pl_35 hS)))<|zde 3 (xsw 1 XH hS) ?_;clear hS;rintro w hS
   refine⟨⟨fun h=>absurd h (by decide),hS.pk [0,2,3,4,5]⟩,?_⟩
   refine(zDw 4 xas)<|zdd<|zh<|htn<|hrt<|ztr<|Zdh 5 hS fun w hS=>Ym 1 XH hS ⟨_,rfl,?_⟩
   obtain⟨e1,hc1,hc2⟩:=qs.2.2.2.2.2
   exact⟨_,fun _=>undef,_,_,0,fun _=>0,fun _ _=>0,So.zero,x.e,rfl,.inr (.inl ⟨hok,by assumption,rfl,rfl,_,_,_,e1,hc1,by rcases hc2 with⟨q1,q2,_⟩|⟨q1,q2⟩;exact .inl ⟨q1,q2⟩;exact .inr ⟨q1,_,q2⟩⟩),slh_nil,slh_nil,slh_nil,((((hS.sub (.cons _ (.cons _ (.cons _ (.cons _ (.cons _ (.cons _ .slnil))))))).addnil 1 22 (fun _=>undef)).addrows 3 (fun _=>undef) (fun _=>0) (fun _ _=>0)).addnil 1 3 (ints So.zero.X)).addnil 1 3 (ints So.zero.Y)⟩
  refine hsk<|htn<|hsq<|hrz ?_
  refine(zV (xfb 0 fd_100_0))<|(zV (xlp 2 (ds:= [x.vP,x.vX,x.vY,.int Oi x.s.val,.int Oi x.s.den]) XH hS))<|zle (xsw 1 XH hS (hd:=(Za hxP.one (Za hxX.one (Za hxY.one (Za rfl (Za rfl Zi))))))) ?_;clear hS;rintro w hS
  refine(zP)<|zln<|zh<|htn<|hrt<|Zdh 5 hS fun w hS=>Ym 1 XH hS ⟨_,rfl,?_⟩
  have hx0:x.e=0:=Oa
  obtain⟨e1,hc1,hc2⟩:=qs.2.2.2.2.2
  obtain⟨q1,q2⟩:e1=0/\MSolveR p x.u x.ml x.mf x.s 0:=by rcases hc2 with⟨q1,q2,_⟩|⟨q1,q2⟩;exact absurd Oa q1;exact⟨q1,hx0▸q2⟩
  subst q1
  replace hS:=hS.given 4 (qs.2.2.2.2.1 hx0)
  replace hS:=Sat.unbundle (l1:= [_,_,_,_]) (l3:= [_]) hS
  exact⟨_,x.vv,_,_,_,_,_,x.s,0,rfl,.inr (.inr ⟨hok,rfl,hc1,q2,fo hx0⟩),hxP,hxX,hxY,hS.pk [4,5,6,7]⟩
 ·
  intro Dk t rest w qt hS
  exact qt.elim
variable {ml y:Of} {mf:Og}
theorem wc_top{p:Prob}(hp:p.Ok){x:Of}(hx:∀i,0<=i->i<p.m->0<=x i/\x i<=p.D i)(hu:ZL p x p.m.toNat<=p.stock+p.kerf):Zc (fun i=>x i*y i) p.m.toNat<=WC p y:=by
 have hm:=hp.m1;have hk:=hp.k1
 refine Zom (t:=X0 p y) (by show 0<=p.m;omega) (fun i i0 i1=> ?_) hx hu
 have:=hp.all i i0 i1
 unfold Prob.each at this
 show 1<=p.L i+p.kerf
 omega
theorem UG{p:Prob}(hp:p.Ok){i:Int}(i0:0<=i)(i1:i<p.m):0<=p.D i/\p.D i<=1000/\1<=p.L i/\p.L i<=p.stock:=by
 have h2:=hp.all i i0 i1
 unfold Prob.each at h2;omega
theorem Zdb{p:Prob}(hp:p.Ok)(hy:∀i,0<=i->i<p.m->0<=y i){W q:Int}{u:Nat}{x:Of}{f:Og}{D:Of}(hx:∀j,0<=j->j<(u:Int)->0<=x j)(hW:∀j,0<=j->j<(u:Int)->Zc (fun k=>f j k*y k) p.m.toNat<=W)
   (hb:∀k,0<=k->k<p.m->D k*q<=Zc (fun j=>f j k*x j) u):Zc (fun k=>D k*y k) p.m.toNat*q<=Zc x u*W:=by
 have hm:=hp.m1
 have e1:Zc (fun k=>D k*y k) p.m.toNat*q=Zc (fun k=>D k*q*y k) p.m.toNat:=by
   rw [<-Ye];exact Zg fun k _ _=>by grind
 have e2:Zc (fun k=>D k*q*y k) p.m.toNat<=Zc (fun k=>Zc (fun j=>f j k*x j) u*y k) p.m.toNat:=Z1 fun k k0 k1=>Int.mul_le_mul_of_nonneg_right (hb k k0 Oa) (hy k k0 Oa)
 have e3:Zc (fun k=>Zc (fun j=>f j k*x j) u*y k) p.m.toNat=Zc (fun k=>Zc (fun j=>f j k*x j*y k) u) p.m.toNat:=Zg fun k _ _=>(Ye _ _ _).symm
 have e4:Zc (fun k=>Zc (fun j=>f j k*x j*y k) u) p.m.toNat=Zc (fun j=>Zc (fun k=>f j k*x j*y k) p.m.toNat) u:=Wr (fun j k=>f j k*x j*y k) u p.m.toNat
 have e5:Zc (fun j=>Zc (fun k=>f j k*x j*y k) p.m.toNat) u<=Zc (fun j=>x j*W) u:=Z1 fun j j0 j1=>by
   have:Zc (fun k=>f j k*x j*y k) p.m.toNat=Zc (fun k=>f j k*y k) p.m.toNat*x j:=by
     rw [<-Ye];exact Zg fun k _ _=>by grind
   rw [this,Int.mul_comm (x j)]
   exact Int.mul_le_mul_of_nonneg_right (hW j j0 j1) (hx j j0 j1)
 rw [Ye] at e5
 omega
structure MOk (p:Prob) (u:Int) (ml:Of) (mf:Og) (s:So):Prop where
  pats:W4 p u ml mf
  u0:0<=u
  n:s.n=u
  m:s.m=p.m
  d1:1<=s.den
  d2:s.den<=1073741824
  v:0<=s.val/\s.val<=1073741824
  X:∀j,0<=j->j<u->0<=s.X j/\s.X j<=1073741824
  Y:∀i,0<=i->i<p.m->0<=s.Y i/\s.Y i<=1073741824
  rows:∀k,0<=k->k<p.m->p.D k*s.den<=Zc (fun j=>mf j k*s.X j) u.toNat
  cols:∀j,0<=j->j<u->Zc (fun k=>mf j k*s.Y k) p.m.toNat<=s.den
  cX:Zc s.X u.toNat=s.val
  bY:Zc (fun k=>p.D k*s.Y k) p.m.toNat=s.val
theorem MSolveR.ok{p:Prob}{u:Int}{s:So}(hu:0<=u)(h:MSolveR p u ml mf s 0):MOk p u ml mf s:=by
 rcases h with⟨_,_,h⟩|⟨_,_,_,h⟩|⟨_,_,_,_,_,_,h⟩|⟨h1,h2,h3,h4,h5,h6,h7⟩|⟨h1,h2,h3,h4,h5⟩
 · omega
 · omega
 · omega
 · have hm:=h1.1.m1;have hd:=h1.1.d
   subst h6;subst h4
   have z:∀f:Of,Zc (fun k=>f k*0) p.m.toNat=0:=fun f=>by rw [Ye,Int.mul_zero]
   refine⟨h1,Oa,rfl,rfl,by show(1:Int)<=1;decide,by show(1:Int)<=1073741824;decide,⟨Int.le_refl _,by show(0:Int)<=1073741824;decide⟩,fun j a b=>Oa,fun i _ _=>⟨Int.le_refl _,by show(0:Int)<=1073741824;decide⟩,fun k k0 k1=> ?_,fun j a b=>Oa,rfl,z p.D⟩
   have:=h5 k k0 Oa
   show p.D k*1<=0
   omega
 · have hm:=h1.1.m1
   have hc:=SolveR.chk (p:=ZgF p u mf) (by show 0<=p.m;omega) h5 rfl
   have hv:s.val=Zc s.X u.toNat:=by
     have:=hc.cX
     rw [<-this];exact Zg fun k _ _=>by show 1*s.X k=_;omega
   refine⟨h1,Oa,hc.n,hc.m,hc.d1,hc.d2,⟨?_,hc.v.2⟩,hc.X,hc.Y,fun k k0 k1=> ?_,fun j j0 j1=> ?_,hv.symm,hc.bY⟩
   · rw [hv];exact ZY fun j j0 j1=>(hc.X j j0 (by show j<u;omega)).1
   · exact hc.rows k k0 k1
   · have:=hc.cols j j0 j1
     have e:(ZgF p u mf).c j*s.den=s.den:=by show 1*s.den=_;omega
     rw [e] at this;exact this
theorem Uw{p:Prob}{n:Int}{a:Of}(h:Z6 p n a):(∀i,0<=i->i<p.m->0<=a i/\a i<=p.D i)/\ZL p a p.m.toNat<=p.stock+p.kerf:=
 ⟨fun i i0 i1=>⟨(h.1.all i i0 i1).1,h.2 i i0 (by rw [h.1.eq];exact i1)⟩,h.1.used⟩
theorem MOk.bound{p:Prob}{u:Int}{s:So}(h:MOk p u ml mf s)(hy:∀i,0<=i->i<p.m->0<=y i):Zc (fun k=>p.D k*y k) p.m.toNat*s.den<=s.val*WC p y:=by
 have hp:=h.pats.1
 have hu:=h.u0
 rw [<-h.cX]
 refine Zdb hp hy (fun j j0 j1=>(h.X j j0 Oa).1) (fun j j0 j1=> ?_) h.rows
 obtain⟨h1,h2⟩:=Uw (h.pats.2 j j0 Oa)
 exact wc_top hp h1 h2
theorem Zhz{p:Prob}{s:So}(h:ZeP p s):WC p s.Y<=s.den:=by
 obtain⟨na,a,worth,h1,h2⟩:=h
 rcases h1 with⟨_,_,_,h1⟩|⟨_,_,_,_,h1,_⟩
 · omega
 · omega
theorem MOk.own{p:Prob}{u:Int}{s:So}(h:MOk p u ml mf s)(hc:WC p s.Y<=s.den):s.val*s.den=s.val*WC p s.Y:=by
 have h1:=h.bound (y:=s.Y) fun i i0 i1=>(h.Y i i0 i1).1
 rw [h.bY] at h1
 have:=Int.mul_le_mul_of_nonneg_left hc h.v.1
 omega
theorem MOk.prc{p:Prob}{u:Int}{s:So}(h:MOk p u ml mf s):ZfN p s.m s.Y:=⟨h.pats.1,h.m,fun k k0 k1=>h.Y k k0 k1⟩
theorem ColR.okS{p:Prob}{u e:Int}{s:So}(hu:0<=u)(h:ColR p u ml mf s e)(he:e=0):MOk p u ml mf s/\WC p s.Y<=s.den:=by
 rcases h with⟨_,_,_,h⟩|⟨_,h,_⟩|⟨_,_,_,h1,h2⟩
 · omega
 · exact absurd he h
 · exact⟨h1.ok hu,Zhz h2⟩
end Go.Proofs.YtpnamgfdakfccaaGreat
namespace Go.Proofs.Gw
open Go Go.RowKit
variable {a b i r:Int}
def skp(i k:Int):Int:=if k<i then k else k+1
def bck(i r:Int):Int:=if r<i then r else r-1
theorem ZdV(e:i≠r):skp i (bck i r)=r:=by
 unfold skp bck
 by_cases h:r<i
 · rw [if_pos h,if_pos h]
 · rw [if_neg h,if_neg Oa];omega
theorem Zgb(e:i≠r)(e1:i≠r+1):skp i (bck i r+1)=r+1:=by
 unfold skp bck
 by_cases h:r<i
 · rw [if_pos h,if_pos Oa]
 · rw [if_neg h,if_neg Oa];omega
theorem Zga{k:Int}(e:i≠r)(h:k≠bck i r):skp i k≠r:=by
 unfold bck at h;unfold skp
 split
 · split at h<;>omega
 · split at h<;>omega
theorem Za7{n:Int}(e:i≠r)(r0:0<=r)(r1:r<=n)(i0:0<=i)(i1:i<=n):0<=bck i r/\bck i r<n:=by
 unfold bck;split<;>omega
def alt(i:Int):Int:=if i%2=0 then 1 else-1
def det:Nat->(Og)->Int
  |0,_=>1
  |n+1,A=>Zc (fun i=>alt i*A i 0*det n (fun k m=>A (skp i k) (m+1))) (n+1)
theorem Xl:∀{n:Nat} {A B:Og},(∀k m,0<=k->k<(n:Int)->0<=m->m<(n:Int)->A k m=B k m)->det n A=det n B
 |0,_,_,_=>rfl
 | n+1,A,B,h=>by
   simp only [det]
   refine Zg fun i i0 i1=> ?_
   rw [h i 0 i0 i1 Oa Oa,Xl (n:=n) (fun k m k0 k1 m0 m1=>h (skp i k) (m+1) (by unfold skp;split<;>omega) (by unfold skp;split<;>omega) Oa Oa)]
theorem Vl:∀{n:Nat} {A U V:Og} {r a b:Int},0<=r->r<(n:Int)->(∀m,0<=m->m<(n:Int)->A r m=a*U r m+b*V r m)->
   (∀k m,0<=k->k<(n:Int)->0<=m->m<(n:Int)->k≠r->U k m=A k m)->(∀k m,0<=k->k<(n:Int)->0<=m->m<(n:Int)->k≠r->V k m=A k m)->det n A=a*det n U+b*det n V
 |0,_,_,_,_,_,_,h0,h1,_,_,_=>Oa
 | n + 1,A,U,V,r,a,b,r0,r1,h,hU,hV=>by
   simp only [det]
   have key:=Xg (n:=n+1) (D:=1) (A:=a) (B:= -b) (h:=fun i=>alt i*A i 0*det n (fun k m=>A (skp i k) (m+1))) (f:=fun i=>alt i*U i 0*det n (fun k m=>U (skp i k) (m+1))) (g:=fun i=>alt i*V i 0*det n (fun k m=>V (skp i k) (m+1))) (fun i i0 i1=> ?_)
   · grind
   · by_cases e:i=r
     · subst e
       have e1:det n (fun k m=>U (skp i k) (m+1))=det n (fun k m=>A (skp i k) (m+1)):=Xl fun k m k0 k1 m0 m1=>hU _ _ (by unfold skp;split<;>omega) (by unfold skp;split<;>omega) Oa Oa (by unfold skp;split<;>omega)
       have e2:det n (fun k m=>V (skp i k) (m+1))=det n (fun k m=>A (skp i k) (m+1)):=Xl fun k m k0 k1 m0 m1=>hV _ _ (by unfold skp;split<;>omega) (by unfold skp;split<;>omega) Oa Oa (by unfold skp;split<;>omega)
       rw [e1,e2,h 0 Oa Oa]
       grind
     · have hr:=ZdV e
       have hb:=Za7 (n:=n) e r0 Oa i0 Oa
       have ih:=Vl (n:=n) (A:=fun k m=>A (skp i k) (m+1)) (U:=fun k m=>U (skp i k) (m+1)) (V:=fun k m=>V (skp i k) (m+1)) (r:=bck i r) (a:=a) (b:=b) hb.1 hb.2
         (fun m m0 m1=>by show A (skp i (bck i r)) _=_*U (skp i (bck i r)) _+_*V (skp i (bck i r)) _;rw [hr];exact h (m+1) Oa Oa)
         (fun k m k0 k1 m0 m1 hk=>hU _ _ (by unfold skp;split<;>omega) (by unfold skp;split<;>omega) Oa Oa (Zga e hk))
         (fun k m k0 k1 m0 m1 hk=>hV _ _ (by unfold skp;split<;>omega) (by unfold skp;split<;>omega) Oa Oa (Zga e hk))
       rw [ih,hU i 0 i0 i1 Oa Oa e,hV i 0 i0 i1 Oa Oa e]
       grind
theorem ZeU{f:Of}{n:Nat}(r0:0<=r)(r1:r+1<(n:Int))(h:∀i,0<=i->i<(n:Int)->i≠r->i≠r+1->f i=0)(hs:f r+f (r+1)=0):Zc f n=0:=by
 rw [Z0 (s:=r) r0 Oa,Z0 (s:=r+1) Oa r1]
 have:Zc (fun j=>if j=r+1 then 0 else if j=r then 0 else f j) n=Zc (fun _=>0) n:=Zg fun i i0 i1=>by
   by_cases e:i=r+1
   · rw [if_pos e]
   · rw [if_neg e]
     by_cases e2:i=r
     · rw [if_pos e2]
     · rw [if_neg e2];exact h i i0 i1 e2 e
 rw [this,ZE,if_neg Oa];omega
theorem ZaR:∀{n:Nat} {A:Og} {r:Int},0<=r->r+1<(n:Int)->(∀m,0<=m->m<(n:Int)->A r m=A (r+1) m)->det n A=0
 |0,_,_,h0,h1,_=>Oa
 | n + 1,A,r,r0,r1,h=>by
   simp only [det]
   refine ZeU r0 r1 (fun i i0 i1 e1 e2=> ?_) ?_
   · have hb:=Za7 (n:=n) e1 r0 Oa i0 Oa
     have hb1:=Za7 (n:=n) e2 Oa Oa i0 Oa
     have hbb:bck i (r+1)=bck i r+1:=by unfold bck;split<;>(split<;>omega)
     have ih:=ZaR (n:=n) (A:=fun k m=>A (skp i k) (m+1)) (r:=bck i r) hb.1 Oa (fun m m0 m1=>by
       show A (skp i (bck i r)) _=A (skp i (bck i r+1)) _
       rw [ZdV e1,Zgb e1 e2];exact h _ Oa Oa)
     rw [ih];simp
   · have e:det n (fun k m=>A (skp r k) (m+1))=det n (fun k m=>A (skp (r+1) k) (m+1)):=Xl fun k m k0 k1 m0 m1=>by
       by_cases hk:k=r
       · have e1:skp r k=r+1:=by unfold skp;rw [if_neg Oa];omega
         have e2:skp (r+1) k=r:=by unfold skp;rw [if_pos Oa];omega
         rw [e1,e2];exact(h _ Oa Oa).symm
       · have e1:skp r k=skp (r+1) k:=by unfold skp;split<;>(split<;>omega)
         rw [e1]
     have ea:alt (r+1)= -alt r:=by unfold alt;split<;>(split<;>omega)
     rw [e,<-h 0 Oa Oa,ea]
     grind
def YJ(A:Og)(a b:Int)(u v:Of):Og:=fun k=>if k=a then u else if k=b then v else A k
theorem Ur(A:Og)(a b:Int)(u v:Of):YJ A a b u v a=u:=if_pos rfl
theorem TH(A:Og)(u v:Of)(h:a≠b):YJ A a b u v b=v:=by unfold YJ;rw [if_neg (fun e=>h e.symm),if_pos rfl]
theorem Zlm(A:Og){k:Int}(u v:Of)(ha:k≠a)(hb:k≠b):YJ A a b u v k=A k:=by unfold YJ;rw [if_neg ha,if_neg hb]
theorem Zcu{n:Nat}{A:Og}(a0:0<=a)(a1:a<(n:Int))(b0:0<=b)(b1:b<(n:Int))(hab:a≠b)(hz:∀w:Of,det n (YJ A a b w w)=0)(u v:Of):det n (YJ A a b u v)= -det n (YJ A a b v u):=by
 have s1:∀x y z:Of,det n (YJ A a b (fun m=>x m+y m) z)=det n (YJ A a b x z)+det n (YJ A a b y z):=fun x y z=>by
   have:=Vl (n:=n) (A:=YJ A a b (fun m=>x m+y m) z) (U:=YJ A a b x z) (V:=YJ A a b y z) (r:=a) (a:=1) (b:=1) a0 a1 (fun m _ _=>by rw [Ur,Ur,Ur];omega)
     (fun k m _ _ _ _ hk=>by unfold YJ;rw [if_neg hk,if_neg hk]) (fun k m _ _ _ _ hk=>by unfold YJ;rw [if_neg hk,if_neg hk])
   omega
 have s2:∀x y z:Of,det n (YJ A a b z (fun m=>x m+y m))=det n (YJ A a b z x)+det n (YJ A a b z y):=fun x y z=>by
   have:=Vl (n:=n) (A:=YJ A a b z (fun m=>x m+y m)) (U:=YJ A a b z x) (V:=YJ A a b z y) (r:=b) (a:=1) (b:=1) b0 b1 (fun m _ _=>by rw [TH _ _ _ hab,TH _ _ _ hab,TH _ _ _ hab];omega)
     (fun k m _ _ _ _ hk=>by unfold YJ;rw [if_neg hk,if_neg hk]) (fun k m _ _ _ _ hk=>by unfold YJ;rw [if_neg hk,if_neg hk])
   omega
 have h:=hz (fun m=>u m+v m)
 rw [s1,s2,s2,hz u,hz v] at h
 omega
theorem ZeZ(A:Og)(a b:Int):YJ A a b (A a) (A b)=A:=by
 funext k;unfold YJ
 by_cases h:k=a
 · rw [if_pos h,h]
 · rw [if_neg h]
   by_cases h2:k=b
   · rw [if_pos h2,h2]
   · rw [if_neg h2]
theorem ZaP:∀(d:Nat) {n:Nat} {A:Og} {a b:Int},0<=a->b=a+1+d->b<(n:Int)->(∀m,0<=m->m<(n:Int)->A a m=A b m)->det n A=0
 |0,n,A,a,b,a0,hb,b1,h=>ZaR a0 Oa (fun m m0 m1=>by rw [h m m0 m1,show b=a+1 by omega])
 | d+1,n,A,a,b,a0,hb,b1,h=>by
   have hsw:=Zcu (n:=n) (A:=A) (a:=b-1) (b:=b) Oa Oa Oa b1 Oa (fun w=>ZaR (r:=b-1) Oa Oa (fun m _ _=>by rw [Ur,show b-1+1=b by omega,TH _ _ _ Oa])) (A (b-1)) (A b)
   rw [ZeZ] at hsw
   have:=ZaP d (n:=n) (A:=YJ A (b-1) b (A b) (A (b-1))) (a:=a) (b:=b-1) a0 Oa Oa (fun m m0 m1=>by rw [Ur,Zlm _ _ _ Oa Oa];exact h m m0 m1)
   omega
theorem ZaQ{n:Nat}{A:Og}(a0:0<=a)(a1:a<(n:Int))(b0:0<=b)(b1:b<(n:Int))(hab:a≠b)(h:∀m,0<=m->m<(n:Int)->A a m=A b m):det n A=0:=by
 rcases Int.lt_or_gt_of_ne hab with e|e
 · exact ZaP (b-a-1).toNat a0 Oa b1 h
 · exact ZaP (a-b-1).toNat b0 Oa a1 (fun m m0 m1=>(h m m0 m1).symm)
theorem Zct{n:Nat}(A:Og)(a0:0<=a)(a1:a<(n:Int))(b0:0<=b)(b1:b<(n:Int))(hab:a≠b)(u v:Of):det n (YJ A a b u v)= -det n (YJ A a b v u):=
 Zcu a0 a1 b0 b1 hab (fun w=>ZaQ a0 a1 b0 b1 hab fun m _ _=>by rw [Ur,TH _ _ _ hab]) u v
theorem ZaO{n:Nat}(A:Og){s:Int}(s0:0<=s)(s1:s<(n:Int))(c:Of)(G:Og):∀K:Nat,det n (upd A s (fun m=>Zc (fun k=>c k*G k m) K))=Zc (fun k=>c k*det n (upd A s (G k))) K
 | 0=>by
   have:=Vl (n:=n) (A:=upd A s (fun m=>Zc (fun k=>c k*G k m) 0)) (U:=A) (V:=A) (r:=s) (a:=0) (b:=0) s0 s1 (fun m _ _=>by rw [gu_self];simp [Zc]) (fun k m _ _ _ _ hk=>by rw [gu_ne hk]) (fun k m _ _ _ _ hk=>by rw [gu_ne hk])
   simp only [Zc] at*;omega
 | K +1=>by
   have ih:=ZaO A s0 s1 c G K
   have:=Vl (n:=n) (A:=upd A s (fun m=>Zc (fun k=>c k*G k m) (K+1))) (U:=upd A s (fun m=>Zc (fun k=>c k*G k m) K)) (V:=upd A s (G K)) (r:=s) (a:=1) (b:=c K) s0 s1
     (fun m _ _=>by rw [gu_self,gu_self,gu_self];simp [Zc]) (fun k m _ _ _ _ hk=>by rw [gu_ne hk,gu_ne hk]) (fun k m _ _ _ _ hk=>by rw [gu_ne hk,gu_ne hk])
   rw [this,ih];simp only [Zc];omega
def idm(k m:Int):Int:=if k=m then 1 else 0
theorem Zdr:∀n:Nat,det n idm=1
 |0=>rfl
 | n + 1=>by
   simp only [det]
   have e:Zc (fun i=>alt i*idm i 0*det n (fun k m=>idm (skp i k) (m+1))) (n+1)=alt 0*idm 0 0*det n (fun k m=>idm (skp 0 k) (m+1)):=by
     rw [Z0 (s:=0) Oa Oa]
     have:Zc (fun j=>if j=0 then 0 else alt j*idm j 0*det n (fun k m=>idm (skp j k) (m+1))) (n+1)=Zc (fun _=>0) (n+1):=Zg fun i i0 i1=>by
       by_cases e:i=0
       · rw [if_pos e]
       · rw [if_neg e];unfold idm;rw [if_neg e];simp
     rw [this,ZE];omega
   rw [e]
   have e2:det n (fun k m=>idm (skp 0 k) (m+1))=det n idm:=Xl fun k m k0 k1 m0 m1=>by
     have h1:skp 0 k=k+1:=by unfold skp;rw [if_neg Oa]
     rw [h1];unfold idm
     by_cases h:k=m
     · rw [if_pos h,if_pos Oa]
     · rw [if_neg h,if_neg Oa]
   rw [e2,Zdr n];rfl
end Go.Proofs.Gw
namespace Go.Proofs.Gw
open Go Go.RowKit
variable {col eps:Int} {t:Tb}
theorem UT(f:Of):∀n:Nat,Zc f (n+1)=f 0+Zc (fun j=>f (j+1)) n
 |0=>by simp [Zc]
 | n+1=>by
   have:=UT f n
   simp only [Zc] at*
   rw [this,show((n+1:Nat):Int)=(n:Int)+1 by omega];omega
theorem XG{f:Of}{n:Nat}{s:Int}(s0:0<=s)(s1:s<(n:Int))(h:∀k,0<=k->k<(n:Int)->k≠s->f k=0):Zc f n=f s:=by
 rw [Z0 s0 s1]
 have:Zc (fun j=>if j=s then 0 else f j) n=Zc (fun _=>0) n:=Zg fun i i0 i1=>by
   by_cases e:i=s
   · rw [if_pos e]
   · rw [if_neg e];exact h i i0 i1 e
 rw [this,ZE];omega
theorem Zbu{f:Of}{n:Nat}{s j:Int}(s0:0<=s)(s1:s<(n:Int))(j0:0<=j)(j1:j<(n:Int))(hsj:s≠j)(h:∀k,0<=k->k<(n:Int)->k≠s->k≠j->f k=0):Zc f n=f s+f j:=by
 rw [Z0 s0 s1,XG (s:=j) j0 j1 (fun k k0 k1 hk=>by
   by_cases e:k=s
   · rw [if_pos e]
   · rw [if_neg e];exact h k k0 k1 e hk),if_neg (fun e=>hsj e.symm)]
def frm(p:Lp)(q m:Int):Int:=if q<p.n then(if m=q+1 then 1 else 0) else if m=0 then-p.b (q-p.n) else p.A (q-p.n) (m-1)
def cst(p:Lp)(m:Int):Int:=if m=0 then 0 else p.c (m-1)
def slt(p:Lp)(t:Tb)(k m:Int):Int:=if k=0 then(if m=0 then 1 else 0) else frm p (t.F (k-1)) m
def lft(p:Lp)(t:Tb)(i m:Int):Int:=if i=0 then cst p m else frm p (t.B (i-1)) m
structure DInv (p:Lp) (t:Tb) (eps:Int):Prop where
  e:eps=1\/eps= -1
  nf:t.nf=p.n
  n1:1<=p.n
  den:eps*t.den=det (p.n.toNat+1) (slt p t)
  cell:∀i j,0<=i->i<=t.nb->0<=j->j<=t.nf->eps*t.C i j=det (p.n.toNat+1) (upd (slt p t) j (lft p t i))
  idt:∀m,0<=m->m<=p.n->Idt t (if m=0 then 1 else 0) (cst p m) (fun q=>frm p q m)
theorem Zbo{α:Type}(f:Int->α){a b:Int}(x y:α)(h:a≠b):upd (upd f a x) b y=upd (upd f b y) a x:=by
 funext k;unfold upd
 by_cases e:k=a
 · rw [if_pos e,if_neg Oa,if_pos e]
 · rw [if_neg e,if_neg e]
theorem RG{α:Type}(f:Int->α)(a:Int)(x y:α):upd (upd f a x) a y=upd f a y:=by
 funext k;unfold upd
 by_cases e:k=a
 · rw [if_pos e,if_pos e]
 · rw [if_neg e,if_neg e,if_neg e]
theorem WM{α:Type}(f:Int->α)(a:Int):upd f a (f a)=f:=by
 funext k;unfold upd
 by_cases e:k=a
 · rw [if_pos e,e]
 · rw [if_neg e]
theorem VK(A:Og){a b:Int}(u v:Of)(h:a≠b):upd (upd A a u) b v=YJ A a b u v:=by
 funext k;unfold upd YJ
 by_cases e:k=a
 · rw [if_pos e,if_neg Oa,if_pos e]
 · rw [if_neg e,if_neg e]
theorem DInv.row{p:Lp}(h:DInv p t eps){i:Int}(i0:0<=i)(i1:i<=t.nb){m:Int}(m0:0<=m)(m1:m<=p.n):t.den*lft p t i m=Zc (fun k=>t.C i k*slt p t k m) (p.n.toNat+1):=by
 have:=h.idt m m0 m1 i i0 i1
 have hn:=h.nf
 have e:VC t (cst p m) (fun q=>frm p q m) i=lft p t i m:=rfl
 rw [e] at this
 rw [this,UT]
 unfold VQ
 rw [hn]
 have:Zc (fun j=>t.C i (j+1)*frm p (t.F j) m) p.n.toNat=Zc (fun j=>t.C i (j+1)*slt p t (j+1) m) p.n.toNat:=Zg fun j j0 j1=>by
   unfold slt;rw [if_neg Oa,show j+1-1=j by omega]
 rw [this];unfold slt;rw [if_pos rfl]
theorem DInv.key{p:Lp}(h:DInv p t eps){r s i j:Int}(r0:0<=r)(r1:r<=t.nb)(s0:0<=s)(s1:s<=t.nf)(i0:0<=i)(i1:i<=t.nb)(j0:0<=j)(j1:j<=t.nf)(hj:j≠s):
   t.den*(eps*det (p.n.toNat+1) (upd (upd (slt p t) j (lft p t i)) s (lft p t r)))=t.C r s*t.C i j-t.C i s*t.C r j:=by
 have hnf:=h.nf;have hn1:=h.n1
 have hN:((p.n.toNat+1:Nat):Int)=p.n+1:=Oa
 have hl:=Vl (n:=p.n.toNat+1) (A:=upd (upd (slt p t) j (lft p t i)) s (fun m=>Zc (fun k=>t.C r k*slt p t k m) (p.n.toNat+1))) (U:=upd (upd (slt p t) j (lft p t i)) s (lft p t r)) (V:=upd (upd (slt p t) j (lft p t i)) s (lft p t r)) (r:=s) (a:=t.den) (b:=0) s0 Oa
   (fun m m0 m1=>by rw [gu_self,gu_self,<-h.row r0 r1 m0 Oa];omega) (fun k m _ _ _ _ hk=>by rw [gu_ne hk,gu_ne hk]) (fun k m _ _ _ _ hk=>by rw [gu_ne hk,gu_ne hk])
 rw [ZaO _ s0 Oa] at hl
 have hp:=Zbu (f:=fun k=>t.C r k*det (p.n.toNat+1) (upd (upd (slt p t) j (lft p t i)) s (slt p t k))) (n:=p.n.toNat+1) (s:=s) (j:=j) s0 Oa j0 Oa (fun e=>hj e.symm) (fun k k0 k1 e1 e2=>by
   have:=ZaQ (n:=p.n.toNat+1) (A:=upd (upd (slt p t) j (lft p t i)) s (slt p t k)) (a:=k) (b:=s) k0 k1 s0 Oa e1 (fun m _ _=>by rw [gu_self,gu_ne e1,gu_ne e2])
   rw [this,Int.mul_zero])
 have e1:upd (upd (slt p t) j (lft p t i)) s (slt p t s)=upd (slt p t) j (lft p t i):=by rw [Zbo _ _ _ hj,WM]
 have e2:det (p.n.toNat+1) (upd (upd (slt p t) j (lft p t i)) s (slt p t j))= -det (p.n.toNat+1) (upd (slt p t) s (lft p t i)):=by
   rw [VK _ _ _ hj,Zct _ j0 Oa s0 Oa hj,<-VK _ _ _ hj,WM]
 rw [e1,e2,<-h.cell i j i0 i1 j0 j1,<-h.cell i s i0 i1 s0 s1] at hp
 rw [hp] at hl
 rcases h.e with he|he<;>subst he<;>grind
theorem Kx{p:Lp}(h:DInv p t eps){row:Int}(ha:UY t row col):Zc7 t row col:=by
 obtain⟨hp,r0,r1,c0,c1,hne⟩:=ha
 intro i j i0 i1 j0 j1 hi hj
 have:=h.key (r:=row+1) (s:=col+1) (i:=i) (j:=j) Oa Oa Oa Oa i0 i1 j0 j1 hj
 exact Int.tmod_eq_zero_of_dvd ⟨_,this.symm⟩
theorem ZdU(p:Lp)(t:Tb){row:Int}(c0:0<=col)(r0:0<=row):slt p (piv t row col)=upd (slt p t) (col+1) (lft p t (row+1)):=by
 funext k m
 by_cases e:k=col+1
 · subst e
   rw [gu_self];unfold slt lft
   rw [if_neg Oa,if_neg Oa,show col+1-1=col by omega,show row+1-1=row by omega]
   show frm p (upd t.F col (t.B row) col) m=_
   rw [gu_self]
 · rw [gu_ne e];unfold slt
   by_cases e0:k=0
   · rw [if_pos e0,if_pos e0]
   · rw [if_neg e0,if_neg e0]
     show frm p (upd t.F col (t.B row) (k-1)) m=_
     rw [gu_ne Oa]
theorem Zjv(p:Lp)(t:Tb){row:Int}(c0:0<=col)(r0:0<=row):lft p (piv t row col)=upd (lft p t) (row+1) (slt p t (col+1)):=by
 funext k m
 by_cases e:k=row+1
 · subst e
   rw [gu_self];unfold slt lft
   rw [if_neg Oa,if_neg Oa,show col+1-1=col by omega,show row+1-1=row by omega]
   show frm p (upd t.B row (t.F col) row) m=_
   rw [gu_self]
 · rw [gu_ne e];unfold lft
   by_cases e0:k=0
   · rw [if_pos e0,if_pos e0]
   · rw [if_neg e0,if_neg e0]
     show frm p (upd t.B row (t.F col) (k-1)) m=_
     rw [gu_ne Oa]
theorem Zhx {p:Lp} (h:DInv p t eps) {row:Int} (ha:UY t row col):DInv p (piv t row col) (eps*sg (t.C (row+1) (col+1))):=by
 have hd:=Kx h ha
 have jq:=fun m m0 m1=>(Zeb ha hd _ _ _).1 (h.idt m m0 m1)
 obtain⟨hp,r0,r1,c0,c1,hne⟩:=ha
 have hnf:=h.nf;have hn1:=h.n1;have hd1:=hp.d1
 have hss:sg (t.C (row+1) (col+1))*sg (t.C (row+1) (col+1))=1:=by rcases TF (t.C (row+1) (col+1)) with e|e<;>rw [e]<;>rfl
 refine⟨?_,hnf,hn1,?_,?_,jq⟩
 · rcases h.e with e|e<;>rcases TF (t.C (row+1) (col+1)) with e2|e2<;>rw [e,e2]<;>simp
 · rw [Zd0,ZdU p t c0 r0,<-h.cell (row+1) (col+1) Oa Oa Oa Oa]
   grind
 · intro i j i0 i1 j0 j1
   have i2:i<=t.nb:=i1
   have j2:j<=t.nf:=j1
   rw [UW,ZdU p t c0 r0,Zjv p t c0 r0]
   have e0:eps*sg (t.C (row+1) (col+1))*(sg (t.C (row+1) (col+1))*Yg t (row+1) (col+1) i j)=eps*Yg t (row+1) (col+1) i j:=by grind
   rw [e0]
   unfold Yg
   by_cases hi:i=row+1
   · subst hi
     rw [gu_self]
     by_cases hj:j=col+1
     · subst hj
       rw [if_pos ⟨rfl,rfl⟩,RG,WM];exact h.den
     · rw [if_neg Oa,if_pos rfl,VK _ _ _ (fun e=>hj e.symm),Zct _ Oa Oa j0 Oa (fun e=>hj e.symm),<-VK _ _ _ (fun e=>hj e.symm),WM,<-h.cell _ _ Oa Oa j0 Oa]
       grind
   · rw [gu_ne hi]
     by_cases hj:j=col+1
     · subst hj
       rw [if_neg Oa,if_neg hi,if_pos rfl,RG];exact h.cell _ _ i0 i2 Oa Oa
     · rw [if_neg Oa,if_neg hi,if_neg hj]
       have hk:=h.key (r:=row+1) (s:=col+1) (i:=i) (j:=j) Oa Oa Oa Oa i0 i2 j0 j2 hj
       rw [<-hk,Int.mul_tdiv_cancel_left _ Oa,Zbo _ _ _ (fun e=>hj e.symm)]
       rcases h.e with e|e<;>rw [e]<;>grind
theorem Zdq {p:Lp} (hl:LOk p) (hm:0<=p.m):DInv p (Zw p) 1:=by
 have hn:=hl.n1
 have hN:((p.n.toNat+1:Nat):Int)=p.n+1:=Oa
 have hs:∀k m,0<=k->k<((p.n.toNat+1:Nat):Int)->0<=m->m<((p.n.toNat+1:Nat):Int)->slt p (Zw p) k m=idm k m:=fun k m k0 k1 m0 m1=>by
   unfold slt idm
   by_cases e:k=0
   · subst e;rw [if_pos rfl]
     by_cases e2:m=0
     · rw [if_pos e2,if_pos e2.symm]
     · rw [if_neg e2,if_neg (fun h=>e2 h.symm)]
   · rw [if_neg e]
     show frm p (k-1) m=_
     unfold frm
     rw [if_pos Oa]
     by_cases e2:k=m
     · rw [if_pos Oa,if_pos e2]
     · rw [if_neg Oa,if_neg e2]
 refine⟨.inl rfl,rfl,hn,?_,?_,?_⟩
 · rw [Xl hs,Zdr];rfl
 · intro i j i0 i1 j0 j1
   have i2:i<=p.m:=i1
   have j2:j<=p.n:=j1
   have e1:det (p.n.toNat+1) (upd (slt p (Zw p)) j (lft p (Zw p) i))=det (p.n.toNat+1) (upd idm j (fun m=>Zc (fun k=>lft p (Zw p) i k*idm k m) (p.n.toNat+1))):=Xl fun k m k0 k1 m0 m1=>by
     by_cases e:k=j
     · subst e
       rw [gu_self,gu_self,XG (s:=m) m0 m1 (fun q q0 q1 hq=>by unfold idm;rw [if_neg hq];omega)]
       unfold idm;rw [if_pos rfl];omega
     · rw [gu_ne e,gu_ne e];exact hs k m k0 k1 m0 m1
   have e2:lft p (Zw p) i j=(Zw p).C i j:=by
     unfold lft
     show _=(if i=0 then(if j=0 then 0 else p.c (j-1)) else if j=0 then-p.b (i-1) else p.A (i-1) (j-1))
     by_cases e:i=0
     · rw [if_pos e,if_pos e];rfl
     · rw [if_neg e,if_neg e]
       show frm p (p.n+(i-1)) j=_
       unfold frm
       rw [if_neg Oa,show p.n+(i-1)-p.n=i-1 by omega]
   rw [e1,ZaO _ j0 Oa,XG (s:=j) j0 Oa (fun q q0 q1 hq=>by
     have:=ZaQ (n:=p.n.toNat+1) (A:=upd idm j (idm q)) (a:=q) (b:=j) q0 q1 j0 Oa hq (fun m _ _=>by rw [gu_self,gu_ne hq])
     rw [this,Int.mul_zero]),WM,Zdr,e2];omega
 · intro m m0 m1
   refine(idt_start hl hm _ _ _).2 ⟨?_,fun i i0 i1=> ?_⟩
   · unfold cst
     by_cases e:m=0
     · rw [if_pos e]
       have:Zz p.c (fun q=>frm p q m) p.n.toNat=Zc (fun _=>0) p.n.toNat:=Zg fun q q0 q1=>by
         dsimp only;unfold frm;rw [if_pos Oa,if_neg Oa];omega
       rw [this,ZE]
     · rw [if_neg e]
       have:Zz p.c (fun q=>frm p q m) p.n.toNat=_:=XG (s:=m-1) Oa Oa (fun q q0 q1 hq=>by
         dsimp only;unfold frm;rw [if_pos Oa,if_neg Oa];omega)
       rw [this];dsimp only;unfold frm;rw [if_pos Oa,if_pos Oa];omega
   · have e1:frm p (p.n+i) m=if m=0 then-p.b i else p.A i (m-1):=by
       unfold frm;rw [if_neg Oa,show p.n+i-p.n=i by omega]
     rw [e1]
     by_cases e:m=0
     · rw [if_pos e,if_pos e]
       have:Zz (p.A i) (fun q=>frm p q m) p.n.toNat=Zc (fun _=>0) p.n.toNat:=Zg fun q q0 q1=>by
         dsimp only;unfold frm;rw [if_pos Oa,if_neg Oa];omega
       rw [this,ZE];omega
     · rw [if_neg e,if_neg e]
       have:Zz (p.A i) (fun q=>frm p q m) p.n.toNat=_:=XG (s:=m-1) Oa Oa (fun q q0 q1 hq=>by
         dsimp only;unfold frm;rw [if_pos Oa,if_neg Oa];omega)
       rw [this];dsimp only;unfold frm;rw [if_pos Oa,if_pos Oa];omega
end Go.Proofs.Gw
namespace Go.Proofs.Gw
open Go Go.RowKit
theorem Ra (t:Tb) (r:Int):∀K:Nat,0<=Z9 t r K->0<t.C (r+1) (Z9 t r K+1)/\∀j:Int,0<=j->j<K->0<t.C (r+1) (j+1)->t.C 0 (Z9 t r K+1)*t.C (r+1) (j+1)<=t.C 0 (j+1)*t.C (r+1) (Z9 t r K+1)
 |0,h=>by unfold Z9 at h;omega
 | k + 1,h=>by
   have ih:=Ra t r k
   have zb:=T9 t r k
   unfold Z9 at h⊢
   by_cases h1:t.C (r+1) (k+1)<=0
   · rw [if_pos h1] at h⊢
     obtain⟨a1,a2⟩:=ih h
     refine⟨a1,fun j j0 j1 hj=> ?_⟩
     by_cases e:j=k
     · subst e;omega
     · exact a2 j j0 Oa hj
   · rw [if_neg h1] at h⊢
     by_cases h2:Z9 t r k<0
     · rw [if_pos h2]
       refine⟨by omega,fun j j0 j1 hj=> ?_⟩
       by_cases e:j=k
       · subst e;exact Int.le_refl _
       · have:=zb h2 j j0 Oa;omega
     · rw [if_neg h2] at h⊢
       obtain⟨a1,a2⟩:=ih Oa
       by_cases h3:t.C 0 (k+1)*t.C (r+1) (Z9 t r k+1)<t.C 0 (Z9 t r k+1)*t.C (r+1) (k+1)\/(t.C 0 (k+1)*t.C (r+1) (Z9 t r k+1)=t.C 0 (Z9 t r k+1)*t.C (r+1) (k+1)/\t.F k<t.F (Z9 t r k))
       · rw [if_pos h3]
         refine⟨by omega,fun j j0 j1 hj=> ?_⟩
         by_cases e:j=k
         · subst e;exact Int.le_refl _
         · have b1:=a2 j j0 Oa hj
           have b2:t.C 0 (k+1)*t.C (r+1) (Z9 t r k+1)<=t.C 0 (Z9 t r k+1)*t.C (r+1) (k+1):=Oa
           have b3:=Int.mul_le_mul_of_nonneg_right b2 (Int.le_of_lt hj)
           have b4:=Int.mul_le_mul_of_nonneg_right b1 (show 0<=t.C (r+1) (k+1) by omega)
           refine Int.le_of_mul_le_mul_left ?_ a1
           grind
       · rw [if_neg h3]
         refine⟨a1,fun j j0 j1 hj=> ?_⟩
         by_cases e:j=k
         · subst e;omega
         · exact a2 j j0 Oa hj
theorem Zfq{t:Tb}(hp:TPrp t)(hc:t.costs){r:Int}(r0:0<=r)(h:0<=Z9 t r t.nf.toNat):(piv t r (Z9 t r t.nf.toNat)).costs:=by
 obtain⟨a1,a2⟩:=Ra t r _ h
 intro j j1 j2
 have j3:j<=t.nf:=j2
 rw [UW]
 have hs:sg (t.C (r+1) (Z9 t r t.nf.toNat+1))=1:=by unfold sg;rw [if_neg Oa]
 rw [hs,Int.one_mul]
 unfold Yg
 rw [if_neg Oa,if_neg Oa]
 have hr:=Wk t r t.nf.toNat
 split
 · exact hc j j1 j3
 · refine Int.tdiv_nonneg ?_ (by have:=hp.d1;omega)
   have c1:=hc j j1 j3
   have c2:=hc (Z9 t r t.nf.toNat+1) Oa Oa
   rcases Int.lt_or_le 0 (t.C (r+1) j) with h1|h1
   · have:=a2 (j-1) Oa Oa (by rw [show j-1+1=j by omega];exact h1)
     rw [show j-1+1=j by omega] at this
     grind
   · have m1:=Int.mul_nonneg (Int.le_of_lt a1) c1
     have m2:=Int.mul_nonneg c2 (show 0<= -t.C (r+1) j by omega)
     rw [Int.mul_neg] at m2
     omega
theorem Zge {p:Lp} {k:Nat} {t u:Tb} {e:Int} (h:Run k t u e):TPrp t->t.costs->(∃eps,DInv p t eps)->e=0\/e=2\/e=9\/e=19:=by
 induction h with
 | stop h hd=>
   intro hp hc _
   rcases h with⟨h1,_⟩|⟨_,_,_,_,_,_,h⟩|⟨_,_,_,_,_,_,_,h⟩|⟨_,_,_,_,_,_,_,h⟩
   · exact absurd ⟨hp,hc⟩ h1
   · exact .inl h
   · exact .inr (.inr (.inr h))
   · exact .inl h
 |lim=>intro _ _ _;exact .inr (.inr (.inl rfl))
 | @bad k t t' r c e h hpv he=>
   rintro hp hc ⟨eps,hi⟩
   have ha:UY t r c:=by
     rcases h with⟨h1,_⟩|⟨_,_,_,_,_,h,_⟩|⟨_,_,_,_,_,_,_,h⟩|⟨_,_,h1,h2,h3,h4,_⟩
     · exact absurd ⟨hp,hc⟩ h1
     · cases h
     · omega
     · have b1:=YZ t t.nb.toNat
       have b2:=Wk t (YA t t.nb.toNat) t.nf.toNat
       have b3:=(Ra t _ _ h2).1
       subst h3;subst h4
       exact⟨hp,h1,Oa,h2,Oa,Oa⟩
   have hd:=Kx hi ha
   rcases hpv with⟨h1,_⟩|⟨_,h1,_⟩|⟨_,_,_,_,h1⟩|⟨_,_,_,_,h1⟩
   · exact absurd ha h1
   · exact absurd hd h1
   · exact .inr (.inl h1)
   · exact absurd h1 he
 | @go k t t' u r c e h hpv hr ih=>
   rintro hp hc ⟨eps,hi⟩
   rcases hpv with⟨_,_,h1⟩|⟨_,_,_,h1⟩|⟨_,_,_,_,h1⟩|⟨ha,_,hp',rfl,_⟩
   · omega
   · omega
   · omega
   · refine ih hp' ?_ ⟨_,Zhx hi ha⟩
     rcases h with⟨h1,_⟩|⟨_,_,_,_,_,h,_⟩|⟨_,_,_,_,_,_,_,h⟩|⟨_,_,h1,h2,h3,h4,_⟩
     · exact absurd ⟨hp,hc⟩ h1
     · cases h
     · omega
     · subst h3;subst h4
       exact Zfq hp hc h1 h2
theorem RX{p:Lp}(hl:LOk p)(hm:0<=p.m):TPrp (Zw p)/\(Zw p).costs:=by
 have hn:=hl.n1;have hn2:=hl.n2;have hm2:=hl.m2
 refine⟨⟨hn,hn2,hm2,rfl,by show(1:Int)<=1;decide,by show(1:Int)<=1073741824;decide,rfl,?_,?_⟩,?_⟩
 · refine PermF.congr (c:=fun k=>k) ⟨fun i i0 i1=>⟨i0,i1⟩,fun i j _ _ _ _ e=>e⟩ fun k k0 k1=> ?_
   show k=cat p.n (fun j=>j) (fun i=>p.n+i) k
   unfold cat
   by_cases e:k<p.n
   · rw [if_pos e]
   · rw [if_neg e];show k=p.n+(k-p.n);omega
 · intro i i0 i1
   refine⟨rfl,fun j j0 j1=> ?_⟩
   have j2:j<p.n+1:=j1
   have i2:i<p.m+1:=i1
   show-1073741824<=(if i=0 then(if j=0 then 0 else p.c (j-1)) else if j=0 then-p.b (i-1) else p.A (i-1) (j-1))/\(if i=0 then(if j=0 then 0 else p.c (j-1)) else if j=0 then-p.b (i-1) else p.A (i-1) (j-1))<=1073741824
   by_cases e:i=0
   · rw [if_pos e]
     by_cases e2:j=0
     · rw [if_pos e2];omega
     · rw [if_neg e2];have:=hl.c (j-1) Oa Oa;omega
   · rw [if_neg e]
     by_cases e2:j=0
     · rw [if_pos e2];have:=hl.b (i-1) Oa Oa;omega
     · rw [if_neg e2];have:=(hl.rows (i-1) Oa Oa).2 (j-1) Oa Oa;omega
 · intro j j0 j1
   have j2:j<=p.n:=j1
   show 0<=(if(0:Int)=0 then(if j=0 then 0 else p.c (j-1)) else if j=0 then-p.b (0-1) else p.A (0-1) (j-1))
   rw [if_pos rfl,if_neg Oa];exact(hl.c (j-1) Oa Oa).1
theorem SolveR.errs{p:Lp}(hl:LOk p)(hm:0<=p.m){s:So}{e:Int}(h:SolveR p s e):e=0\/e=2\/e=9\/e=19:=by
 rcases h with⟨h1,_⟩|⟨_,u,hr,_⟩
 · exact absurd hl h1
 · exact Zge hr (RX hl hm).1 (RX hl hm).2 ⟨_,Zdq hl hm⟩
end Go.Proofs.Gw
namespace Go.Proofs.YtpnamgfdakfccaaGreat
open Go Go.RowKit Go.Proofs.Gw
variable {e:Int} {ml:Of} {mf:Og}
theorem Zjl{x:Of}{n:Nat}{k:Int}(k0:0<=k)(k1:k<(n:Int))(h:∀j,0<=j->j<(n:Int)->j≠k->x j=0):Zc x n=x k:=by
 rw [Z0 (s:=k) k0 k1]
 have:Zc (fun j=>if j=k then 0 else x j) n=Zc (fun _=>0) n:=Zg fun j j0 j1=>by
   by_cases e:j=k
   · rw [if_pos e]
   · rw [if_neg e,h j j0 j1 e]
 rw [this,ZE];omega
theorem Zgv{p:Prob}(hp:p.Ok){i:Int}(i0:0<=i)(i1:i<p.m):Z6 p p.m (VZ p i)/\(0<p.D i->1<=VZ p i i):=by
 have hm:=hp.m1;have hk:=hp.k1;have hs:=hp.s1
 have hd:=UG hp i0 i1
 have hq:=YD (a:=p.stock+p.kerf) (b:=p.L i+p.kerf) Oa Oa
 have h0:0<=(p.stock+p.kerf).tdiv (p.L i+p.kerf):=Int.tdiv_nonneg Oa Oa
 have h1:1<=(p.stock+p.kerf).tdiv (p.L i+p.kerf):=by
   rw [Int.tdiv_eq_ediv_of_nonneg Oa]
   exact(Int.le_ediv_iff_mul_le Oa).2 Oa
 have hv:VZ p i i=min (p.D i) ((p.stock+p.kerf).tdiv (p.L i+p.kerf)):=if_pos rfl
 have hz:∀j,j≠i->VZ p i j=0:=fun j e=>if_neg e
 refine⟨⟨⟨hp,rfl,fun j j0 j1=> ?_,?_⟩,fun j j0 j1=> ?_⟩,fun h=>by rw [hv];omega⟩
 · by_cases e:j=i
   · rw [e,hv];omega
   · rw [hz j e];omega
 · have e:ZL p (VZ p i) p.m.toNat=VZ p i i*(p.L i+p.kerf):=Zjl (x:=fun j=>VZ p i j*(p.L j+p.kerf)) i0 Oa fun j _ _ e=>by show VZ p i j*_=0;rw [hz j e,Int.zero_mul]
   rw [e,hv]
   have h2:=Int.mul_le_mul_of_nonneg_right (show min (p.D i) ((p.stock+p.kerf).tdiv (p.L i+p.kerf))<=(p.stock+p.kerf).tdiv (p.L i+p.kerf) by omega) (show 0<=p.L i+p.kerf by omega)
   have h3:(p.stock+p.kerf).tdiv (p.L i+p.kerf)*(p.L i+p.kerf)<=p.stock+p.kerf:=by
     rw [Int.tdiv_eq_ediv_of_nonneg Oa]
     exact Int.ediv_mul_le _ Oa
   omega
 · by_cases e:j=i
   · rw [e,hv];omega
   · rw [hz j e];exact(UG hp j0 j1).1
theorem ZfZ {p:Prob} (hp:p.Ok):∀k:Nat,(k:Int)<=p.m->(∀j,0<=j->j<stN p k->Z6 p (stL p k j) (stG p k j))/\∀i,0<=i->i<(k:Int)->0<p.D i->∃j,0<=j/\j<stN p k/\1<=stG p k j i
 |0,_=>⟨fun j a b=>by simp only [stN] at b;omega,fun i a b=>Oa⟩
 | k + 1,hk=>by
   obtain⟨h1,h2⟩:=ZfZ hp k Oa
   have hr:=(VN p k).1
   simp only [stN,stL,stG]
   by_cases e:0<p.D k
   · rw [if_pos e,if_pos e,if_pos e]
     obtain⟨q1,q2⟩:=Zgv hp (i:=(k:Int)) Oa Oa
     constructor
     · intro j j0 j1
       by_cases e2:j<stN p k
       · rw [Zq e2,Zq e2];exact h1 j j0 e2
       · rw [ZB e2,ZB e2];exact q1
     · intro i i0 i1 hi
       by_cases e2:i=k
       · subst e2
         refine⟨stN p k,hr,Oa,?_⟩
         rw [ZB Oa];exact q2 e
       · obtain⟨j,j0,j1,hj⟩:=h2 i i0 Oa hi
         refine⟨j,j0,Oa,?_⟩
         rw [Zq j1];exact hj
   · rw [if_neg e,if_neg e,if_neg e]
     refine⟨h1,fun i i0 i1 hi=>h2 i i0 ?_ hi⟩
     by_cases e2:i=k
     · subst e2;omega
     · omega
theorem Zc4{p:Prob}{n na worth:Int}{y a:Of}(h:PriceR p n y na a worth e)(he:e=0):Z6 p na a:=by
 rcases h with⟨_,_,_,h⟩|⟨⟨hp,hn,hy⟩,rfl,rfl,⟨x,hx⟩,_,_⟩
 · omega
 · have hm:=hp.m1;have hk:=hp.k1;have hs:=hp.s1
   have hq:=Zk9 Oa hx
   have hu:=(hx.worth Oa (by show 0<=p.m;omega)).1
   have hb:∀i,0<=i->i<p.m->0<=aC p y i/\aC p y i<=p.D i:=fun i i0 i1=>by
     have h1:=hx i i0 i1
     rw [<-hq i i0 i1];exact⟨h1.1,h1.2.1⟩
   refine⟨⟨hp,rfl,fun i i0 i1=> ?_,?_⟩,fun i i0 i1=>(hb i i0 i1).2⟩
   · have:=hb i i0 i1;have:=UG hp i0 i1;omega
   · refine Int.le_trans (Int.le_of_eq ?_) hu
     show Zc (fun i=>aC p y i*(p.L i+p.kerf)) p.m.toNat=Zc (fun i=>x i*(p.L i+p.kerf)) p.m.toNat
     exact Zg fun i i0 i1=>by rw [hq i i0 Oa]
theorem Tn{p:Prob}(hok:p.Ok){u:Int}(h:CRn p u ml mf e):e=0/\W4 p u ml mf/\0<=u/\∀i,0<=i->i<p.m->0<p.D i->∃j,0<=j/\j<u/\1<=mf j i:=by
 have hm:=hok.m1
 induction h with
 | start h=>
   rcases h with⟨h,_⟩|⟨_,h1,h2,h3,h4⟩
   · exact absurd hok h
   · subst h1;subst h2;subst h3
     obtain⟨q1,q2⟩:=ZfZ hok p.m.toNat Oa
     exact⟨h4,⟨hok,q1⟩,(VN p _).1,fun i i0 i1=>q2 i i0 Oa⟩
 | go h hs hp hn ih=>
   rename_i u1 na1 w1 f1 ml1 mf1 a1 s1
   obtain⟨_,h2,h3,h4⟩:=ih
   have hpr:=(hs.ok h3).prc
   have hf:f1=0:=by
     rcases hp with⟨q,_⟩|⟨_,_,_,_,_,q⟩
     · exact absurd hpr q
     · exact q
   refine⟨hf,⟨hok,fun k k0 k1=> ?_⟩,Oa,fun i i0 i1 hi=> ?_⟩
   · by_cases e:k<u1
     · rw [Zq e,Zq e];exact h2.2 k k0 e
     · rw [ZB e,ZB e];exact Zc4 hp hf
   · obtain⟨j,j0,j1,hj⟩:=h4 i i0 i1 hi
     exact⟨j,j0,Oa,by rw [Zq j1];exact hj⟩
theorem ZoJ{p:Prob}{u:Int}(h:W4 p u ml mf)(hu:1<=u)(hu2:u<=60)(hm:p.m<=16):LOk (ZgF p u mf):=by
 have hp:=h.1
 refine⟨hu,hu2,hm,hp.d,fun j _ _=>by show(0:Int)<=1/\(1:Int)<=1000000;omega,fun i i0 i1=> ?_,fun i i0 i1=>⟨rfl,fun j j0 j1=> ?_⟩⟩
 · have:=UG hp i0 i1
   show-1000000<=p.D i/\p.D i<=1000000;omega
 · have h1:=(Uw (h.2 j j0 j1)).1 i i0 i1
   have:=UG hp i0 i1
   show-1000000<=mf j i/\mf j i<=1000000;omega
theorem Zjn {p:Prob} {u:Int} {s:So} (hP:W4 p u ml mf) (hu:0<=u) (hc:∀i,0<=i->i<p.m->0<p.D i->∃j,0<=j/\j<u/\1<=mf j i) (h:MSolveR p u ml mf s e):e=0\/e=2\/e=9:=by
 have hp:=hP.1
 have hm:=hp.m1;have hd:=hp.d
 rcases h with⟨h,_⟩|⟨_,_,_,h⟩|⟨_,_,_,h1,⟨k,k0,k1,hk⟩,_,_⟩|⟨_,_,_,_,_,_,h⟩|⟨_,h2,h3,h4,h5⟩
 · exact absurd hP h
 · omega
 · obtain⟨j,j0,j1,_⟩:=hc k k0 Oa hk;omega
 · omega
 · rcases h5.errs (ZoJ hP h4 h3 h2) (by show 0<=p.m;omega) with h|h|h|h
   · omega
   · omega
   · omega
   · exfalso
     obtain⟨y,hy⟩:=h5.none (by show 0<=p.m;omega) h
     have:=Zgf hy (show 0<=u by omega) (show 0<=p.m by omega) (x:=fun _=>1000) (a:=1) Oa (fun j _ _=>Oa) fun i i0 i1=>by
       have hd:=UG hp i0 i1
       have hnn:∀j,0<=j->j<(u.toNat:Int)->0<=mf j i*1000:=fun j j0 j1=>by
         have:=((Uw (hP.2 j j0 Oa)).1 i i0 i1).1;omega
       show p.D i*1<=Zc (fun j=>mf j i*1000) u.toNat
       rcases Int.lt_or_le 0 (p.D i) with e|e
       · obtain⟨j,j0,j1,hj⟩:=hc i i0 i1 e
         have:=Xf (f:=fun j=>mf j i*1000) (n:=u.toNat) j0 Oa hnn
         have h9:mf j i*1000<=Zc (fun j=>mf j i*1000) u.toNat:=this
         omega
       · have:=ZY hnn;omega
     omega
theorem ColR.errs{p:Prob}{u:Int}{s:So}(hok:p.Ok)(h:ColR p u ml mf s e):(e≠0/\u=0/\(e=9\/e=2))\/e=0:=by
 rcases h with⟨h,_⟩|⟨_,he,hu,_,u1,ml1,mf1,e1,h1,h2⟩|⟨_,h,_⟩
 · exact absurd hok h
 · obtain⟨q1,q2,q3,q4⟩:=Tn hok h1
   rcases h2 with⟨h2,_⟩|⟨_,s1,h2⟩
   · exact absurd q1 h2
   · have:=Zjn q2 q3 q4 h2
     exact .inl ⟨he,hu,Oa⟩
 · exact .inr h
theorem ColR.few{p:Prob}{u e:Int}{ml:Of}{mf:Og}{s:So}(h:ColR p u ml mf s e)(he:e=0):u<=60:=by
 rcases h with⟨_,_,_,h⟩|⟨_,h,_⟩|⟨_,_,_,h1,_⟩
 · omega
 · exact absurd he h
 · exact h1.few.2.1
end Go.Proofs.YtpnamgfdakfccaaGreat
