import Derived.Test.YtkichmnjjblodaaGreatPeF
set_option linter.unusedVariables false
set_option linter.unusedSimpArgs false
set_option maxRecDepth 20000
set_option maxHeartbeats 4000000
namespace Go.Proofs.YtkichmnjjblodaaGreat
open Go Go.RowKit Go.Proofs.Gw
variable {b wi:Int}
theorem Zdy:Zc Oj 43=true:=Ob
theorem Zdq:ZV Oj 34=some (.agg #[Og,Og,.int Oh 0,.int Oh 0,.int Oh 0],5,72):=Ob
theorem fd_34_0:Zv Oj 34 0=some 0:=Ob
theorem fd_34_1:Zv Oj 34 1=some 4:=Ob
theorem YJ:ZC Oj 34=some 5:=Ob
def Yg(p:Prob)(b:Int):Prop:=p.Ok/\0<=b/\b<=1000
def ZZ(p:Prob)(b wi:Int):Prop:=Yg p b/\1<=b/\(0<=wi/\wi<p.m)/\p.D wi≠0/\(MX p wi).length<=300
noncomputable def Zr(p:Prob)(b wi:Int):Int:= @ite _ (ZZ p b wi) (Classical.propDecidable _) ((MX p wi).length:Int) 0
theorem Xc{p:Prob}(h:ZZ p b wi):Zr p b wi=(MX p wi).length:=if_pos h
theorem Vt{p:Prob}(h:¬ZZ p b wi):Zr p b wi=0:=if_neg h
theorem Ze9{p:Prob}(J:p.Ok){u:Int}{f:Of}(h:Ls p.m u f (MX p wi)){i:Int}(G:0<=i)(I:i<u):∀k,0<=k->k<p.m->0<=f i k/\f i k<=p.D k:=fun k F D=>by
 rw [h.2 i G I k F D]
 exact(Zht J (Za2 G (by have:=h.1;omega))).1.ia k F D
def Ww(p:Prob)(b n:Int)(l:Oe):Prop:=Yg p b/\2<=n/\Chk p (n-1) (fun k=>l (k+1)) (l 0)=0/\b<YZ p (n-1) (fun k=>l (k+1)) (l 0)
theorem Zau{vL vD:Value}{p:Prob}(w0:World)(h:PAt w0 vL vD p):
   Calls Oj 43 [.agg #[vL,vD,.int Oh p.b8,.int Oh p.bo,.int Oh b]].toArray w0 fun e w=>∃v,e= .returned v/\v=B (Yg p b)/\Sat w0 w []:=by
 obtain⟨O,I,hd,hd1,J,U⟩:=h.Oo
 refine zenG Tryz.func43 Tryz.ntmps43 fun w D=> ?_
 refine zsr<|zla (xbx (cs:= [_,_,_,_,_]) D) ?_;rintro _ w ⟨V,rfl,D⟩
 refine(zP)<|zlz<|(zV (xfb 0 fd_34_0))<|(zV (xlp 0 (ds:= [vL,vD,.int Oh p.b8,.int Oh p.bo]) st_32 D))<|zlc (xc0 XZ) (Yn (p:=p) w (h.below D.below)) ?_;rintro _ w ⟨rfl,F⟩
 replace D:=D.cmp F;clear F
 refine(zP)<|zlb 6 ?_ ?_<;>intro hc
 ·
  refine(zV (xfb 4 fd_34_1))<|(zV (xlb 0 pl_3 D))<|(On)<|zlb 11 ?_ ?_<;>intro hc
  ·
   refine(zV (xfb 4 fd_34_1))<|(zV (xlb 0 pl_3 D))<|(On)<|zx1<|Oi ?_
   exact⟨Zn ⟨fun G=>⟨by first|assumption|exact Oc ‹_›,Oa,G⟩,fun G=>G.2.2⟩,D.nl⟩
  iterate 3 refine zlo ?_
  refine(Om)<|zx1<|Oi ?_
  exact⟨false_B (by rintro⟨h1,h2,h3⟩;first|omega|exact absurd h1 ‹¬p.Ok›),D.nl⟩
 iterate 3 refine zlo ?_
 refine zs2 ?_
 iterate 3 refine zlo ?_
 refine(Om)<|zx1<|Oi ?_
 exact⟨false_B (by rintro⟨h1,h2,h3⟩;first|omega|exact absurd h1 ‹¬p.Ok›),D.nl⟩
theorem ZgZ{vL vD:Value}{p:Prob}{J:Value}{nl:Int}{l:Oe}(w0:World)(h:PAt w0 vL vD p)(G:IAt w0 J nl l)(I:Gw.X2 J):
   Calls Oj 16 [.agg #[vL,vD,.int Oh p.b8,.int Oh p.bo,.int Oh b],J].toArray w0 fun e w=>∃v,e= .returned v/\v=B (Ww p b nl l)/\Sat w0 w []:=by
 obtain⟨hm,Z,hd,hd1,hs,hk⟩:=h.Oo
 have ab:=G.n0;have aa:=G.n1;have I:=I
 refine zenG Tryz.func16 Tryz.ntmps16 fun w D=> ?_
 refine zsr<|zla (xbx (cs:= [_,_,_,_,_]) D) ?_;rintro _ w ⟨g1,rfl,D⟩
 refine(zP)<|zx5<|(zV (xls 0 YJ D))<|zlc (xc0 Zdy) (Zau (p:=p) (b:=b) w (h.below D.below)) ?_;rintro _ w ⟨rfl,F⟩
 replace D:=D.cmp F;clear F
 refine(Om)<|zlb 10 ?_ ?_<;>intro hc
 ·
  iterate 3 refine zlo ?_
  refine(zP)<|zlt<|zct<|zsr ?_
  refine(zP)<|zx14<|Oi ?_
  exact⟨false_B (by rintro⟨h1,W,V,U⟩;first|omega|exact absurd h1 ‹¬Yg p b›),D.nl⟩
 refine(zP)<|(zV (xln Zb G.row.cf))<|(Om)<|zlt<|Ze ?_ ?_<;>intro hc
 ·
  refine zsr<|(zP)<|zx14<|Oi ?_
  exact⟨false_B (by rintro⟨h1,W,V,U⟩;first|omega|exact absurd h1 ‹¬Yg p b›),D.nl⟩
 refine zsk<|ztn<|zsq<|zdst [0] [0] 1000 mx_ D ?_;clear D;intro w D
 refine(zDw 0 (xfb 0 fd_34_0))<|(zDl 1 (fun w D=>(xlp 0 (ds:= [vL,vD,.int Oh p.b8,.int Oh p.bo]) st_32 D)))<|(zDw 2 xmv)<|ZjS 3 rfl rfl rfl rfl (by kernel_rfl) rfl (fun w=>(YR (q:=1) rfl Zb rfl rfl rfl G.row.cf rfl Oa Oa)) ?_
 refine(zDw 4 xmv)<|(zDw 5 (xix (kk:=0) Zb G.row.cf))<|zdla 6 (fun w D=>(xlr (u:= .int Oh (l 0)) pl_3 (G.row.below D.below))) ?_
 have ac:=G.i 0
 refine zDrv 7 (xany (v:= .agg #[(XF J 1),.int Oh (l 0)]) (hr:=by have Y:=(Xb (q:=1) G.row.cf I Oa).cf;revert Y;generalize (XF J 1)=z;rintro⟨_,_,_,_,rfl,_⟩;show _=_;kernel_rfl)) ?_
 refine zdc 8 (xc0 ZjH) (ZdL (p:=p) w (h.below D.below) (show Row _ _ 1 (nl-1) (ints (fun X=>l (X+1))) from Suf.row (c:=ints l) (Xb (q:=1) G.row.cf I Oa) Oa (G.row.below D.below)) Oa) ?_;rintro _ w ⟨rfl,F⟩
 replace D:=D.cmp F;clear F
 refine⟨⟨fun _=>D,D⟩,?_⟩
 refine(zDw 9 xmv)<|(zDw 10 xex)<|(zDw 11 xex)<|(zDw 12 xas)<|(zDw 13 xas)<|zdd<|ztn<|zsr ?_
 refine(On)<|zlb 29 ?_ ?_<;>intro hc
 ·
  refine(zP)<|(zV (xfb 4 fd_34_1))<|(zV (xlb 0 pl_3 D))<|(On)<|zx1<|Oi ?_
  exact⟨Zn ⟨fun O=>⟨Oc ‹_›,Oa,Oa,O⟩,fun O=>O.2.2.2⟩,D.nl⟩
 iterate 4 refine zlo ?_
 refine(Om)<|zx1<|Oi ?_
 exact⟨false_B (by rintro⟨h1,W,V,U⟩;first|omega|exact absurd h1 ‹¬Yg p b›),D.nl⟩
end Go.Proofs.YtkichmnjjblodaaGreat
namespace Go.Proofs.YtkichmnjjblodaaGreat
open Go Go.RowKit Go.Proofs.Gw
theorem Zmy{vL vD:Value}{p:Prob}{b:Int}{vA:Value}{n:Int}{x:Oe}(w0:World)(h:PAt w0 vL vD p)(U:p.Ok)(hb:0<=b/\b<=1000)(hA:Row w0 vA 1 n (ints x))(ab:n=p.m)(hx:∀k,0<=k->k<p.m->0<=x k/\x k<=p.D k):
   Calls Oj 45 [.agg #[vL,vD,.int Oh p.b8,.int Oh p.bo,.int Oh b],vA].toArray w0 fun e w=>∃v,e= .returned v/\∃r1 r2,v= .agg #[r1,r2,.int Oh p.b8,.int Oh p.bo,.int Oh (b-1)]/\Slh r1 p.m/\Slh r2 p.d/\Sat w0 w [.own r1 1 3 p.m (ints p.L),.own r2 1 3 p.d (ints fun k=>p.D k-x k)]:=by
 subst ab
 obtain⟨hm,ag,hd,hd1,hs,hk⟩:=h.Oo
 have ae:=U.m1;have qH:=U.m2;have af:=U.d;have ad:=U.s1;have ac:=U.s2;have ai:=U.k1;have ah:=U.k2
 refine zenG Tryz.func45 Tryz.ntmps45 fun w D=> ?_
 refine zsr<|zla (xbx (cs:= [_,_,_,_,_]) D) ?_;rintro _ w ⟨g1,rfl,D⟩
 refine zla (xal (cs:= [_,_,_,_,_]) Zdq D) ?_;rintro _ w ⟨g2,rfl,D⟩
 refine zlz<|(zV (xfb 0 fd_34_0))<|(zV (xlp 0 (ds:= [vL,vD,.int Oh p.b8,.int Oh p.bo]) st_32 D))<|zla (xal (cs:= [_,_,_,_]) ZfQ D) ?_;rintro _ w ⟨g3,rfl,D⟩
 refine zle (xsw 2 st_32 D (hd:=(Za h.L.cf.one (Za h.D.cf.one (Za rfl (Za rfl Zh)))))) ?_;clear D;rintro w D
 refine zx7<|zdst [0,1,2] [0,1,2] 1000 mx_ D ?_;clear D;intro w D
 refine(zDw 0 (xfb 0 fd_32_0))<|(zDl 1 (fun w D=>(xlb 2 pl_22 D)))<|(zDw 2 (xln Zb h.L.cf))<|(zDw 4 (xfb 1 fd_32_1))<|(zDl 5 (fun w D=>(xlb 2 pl_22 D)))<|(zDw 6 (xln Zb h.D.cf))<|Xk (r:= [3,7]) ((Z1 ?_ (Z1 ?_ Xj)))
 ·
  refine zka (xmk Zb Zm D) ?_;rintro W w ⟨D,G⟩
  refine⟨⟨fun _=>D.pk [0,1,2],D.pk [0,1,2]⟩,?_⟩
  refine(zDw 8 xas)<|zda 7 (xmk Zb Zm D) ?_;rintro V w ⟨D,F⟩
  refine⟨⟨fun _=>D.pk [0,1,2],D.pk [0,1,2]⟩,?_⟩
  refine(zDw 9 xas)<|zdd<|ztn<|zsr ?_
  refine(zP)<|(zV (xfb 0 fd_32_0))<|(zV (xlb 2 pl_22 D))<|KA rfl rfl rfl (Uq 3 rfl Zb rfl rfl D rfl (h.L.below D.below) (fun _ _ _=>rfl)) ?_;rintro _ w ⟨rfl,D⟩
  refine zlz<|(zP)<|(zV (xfb 1 fd_32_1))<|(zV (xlb 2 pl_22 D))<|KA rfl rfl rfl (Uq 4 rfl Zb rfl rfl D rfl (h.D.below D.below) (fun _ _ _=>rfl)) ?_;rintro _ w ⟨rfl,D⟩
  refine zx5<|(zP)<|(zV (xln Zb hA.cf))<|(zP)<|zx6<|zlp (fun mm M w=>∃(J:Oe) (i:Int),mm=((p.m-i).toNat)/\(0<=i)/\(i<=p.m)/\(∀k,0<=k->k<p.m->J k=if k<i then p.D k-x k else p.D k)/\M= [(2,Oq g1),(4,Oq g2),(5,Oq g3),(6,W),(7,V),(28,vA),(29,.int Oh p.m),(30,.int Oh i)]/\Sat w0 w [.blk g1 [vL,vD,.int Oh p.b8,.int Oh p.bo,.int Oh b],.blk g2 [Og,Og,.int Oh 0,.int Oh 0,.int Oh 0],.blk g3 [vL,vD,.int Oh p.b8,.int Oh p.bo],.own W 1 3 p.m (ints p.L),.own V 1 3 p.d (ints J)]) ⟨p.D,0,rfl,Oa,Oa,?_,rfl,D⟩ ?_
  ·
   intro k O X;rw [if_neg Oa]
  clear D w
  rintro mm M w ⟨J,i,rfl,h0,h1,I,rfl,D⟩
  refine zsr<|(zP)<|zx7<|Ze ?_ ?_<;>intro hc
  ·
   refine zx3<|(zP)<|(zV (xix (kk:=i) Zb hA.cf))<|zlv (xlr (u:= .int Oh (x i)) pl_3 (hA.below D.below)) ?_
   have aa:=hx i h0 Oa;have Z:=U.all i h0 Oa;unfold Prob.each at Z;have Y:=I i h0 Oa;rw [if_neg Oa] at Y
   refine(Om)<|zlt<|zrg<|(Om)<|(zV (xix (kk:=i) Zb F))<|(zV (xlr (u:= .int Oh (J i)) pl_3 (D.c7 4 rfl)))<|(zP)<|(zV (Zw (r:=J i-(x i))))<|(zV (xix (kk:=i) Zb F))<|zle (xso 4 pl_3 D (Zy _ _ _)) ?_;clear D;rintro w D
   refine zx10<|(zV (Zg (r:=i+1)))<|(zP)<|zln<|zlq ⟨(upd J i (J i-(x i))),i+1,rfl,Oa,Oa,?_,rfl,D⟩
   ·
    intro k O X;unfold upd;by_cases e:k=i
    · rw [if_pos e,if_pos Oa,e];omega
    · rw [if_neg e,I k O X];by_cases e2:k<i
      · rw [if_pos e2,if_pos Oa]
      · rw [if_neg e2,if_neg Oa]
  refine zx8<|(Om)<|(zV (xfb 0 fd_32_0))<|zle (xsb 2 pl_22 D (hv:=G.one)) ?_;clear D;rintro w D
  refine(zV (xfb 1 fd_32_1))<|zle (xsb 2 pl_22 D (hv:=F.one)) ?_;clear D;rintro w D
  refine zlz<|(zV (xls 2 st_32 D))<|(zV (xfb 4 fd_34_1))<|(zV (xlb 0 pl_3 D))<|(zV (Zw (r:=b-1)))<|zlv (xany (v:= .agg #[W,V,.int Oh p.b8,.int Oh p.bo,.int Oh (b-1)]) (hr:=by obtain⟨_,_,_,_,rfl,_⟩:=G;obtain⟨_,_,_,_,rfl,_⟩:=F;kernel_rfl)) ?_
  refine zle (xsw 1 YJ D (hd:=(Za G.one (Za F.one (Za rfl (Za rfl (Za rfl Zh))))))) ?_;clear D;rintro w D
  refine zx1<|zfc 1 YJ D ⟨_,rfl,?_⟩
  replace D:=D.gi 4 rfl (d:=ints fun k=>p.D k-x k) (fun k O X=>by unfold ints;rw [I k O Oa,if_pos Oa])
  exact⟨_,_,rfl,G,F,D.pk [3,4]⟩
 refine zka (xmk Zb Zm D) ?_;rintro W w ⟨D,G⟩
 refine⟨⟨fun _=>D.pk [0,1,2],D.pk [0,1,2]⟩,?_⟩
 refine zda 3 (xmk Zb Zm D) ?_;rintro V w ⟨D,F⟩
 refine⟨⟨fun _=>D.pk [0,1,2],D.pk [0,1,2]⟩,?_⟩
 refine(zDw 8 xas)<|(zDw 9 xas)<|zdd<|ztn<|zsr ?_
 refine(zP)<|(zV (xfb 0 fd_32_0))<|(zV (xlb 2 pl_22 D))<|KA rfl rfl rfl (Uq 4 rfl Zb rfl rfl D rfl (h.L.below D.below) (fun _ _ _=>rfl)) ?_;rintro _ w ⟨rfl,D⟩
 refine zlz<|(zP)<|(zV (xfb 1 fd_32_1))<|(zV (xlb 2 pl_22 D))<|KA rfl rfl rfl (Uq 3 rfl Zb rfl rfl D rfl (h.D.below D.below) (fun _ _ _=>rfl)) ?_;rintro _ w ⟨rfl,D⟩
 refine zx5<|(zP)<|(zV (xln Zb hA.cf))<|(zP)<|zx6<|zlp (fun mm M w=>∃(J:Oe) (i:Int),mm=((p.m-i).toNat)/\(0<=i)/\(i<=p.m)/\(∀k,0<=k->k<p.m->J k=if k<i then p.D k-x k else p.D k)/\M= [(2,Oq g1),(4,Oq g2),(5,Oq g3),(6,V),(7,W),(28,vA),(29,.int Oh p.m),(30,.int Oh i)]/\Sat w0 w [.blk g1 [vL,vD,.int Oh p.b8,.int Oh p.bo,.int Oh b],.blk g2 [Og,Og,.int Oh 0,.int Oh 0,.int Oh 0],.blk g3 [vL,vD,.int Oh p.b8,.int Oh p.bo],.own W 1 3 p.d (ints J),.own V 1 3 p.m (ints p.L)]) ⟨p.D,0,rfl,Oa,Oa,?_,rfl,D⟩ ?_
 ·
  intro k O X;rw [if_neg Oa]
 clear D w
 rintro mm M w ⟨J,i,rfl,h0,h1,I,rfl,D⟩
 refine zsr<|(zP)<|zx7<|Ze ?_ ?_<;>intro hc
 ·
  refine zx3<|(zP)<|(zV (xix (kk:=i) Zb hA.cf))<|zlv (xlr (u:= .int Oh (x i)) pl_3 (hA.below D.below)) ?_
  have aa:=hx i h0 Oa;have Z:=U.all i h0 Oa;unfold Prob.each at Z;have Y:=I i h0 Oa;rw [if_neg Oa] at Y
  refine(Om)<|zlt<|zrg<|(Om)<|(zV (xix (kk:=i) Zb G))<|(zV (xlr (u:= .int Oh (J i)) pl_3 (D.c7 3 rfl)))<|(zP)<|(zV (Zw (r:=J i-(x i))))<|(zV (xix (kk:=i) Zb G))<|zle (xso 3 pl_3 D (Zy _ _ _)) ?_;clear D;rintro w D
  refine zx10<|(zV (Zg (r:=i+1)))<|(zP)<|zln<|zlq ⟨(upd J i (J i-(x i))),i+1,rfl,Oa,Oa,?_,rfl,D⟩
  ·
   intro k O X;unfold upd;by_cases e:k=i
   · rw [if_pos e,if_pos Oa,e];omega
   · rw [if_neg e,I k O X];by_cases e2:k<i
     · rw [if_pos e2,if_pos Oa]
     · rw [if_neg e2,if_neg Oa]
 refine zx8<|(Om)<|(zV (xfb 0 fd_32_0))<|zle (xsb 2 pl_22 D (hv:=F.one)) ?_;clear D;rintro w D
 refine(zV (xfb 1 fd_32_1))<|zle (xsb 2 pl_22 D (hv:=G.one)) ?_;clear D;rintro w D
 refine zlz<|(zV (xls 2 st_32 D))<|(zV (xfb 4 fd_34_1))<|(zV (xlb 0 pl_3 D))<|(zV (Zw (r:=b-1)))<|zlv (xany (v:= .agg #[V,W,.int Oh p.b8,.int Oh p.bo,.int Oh (b-1)]) (hr:=by obtain⟨_,_,_,_,rfl,_⟩:=F;obtain⟨_,_,_,_,rfl,_⟩:=G;kernel_rfl)) ?_
 refine zle (xsw 1 YJ D (hd:=(Za F.one (Za G.one (Za rfl (Za rfl (Za rfl Zh))))))) ?_;clear D;rintro w D
 refine zx1<|zfc 1 YJ D ⟨_,rfl,?_⟩
 replace D:=D.gi 3 rfl (d:=ints fun k=>p.D k-x k) (fun k O X=>by unfold ints;rw [I k O Oa,if_pos Oa])
 exact⟨_,_,rfl,F,G,D.pk [4,3]⟩
theorem ZnR:Zc Oj 44=true:=Ob
theorem ZnQ:Zc Oj 45=true:=Ob
theorem VZ:ZJ Oj 29=some (34,5):=Ob
theorem ZdE{vL vD:Value}{p:Prob}{b:Int}{wi:Int}(w0:World)(h:PAt w0 vL vD p):
   Calls Oj 13 [.agg #[vL,vD,.int Oh p.b8,.int Oh p.bo,.int Oh b],.int Oh wi].toArray w0 fun e w=>∃v,e= .returned v/\∃r vv,v= .tuple #[r,B (ZZ p b wi)]/\Slh r (Zr p b wi)/\Sat w0 w [.own r 5 34 (Zr p b wi) (Z6 vv p.b8 p.bo (b-1)),.sem (Frame.rows 3 (2*Zr p b wi) vv (fun _=>p.m) (gfn p (MX p wi)))]:=by
 obtain⟨hm,am,hd,hd1,hs,hk⟩:=h.Oo
 refine zenG Tryz.func13 Tryz.ntmps13 fun w D=> ?_
 refine zsr<|zla (xbx (cs:= [_,_,_,_,_]) D) ?_;rintro _ w ⟨F,rfl,D⟩
 refine(Om)<|zx5<|(zV (xls 0 YJ D))<|zlc (xc0 Zdy) (Zau (p:=p) (b:=b) w (h.below D.below)) ?_;rintro _ w ⟨rfl,J⟩
 replace D:=D.cmp J;clear J
 refine(Om)<|zlb 14 ?_ ?_<;>intro hc;rotate_left
 refine(zV (xfb 4 fd_34_1))<|zlv (xlb 0 pl_3 D) ?_
 have Z:Yg p b:=by first|assumption|exact Oc ‹_›
 have U:=Z.1;have af:=Z.2
 have al:=U.m1;have qH:=U.m2;have ae:=U.d;have aj:=U.s1;have ai:=U.s2;have ao:=U.k1;have an:=U.k2
 refine(On)<|zlb 19 ?_ ?_<;>intro hc;rotate_left
 refine zs4 ?_
 refine zlb 23 ?_ ?_<;>intro hc;rotate_left
 refine(zP)<|(zV (xfb 0 fd_34_0))<|(zV (xfb 0 fd_32_0))<|(zV (xlb 0 pl_22 D))<|(zV (xln Zb h.L.cf))<|(On)<|zlb 31 ?_ ?_<;>intro hc;rotate_left
 refine(zV (xfb 0 fd_34_0))<|(zV (xfb 1 fd_32_1))<|(zV (xlb 0 pl_22 D))<|(zP)<|(zV (xix (kk:=wi) Zb h.D.cf))<|zlv (xlr (u:= .int Oh (p.D wi)) pl_3 (h.D.below D.below)) ?_
 have ap:=h.iD wi
 refine(Om)<|zlt<|Ze ?_ ?_<;>intro hc
 ·
  refine zsr<|(Om)<|zx14<|zf2 ⟨_,rfl,?_⟩
  have I:¬ZZ p b wi:=by
    rintro⟨⟨W,q2,q3⟩,q4,⟨q5,q6⟩,q7,q8⟩
    first|omega|exact absurd (show Yg p b from⟨W,q2,q3⟩) ‹¬Yg p b›|(rcases aD with⟨F,_⟩|⟨_,F,_⟩|⟨_,_,F,_⟩|⟨_,_,_,F,_⟩;exact absurd W F;exact absurd ⟨q5,q6⟩ F;omega;omega)
  rw [Vt I]
  exact⟨_,(fun _=>Og),by rw [B_false I],slh_nil,((D.sub (.cons _ .slnil)).cg 5 34 (Z6 (fun _=>Og) p.b8 p.bo (b-1))).fa 3 (fun _=>Og) (fun _=>p.m) (gfn p (MX p wi))⟩
 refine ZM<|(zV (xfb 0 fd_34_0))<|(zV (xlp 0 (ds:= [vL,vD,.int Oh p.b8,.int Oh p.bo]) st_32 D))<|(zP)<|zlc (xc0 ZnR) (ZiQ (p:=p) (wi:=wi) w (h.below D.below)) ?_;rintro _ w ⟨dG,G,bt,V,aq,rfl,aD,bv,J⟩
 replace D:=(D.comp J).n3;clear J
 have fJ:∀k,0<=k->k<G->Slh (bt k) p.m:=fun k Y X=>D.db 2 rfl Y X
 refine zs5 ?_
 refine zx5<|(Om)<|zlt<|Ze ?_ ?_<;>intro hc
 ·
  refine zsr<|(Om)<|zx14<|zf2 ⟨_,rfl,?_⟩
  have I:¬ZZ p b wi:=by
    rintro⟨⟨W,q2,q3⟩,q4,⟨q5,q6⟩,q7,q8⟩
    first|omega|exact absurd (show Yg p b from⟨W,q2,q3⟩) ‹¬Yg p b›|(rcases aD with⟨F,_⟩|⟨_,F,_⟩|⟨_,_,F,_⟩|⟨_,_,_,F,_⟩;exact absurd W F;exact absurd ⟨q5,q6⟩ F;omega;omega)
  rw [Vt I]
  exact⟨_,(fun _=>Og),by rw [B_false I],slh_nil,((D.sub (.cons _ (.cons _ (.cons _ .slnil)))).cg 5 34 (Z6 (fun _=>Og) p.b8 p.bo (b-1))).fa 3 (fun _=>Og) (fun _=>p.m) (gfn p (MX p wi))⟩
 refine ZM<|(zP)<|zx5<|(zP)<|(zV (xln Zi bv))<|zlv xmv ?_
 have O:Ls p.m G V (MX p wi)/\(MX p wi).length<=300:=by rcases aD with⟨_,F,_⟩|⟨_,_,F,_⟩|⟨_,_,_,F,_⟩|⟨_,_,g2,_,F⟩;omega;omega;omega;exact⟨F,g2⟩
 have jV:=O.2
 replace O:=O.1
 have ac:=bv.n0;have ad:=O.1
 refine zx6 ?_
 replace D:=(D.cg 5 34 (Z6 (fun _=>Og) p.b8 p.bo (b-1))).fa 3 (fun _=>Og) (fun _=>p.m) (gfn p (MX p wi))
 replace D:=D.i7 4 rfl (show(0:Int)=2*0 from rfl)
 refine zlp (fun mm M w=>∃(i:Int) (vv:Int->Value) (wG:Value),mm=((G-i).toNat)/\(0<=i)/\(i<=G)/\(Slh wG i)/\M= [(2,Oq F),(4,Og),(5,.bool false),(8,wG),(49,dG),(50,.int Oh G),(51,.int Oh i)]/\Sat w0 w [.blk F [vL,vD,.int Oh p.b8,.int Oh p.bo,.int Oh b],.own dG 1 22 G bt,.sem (Frame.rows 3 G bt (fun _=>p.m) V),.own wG 5 34 i (Z6 vv p.b8 p.bo (b-1)),.sem (Frame.rows 3 (2*i) vv (fun _=>p.m) (gfn p (MX p wi)))]) ⟨0,(fun _=>Og),Og,rfl,Oa,Oa,?_,rfl,D⟩ ?_
 ·
  exact slh_nil
 clear D w
 rintro mm M w ⟨i,vv,wG,rfl,h0,h1,aa,rfl,D⟩
 have ak:∀k,0<=k->k<2*i->Slh (vv k) p.m:=fun k Y X=>D.db 4 rfl Y X
 refine zsr<|(zP)<|zx7<|Ze ?_ ?_<;>intro hc
 ·
  refine zx3<|(zV (xix (kk:=i) Zi bv))<|(zV (xlr (u:=(bt i)) pl_22 (D.c7 1 rfl)))<|(zP)<|zlt<|zrg<|(zP)<|(zV (xls 0 YJ D))<|(zP)<|zlc (xc0 ZnQ) (Zmy (p:=p) (b:=b) (x:=(V i)) w (h.below D.below) U af (show Row _ _ 1 p.m _ from(D.fq (k:=i) 2 rfl Oa Oa)) rfl (Ze9 U O h0 Oa)) ?_;rintro _ w ⟨bK,bL,rfl,dm,dp,J⟩
  replace D:=(D.comp J).n7;clear J
  refine zla (xli (n:=1) (len:=1) (pv:= [(0,.agg #[bK,bL,.int Oh p.b8,.int Oh p.bo,.int Oh (b-1)])]) (cs:= [bK,bL,.int Oh p.b8,.int Oh p.bo,.int Oh (b-1)]) (c:=Z6 (pr2 bK bL) p.b8 p.bo (b-1)) VZ Zdq D (hf:=by obtain⟨_,_,_,_,rfl,_⟩:=dm;obtain⟨_,_,_,_,rfl,_⟩:=dp;kernel_rfl)) ?_;rintro v1 w ⟨D,ah⟩
  refine zla (xap 3 (r:=i+1) VZ Zdq D (D.c7 7 rfl) (ZcC _ _ _ _ _ _ _) (h1:=fun k _ _=>Zcj (ZhQ dm.one dp.one) k)) ?_;rintro v2 w ⟨D,ab⟩
  replace D:=Sat.merge (l1:= [_,_,_,_]) (l2:= []) (l3:= [_,_]) D Oa
  replace D:=D.i7 4 rfl (show _=2*i+1 by omega)
  have qG:=fun k (Y:0<=k) (X:k<2*i+1)=>D.db 4 rfl Y X
  replace D:=Sat.merge (l1:= [_,_,_,_]) (l2:= []) (l3:= [_]) D Oa
  replace D:=D.i7 4 rfl (show _=2*i+2 by omega)
  have xd:=fun k (Y:0<=k) (X:k<2*i+2)=>D.db 4 rfl Y X
  replace D:=D.gj (vv':=(gsn (gsn vv (2*i) bK) (2*i+1) bL)) (ln':=fun _=>p.m) (f':=(gfn p (MX p wi))) 4 rfl (Zea ae h0 (O.2 i h0 Oa) _)
  replace D:=D.i7 4 rfl (show 2*i+2=2*(i+1) by omega)
  refine(zP)<|zx10<|(zV (Zg (r:=i+1)))<|zlv xmv ?_
  have O:Ls p.m G V (MX p wi)/\(MX p wi).length<=300:=by rcases aD with⟨_,F,_⟩|⟨_,_,F,_⟩|⟨_,_,_,F,_⟩|⟨_,_,g2,_,F⟩;omega;omega;omega;exact⟨F,g2⟩
  have jV:=O.2
  replace O:=O.1
  have ac:=bv.n0;have ad:=O.1
  refine zln<|zlq ⟨i+1,(gsn (gsn vv (2*i) bK) (2*i+1) bL),v2,rfl,Oa,Oa,?_,rfl,D.pk [0,1,2,3,4]⟩
  ·
   exact ab
 refine zx8<|(On)<|zx1<|zf2 ⟨_,rfl,?_⟩
 have ag:i=((MX p wi).length:Int):=by have:=O.1;omega
 have fo:ZZ p b wi:=⟨Z,Oa,Oa,Oa,by have:=O.1;omega⟩
 rw [Xc fo]
 subst ag
 exact⟨_,_,by rw [ZP fo],aa,D.pk [3,4]⟩
 all_goals
  refine zOps ?_
  refine zlt<|zct<|zsr ?_
  refine zOps ?_
  refine zx14<|zf2 ⟨_,rfl,?_⟩
  have I:¬ZZ p b wi:=by
    rintro⟨⟨W,q2,q3⟩,q4,⟨q5,q6⟩,q7,q8⟩
    first|omega|exact absurd (show Yg p b from⟨W,q2,q3⟩) ‹¬Yg p b›|(rcases aD with⟨F,_⟩|⟨_,F,_⟩|⟨_,_,F,_⟩|⟨_,_,_,F,_⟩;exact absurd W F;exact absurd ⟨q5,q6⟩ F;omega;omega)
  rw [Vt I]
  exact⟨_,(fun _=>Og),by rw [B_false I],slh_nil,((D.sub (.cons _ .slnil)).cg 5 34 (Z6 (fun _=>Og) p.b8 p.bo (b-1))).fa 3 (fun _=>Og) (fun _=>p.m) (gfn p (MX p wi))⟩
theorem Ke:ZV Oj 24=some (.agg #[Og,Og,.int Oh 0,.int Oh 0],4,64):=Ob
end Go.Proofs.YtkichmnjjblodaaGreat
namespace Go.Proofs.Gw
open Go Go.RowKit
variable {i:Int} {w:World}
inductive Tr where
  |nil
  |mk (s:Int) (vK:Value) (n:Int) (kid:Int->Tr) (vL:Value) (nl:Int) (l:Oe)
def Tr.s:Tr->Int| .nil=>0| .mk s _ _ _ _ _ _=>s
def Tr.vK:Tr->Value| .nil=> Og| .mk _ v _ _ _ _ _=>v
def Tr.n:Tr->Int| .nil=>0| .mk _ _ n _ _ _ _=>n
def Tr.gu:Tr->Int->Tr| .nil=>fun _=> .nil| .mk _ _ _ k _ _ _=>k
def Tr.vL:Tr->Value| .nil=> Og| .mk _ _ _ _ v _ _=>v
def Tr.nl:Tr->Int| .nil=>0| .mk _ _ _ _ _ n _=>n
def Tr.l:Tr->Int->Int| .nil=>fun _=>0| .mk _ _ _ _ _ _ l=>l
theorem Tr.ind{P:Tr->Prop}(h:∀t,(∀i,0<=i->i<t.n->P (t.gu i))->P t):∀t,P t
 | .nil=>h .nil fun i G F=>by have D:i<0:=F;omega
 | .mk s vK n kid vL nl l=>h (.mk s vK n kid vL nl l) fun i _ _=>Tr.ind h (kid i)
def Wg(S:Oe)(K L:Int->Value):Int->Value:=fun j=>if j%3=0 then .int Oh (S (j/3)) else if j%3=1 then K (j/3) else L (j/3)
abbrev Xd(kid:Int->Tr):Int->Value:=Wg (fun i=>(kid i).s) (fun i=>(kid i).vK) (fun i=>(kid i).vL)
theorem ZdV(S:Oe)(K L:Int->Value){q:Int}(h:q=3*i):∀(j:Nat) u, [Value.int Oh (S i),K i,L i][j]? =some u->Wg S K L (q+j)=u:=fun j u D=>by
 rcases j with _|_|_|j
 · cases D;unfold Wg;rw [if_pos Oa];congr 2;omega
 · cases D;unfold Wg;rw [if_neg Oa,if_pos Oa];congr 1;omega
 · cases D;unfold Wg;rw [if_neg Oa,if_neg Oa];congr 1;omega
 · simp at D
theorem Vw(kid:Int->Tr){q:Int}(h:q=3*i):∀(j:Nat) u, [Value.int Oh (kid i).s,(kid i).vK,(kid i).vL][j]? =some u->Xd kid (q+j)=u:=ZdV (fun i=>(kid i).s) (fun i=>(kid i).vK) (fun i=>(kid i).vL) h
theorem Zb4{S:Oe}{K L:Int->Value}(F:∀i,(K i).oneCell'=true)(D:∀i,(L i).oneCell'=true)(j:Int):(Wg S K L j).oneCell'=true:=by
 unfold Wg
 split
 · rfl
 · split
   · exact F _
   · exact D _
theorem ZcB(kid:Int->Tr)(n:Int)(t:Tr):cat (n*3) (Xd kid) (Wg (fun _=>t.s) (fun _=>t.vK) (fun _=>t.vL))=Xd (gsn kid n t):=by
 funext j
 unfold cat Xd Wg gsn
 by_cases h:j<n*3
 · have h1:j/3<n:=Oa
   simp only [if_pos h,if_pos h1]
 · have h1:¬j/3<n:=Oa
   have e:(j-n*3)%3=j%3:=Oa
   simp only [if_neg h,if_neg h1,e]
def KAt(w:World):Tr->Prop
  | .nil=>True
  | .mk s vK n kid vL nl l=>(Row w vK 3 n (Xd kid)/\56*n<=140737488351232)/\∀i,0<=i->i<n->KAt w (kid i)
def LvAt(w:World):Tr->Prop
  | .nil=>True
  | .mk s vK n kid vL nl l=>(IAt w vL nl l/\X2 vL/\(-9223372036854775808<=s/\s<=9223372036854775807))/\∀i,0<=i->i<n->LvAt w (kid i)
theorem KAt.row{t:Tr}(h:KAt w t):Row w t.vK 3 t.n (Xd t.gu):=by
 cases t with
 |nil=>exact Te _ _ _
 |mk=>exact h.1.1
theorem KAt.sub{t:Tr}(h:KAt w t)(F:0<=i)(D:i<t.n):KAt w (t.gu i):=by
 cases t with
 |nil=>exact trivial
 |mk=>exact h.2 i F D
theorem LvAt.leaf{t:Tr}(h:LvAt w t):IAt w t.vL t.nl t.l:=by
 cases t with
 |nil=>exact⟨Te _ _ _,fun k=>by show _<=(0:Int)/\(0:Int)<=_;omega⟩
 |mk=>exact h.1.1
theorem LvAt.room{t:Tr}(h:LvAt w t):X2 t.vL:=by
 cases t with
 |nil=>intro a len cap e;cases e;exact Nat.le_refl _
 |mk=>exact h.1.2.1
theorem LvAt.sub{t:Tr}(h:LvAt w t)(F:0<=i)(D:i<t.n):LvAt w (t.gu i):=by
 cases t with
 |nil=>exact trivial
 |mk=>exact h.2 i F D
theorem KAt.below{w w':World}(D:Below w.heap.size w w'):∀{t:Tr},KAt w t->KAt w' t
 | .nil,_=>trivial
 | .mk s vK n kid vL nl l,h=>⟨⟨h.1.1.below D,h.1.2⟩,fun i G F=>KAt.below D (h.2 i G F)⟩
theorem LvAt.below{w w':World}(D:Below w.heap.size w w'):∀{t:Tr},LvAt w t->LvAt w' t
 | .nil,_=>trivial
 | .mk s vK n kid vL nl l,h=>⟨⟨h.1.1.below D,h.1.2.1,h.1.2.2⟩,fun i G F=>LvAt.below D (h.2 i G F)⟩
def UC(f:Oe):Nat->Int
  |0=>1
  |k+1=>IntKind.i64.wrap (UC f k+f k)
def VO(f:Oe):Nat->Int
  |0=>0
  |k+1=>max (VO f k) (f k)
theorem RA(f:Oe)(h:0<=i):UC f (i+1).toNat=IntKind.i64.wrap (UC f i.toNat+f i):=by
 rw [show(i+1).toNat=i.toNat+1 by omega]
 simp only [UC]
 rw [show((i.toNat:Nat):Int)=i by omega]
theorem RW(f:Oe)(h:0<=i):VO f (i+1).toNat=max (VO f i.toNat) (f i):=by
 rw [show(i+1).toNat=i.toNat+1 by omega]
 simp only [VO]
 rw [show((i.toNat:Nat):Int)=i by omega]
theorem TA{f g:Oe}:∀{k:Nat},(∀i,0<=i->i<(k:Int)->f i=g i)->UC f k=UC g k
 |0,_=>rfl
 |k+1,h=>by simp only [UC];rw [TA (k:=k) fun i a b=>h i a Oa,h k Oa Oa]
theorem TO{f g:Oe}:∀{k:Nat},(∀i,0<=i->i<(k:Int)->f i=g i)->VO f k=VO g k
 |0,_=>rfl
 |k+1,h=>by simp only [VO];rw [TO (k:=k) fun i a b=>h i a Oa,h k Oa Oa]
def Tr.nodes:Tr->Int| .nil=>1| .mk _ _ n kid _ _ _=>UC (fun i=>(kid i).nodes) n.toNat
def Tr.depth:Tr->Int| .nil=>IntKind.i64.wrap (0+1)| .mk _ _ n kid _ _ _=>IntKind.i64.wrap (VO (fun i=>(kid i).depth) n.toNat+1)
theorem Tr.kn(t:Tr):t.nodes=UC (fun i=>(t.gu i).nodes) t.n.toNat:=by cases t<;>rfl
theorem Tr.ko(t:Tr):t.depth=IntKind.i64.wrap (VO (fun i=>(t.gu i).depth) t.n.toNat+1):=by cases t<;>rfl
theorem Zjp{P:Program}{L:List (Nat×Value)}{w:World}{o:Oper}{x y:Operand}{T T':TypeId}{m n:Int}(G:o.op= .binOp .add T x y T':=by exact rfl)(F:evL L x=some (.int Oh m):=by exact rfl)(D:evL L y=some (.int Oh n):=by exact rfl):Runs P L w o (.value (.int Oh (IntKind.i64.wrap (m+n)))) w:=fun ρ h=>by
 simp [execOp,G,h _ _ F,h _ _ D,go_sem,Op.intArith]
def Z0(x:Int):Prop:= -1073741824<=x/\x<=1073741824
def OkN(t:Tr):Prop:=Z0 t.s/\t.n<=100/\t.nl<=40/\(t.n=0\/t.nl=0)/\(t.n=0->t.s=0)/\∀k,0<=k->k<t.nl->Z0 (t.l k)
def Tr.ok:Tr->Prop| .nil=>OkN .nil| .mk s vK n kid vL nl l=>OkN (.mk s vK n kid vL nl l)/\∀i,0<=i->i<n->(kid i).ok
theorem Tr.kl(t:Tr):t.ok↔OkN t/\∀i,0<=i->i<t.n->(t.gu i).ok:=by
 cases t with
 |nil=>exact⟨fun h=>⟨h,fun i G F=>by have D:i<0:=F;omega⟩,fun h=>h.1⟩
 |mk=>rfl
def Xe(t:Tr):Prop:=t.ok/\t.nodes<=2000/\t.depth<=40
def Frame.all(n:Int)(F:Int->Frame):Frame where
  holds w:=(∀i,0<=i->i<n->(F i).holds w)/\∀i j,0<=i->i<n->0<=j->j<n->i≠j->∀g,(F i).has g->¬(F j).has g
  has g:=∃i,0<=i/\i<n/\(F i).has g
  keep h hk:=⟨fun i i0 i1=>(F i).keep (h.1 i i0 i1) fun g hg=>hk g ⟨i,i0,i1,hg⟩,h.2⟩
  lt h hg:=by obtain⟨i,i0,i1,hg⟩:=hg;exact(F i).lt (h.1 i i0 i1) hg
def Tr.frame(E:TypeId):Tr->Frame| .nil=>Frame.gm []| .mk s vK n kid vL nl l=>Frame.gm [.own vK 3 E n (Xd kid),.sem (Frame.all n fun i=>(kid i).frame E)]
theorem Sat.lg{w0:World}{l:List Ent}(h:Sat w0 w l)(F:Int->Frame):Sat w0 w (l++ [.sem (Frame.all 0 F)]):=by
 refine h.comp (m:= [.sem (Frame.all 0 F)]) ⟨Below.refl _ _,?_,?_,List.pairwise_singleton _ _⟩
 · intro e D;obtain rfl:=List.mem_singleton.1 D;exact⟨fun i I G=>Oa,fun i j I G=>Oa⟩
 · intro e D g J;obtain rfl:=List.mem_singleton.1 D;obtain⟨i,I,G,_⟩:=J;omega
theorem Sat.lp {w0:World} {l1 l2 l3:List Ent} {n:Int} {F:Int->Frame} {G:Frame} (h:Sat w0 w (l1++ .sem (Frame.all n F)::(l2++ .sem G::l3))) (hn:0<=n) {H:Int->Frame} (hH:∀i,0<=i->i<n->H i=F i) (hG:H n=G):Sat w0 w (l1++ .sem (Frame.all (n+1) H)::(l2++l3)):=by
 have hs:=List.pairwise_append.1 h.sep
 have X:=List.pairwise_cons.1 hs.2.1
 have W:=List.pairwise_append.1 X.2
 have aa:=List.pairwise_cons.1 W.2.1
 have hF:=h.holds (.sem (Frame.all n F)) (by simp)
 have hg:=h.holds (.sem G) (by simp)
 have ab:∀k,(∃i,0<=i/\i<n/\(F i).has k)->¬G.has k:=fun k V O=>X.1 (.sem G) (by simp) k V O
 have Z:∀i,0<=i->i<n+1->H i=F i/\i<n\/H i=G/\i=n:=fun i U i1=>by
   by_cases e:i<n
   · exact .inl ⟨hH i U e,e⟩
   · obtain rfl:i=n:=Oa
     exact .inr ⟨hG,rfl⟩
 have em:∀k,(Frame.all (n+1) H).has k->(Frame.all n F).has k\/G.has k:=fun k ⟨i,U,i1,V⟩=>by
   rcases Z i U i1 with⟨e,e1⟩|⟨e,e1⟩
   · rw [e] at V;exact .inl ⟨i,U,e1,V⟩
   · rw [e] at V;exact .inr V
 refine⟨h.below,fun e D=> ?_,fun e D g I=> ?_,List.pairwise_append.2 ⟨hs.1,List.pairwise_cons.2 ⟨fun e D g I J=> ?_,List.pairwise_append.2 ⟨W.1,aa.2,fun d hd e D=>W.2.2 d hd e (by simp [D])⟩⟩,fun d hd e D=> ?_⟩⟩
 · rcases List.mem_append.1 D with D|D
   · exact h.holds e (by simp [D])
   · rcases List.mem_cons.1 D with rfl|D
     · refine⟨fun i U i1=> ?_,fun i j U i1 j0 j1 ac k V O=> ?_⟩
       · rcases Z i U i1 with⟨e,e1⟩|⟨e,e1⟩
         · rw [e];exact hF.1 i U e1
         · rw [e];exact hg
       · rcases Z i U i1 with⟨e,e1⟩|⟨e,e1⟩<;>rcases Z j j0 j1 with⟨d,d1⟩|⟨d,d1⟩<;>rw [e] at V<;>rw [d] at O
         · exact hF.2 i j U e1 j0 d1 ac k V O
         · exact ab k ⟨i,U,e1,V⟩ O
         · exact ab k ⟨j,j0,d1,O⟩ V
         · omega
     · rcases List.mem_append.1 D with D|D
       · exact h.holds e (by simp [D])
       · exact h.holds e (by simp [D])
 · rcases List.mem_append.1 D with D|D
   · exact h.new e (by simp [D]) g I
   · rcases List.mem_cons.1 D with rfl|D
     · rcases em g I with I|I
       · exact h.new (.sem (Frame.all n F)) (by simp) g I
       · exact h.new (.sem G) (by simp) g I
     · rcases List.mem_append.1 D with D|D
       · exact h.new e (by simp [D]) g I
       · exact h.new e (by simp [D]) g I
 · rcases em g I with I|I
   · rcases List.mem_append.1 D with D|D
     · exact X.1 e (by simp [D]) g I J
     · exact X.1 e (by simp [D]) g I J
   · rcases List.mem_append.1 D with D|D
     · exact W.2.2 e D (.sem G) (by simp) g J I
     · exact aa.1 e D g I J
 · intro g Y J
   rcases List.mem_cons.1 D with rfl|D
   · rcases em g J with J|J
     · exact hs.2.2 d hd (.sem (Frame.all n F)) (by simp) g Y J
     · exact hs.2.2 d hd (.sem G) (by simp) g Y J
   · rcases List.mem_append.1 D with D|D
     · exact hs.2.2 d hd e (by simp [D]) g Y J
     · exact hs.2.2 d hd e (by simp [D]) g Y J
end Go.Proofs.Gw
namespace Go.Proofs.YtkichmnjjblodaaGreat
open Go Go.RowKit Go.Proofs.Gw
theorem Zgp:Zc Oj 100=true:=Ob
theorem Zjy:Zc Oj 99=true:=Ob
theorem Vb:ZV Oj 54=some (.agg #[.int Oh 0,Og,Og],3,56):=Ob
theorem fd_54_1:Zv Oj 54 1=some 1:=Ob
theorem Wb:ZR Oj 52=true:=Ob
theorem Xm:ZJ Oj 52=some (54,3):=Ob
theorem st_54:ZC Oj 54=some 3:=Ob
theorem ZiT:∀(t:Tr) (w0:World) (F:KAt w0 t) (J:LvAt w0 t),
   Calls Oj 99 [.agg #[.int Oh t.s,t.vK,t.vL]].toArray w0 fun e w=>∃v,e= .returned v/\v= .int Oh t.nodes/\Sat w0 w []:=by
 refine Tr.ind fun t U=> ?_
 intro w0 F J
 have hn:=F.row.cf.n0;have V:=F.row.cf.n1
 refine zenG Tryz.func99 Tryz.ntmps99 fun w D=> ?_
 refine zsr<|zla (xbx (cs:= [_,_,_]) D) ?_;rintro _ w ⟨X,rfl,D⟩
 refine(zP)<|zlz<|(zP)<|zx5<|(zV (xfb 1 fd_54_1))<|(zV (xlb 0 Wb D))<|(zV (xln Xm (F).row.cf))<|(zP)<|zx6<|zlp (fun O M w=>∃(s:Int) (i:Int),O=((t.n-i).toNat)/\(0<=i)/\(i<=t.n)/\(s=UC (fun i=>(t.gu i).nodes) i.toNat)/\M= [(2,.int Oh 0),(3,.int Oh s),(7,t.vK),(8,.int Oh t.n),(9,.int Oh i)]/\Sat w0 w [.blk X [.int Oh t.s,t.vK,t.vL]]) ⟨1,0,rfl,Oa,Oa,?_,rfl,D⟩ ?_
 ·
  rfl
 clear D w
 rintro O M w ⟨s,i,rfl,W,h1,G,rfl,D⟩
 refine zsr<|(zP)<|zx7<|Ze ?_ ?_<;>intro hc
 ·
  refine zx3<|(zV (xix (kk:=3*i) Xm (F).row.cf))<|(zV (xlw (cs:= [.int Oh ((t.gu i).s),(t.gu i).vK,(t.gu i).vL]) st_54 ((F).row.below D.below) (Vw (q:=3*i) (i:=i) _ Oa)))<|zla (xal (cs:= [_,_,_]) Vb D) ?_;rintro _ w ⟨Y,rfl,D⟩
  refine zle (xsw 1 st_54 D (hd:=(Za rfl (Za ((F).sub (i:=i) Oa Oa).row.cf.one (Za ((J).sub (i:=i) Oa Oa).leaf.row.cf.one Zh))))) ?_;clear D;rintro w D
  refine zlt<|zrg<|(zP)<|(zV (xls 1 st_54 D))<|zlc (xc0 Zjy) (U i Oa Oa w (KAt.below D.below ((F).sub (i:=i) Oa Oa)) (LvAt.below D.below ((J).sub (i:=i) Oa Oa))) ?_;rintro _ w ⟨rfl,I⟩
  replace D:=D.cmp I;clear I
  refine(zV Zjp)<|(zP)<|zx10<|(zV (Zg (r:=i+1)))<|(zP)<|zln<|zlq ⟨(IntKind.i64.wrap (s+((t.gu i).nodes))),i+1,rfl,Oa,Oa,?_,rfl,D.pk [0]⟩
  ·
   rw [RA _ W,<-G]
 refine zx8<|(Om)<|zx1<|Oi ?_
 obtain rfl:i=t.n:=Oa
 exact⟨by rw [t.kn,<-G],D.nl⟩
theorem Zi4:∀(t:Tr) (w0:World) (F:KAt w0 t) (J:LvAt w0 t),
   Calls Oj 100 [.agg #[.int Oh t.s,t.vK,t.vL]].toArray w0 fun e w=>∃v,e= .returned v/\v= .int Oh t.depth/\Sat w0 w []:=by
 refine Tr.ind fun t U=> ?_
 intro w0 F J
 have hn:=F.row.cf.n0;have V:=F.row.cf.n1
 refine zenG Tryz.func100 Tryz.ntmps100 fun w D=> ?_
 refine zsr<|zla (xbx (cs:= [_,_,_]) D) ?_;rintro _ w ⟨X,rfl,D⟩
 refine(zP)<|zlz<|(zP)<|zx5<|(zV (xfb 1 fd_54_1))<|(zV (xlb 0 Wb D))<|(zV (xln Xm (F).row.cf))<|(zP)<|zx6<|zlp (fun O M w=>∃(s:Int) (i:Int),O=((t.n-i).toNat)/\(0<=i)/\(i<=t.n)/\(s=VO (fun i=>(t.gu i).depth) i.toNat)/\M= [(2,.int Oh 0),(3,.int Oh s),(7,t.vK),(8,.int Oh t.n),(9,.int Oh i)]/\Sat w0 w [.blk X [.int Oh t.s,t.vK,t.vL]]) ⟨0,0,rfl,Oa,Oa,?_,rfl,D⟩ ?_
 ·
  rfl
 clear D w
 rintro O M w ⟨s,i,rfl,W,h1,G,rfl,D⟩
 refine zsr<|(zP)<|zx7<|Ze ?_ ?_<;>intro hc
 ·
  refine zx3<|(zV (xix (kk:=3*i) Xm (F).row.cf))<|(zV (xlw (cs:= [.int Oh ((t.gu i).s),(t.gu i).vK,(t.gu i).vL]) st_54 ((F).row.below D.below) (Vw (q:=3*i) (i:=i) _ Oa)))<|zla (xal (cs:= [_,_,_]) Vb D) ?_;rintro _ w ⟨Y,rfl,D⟩
  refine zle (xsw 1 st_54 D (hd:=(Za rfl (Za ((F).sub (i:=i) Oa Oa).row.cf.one (Za ((J).sub (i:=i) Oa Oa).leaf.row.cf.one Zh))))) ?_;clear D;rintro w D
  refine zlt<|zrg<|(zP)<|(zV (xls 1 st_54 D))<|zlc (xc0 Zgp) (U i Oa Oa w (KAt.below D.below ((F).sub (i:=i) Oa Oa)) (LvAt.below D.below ((J).sub (i:=i) Oa Oa))) ?_;rintro _ w ⟨rfl,I⟩
  replace D:=D.cmp I;clear I
  refine(zV (KE (r:=(max s ((t.gu i).depth)))))<|(zP)<|zx10<|(zV (Zg (r:=i+1)))<|(zP)<|zln<|zlq ⟨(max s ((t.gu i).depth)),i+1,rfl,Oa,Oa,?_,rfl,D.pk [0]⟩
  ·
   rw [RW _ W,<-G]
 refine zx8<|(zP)<|(zV Zjp)<|(zP)<|zx1<|Oi ?_
 obtain rfl:i=t.n:=Oa
 exact⟨by rw [t.ko,<-G],D.nl⟩
theorem Zf8:Zc Oj 175=true:=Ob
theorem Zlu:Zc Oj 176=true:=Ob
theorem fd_54_0:Zv Oj 54 0=some 0:=Ob
theorem fd_54_2:Zv Oj 54 2=some 2:=Ob
theorem Km{x:Int}(w0:World):
   Calls Oj 175 [.int Oh x].toArray w0 fun e w=>∃v,e= .returned v/\v=B (Z0 x)/\Sat w0 w []:=by
 refine zenG Tryz.func175 Tryz.ntmps175 fun w D=> ?_
 refine zsr<|(zP)<|zlz<|(On)<|zlb 5 ?_ ?_<;>intro hc
 ·
  refine zs4 ?_
  refine zx1<|Oi ?_
  exact⟨Zn (by unfold Z0;omega),D⟩
 refine(zO)<|(zO)<|(Om)<|zx1<|Oi ?_
 exact⟨false_B (by unfold Z0;omega),D⟩
theorem Zmt{x:Int}(w0:World):
   Calls Oj 176 [.int Oh x].toArray w0 fun e w=>∃v,e= .returned v/\v=B (¬Z0 x)/\Sat w0 w []:=by
 refine zenG Tryz.func176 Tryz.ntmps176 fun w F=> ?_
 refine zsr<|(zP)<|zlz<|(zP)<|zlc (xc0 Zf8) (Km (x:=x) w) ?_;rintro _ w ⟨rfl,D⟩
 replace F:=F.cmp D;clear D
 refine(Om)<|zx1<|Oi ?_
 exact⟨rfl,F⟩
theorem Zmz{v:Value}{n:Int}{f:Oe}(w0:World)(G:Row w0 v 1 n (ints f)):
   Calls Oj 159 [v,.func (.func 176) #[] #[]].toArray w0 fun e w=>∃v,e= .returned v/\∃r:Int,v= .int Oh r/\((r= -1/\∀k,0<=k->k<n->¬(¬Z0 (f k)))\/(0<=r/\r<n/\(¬Z0 (f r))))/\Sat w0 w []:=by
 have hn:=G.cf.n0;have W:=G.cf.n1
 refine zenG Tryz.func159 Tryz.ntmps159 fun w D=> ?_
 refine zsr<|(zP)<|zx5<|(zP)<|(zV (xln Zb G.cf))<|(zP)<|zx6<|zlp (fun V M w=>∃(i:Int),V=((n-i).toNat)/\(0<=i)/\(i<=n)/\(∀k,0<=k->k<i->¬(¬Z0 (f k)))/\M= [(0,v),(1,.func (.func 176) #[] #[]),(7,.int Oh n),(8,.int Oh i)]/\Sat w0 w []) ⟨0,rfl,Oa,Oa,?_,rfl,D⟩ ?_
 ·
  intro k O h1;omega
 clear D w
 rintro V M w ⟨i,rfl,O,h1,U,rfl,D⟩
 refine zsr<|(zP)<|zx7<|Ze ?_ ?_<;>intro hc
 ·
  refine zx3<|(Om)<|zlz<|(On)<|(zV (xix (kk:=i) Zb G.cf))<|(zV (xlr (u:= .int Oh (f i)) pl_3 (G.below D.below)))<|zlc (xc0 Zlu) (Zmt (x:=(f i)) w) ?_;rintro _ w ⟨rfl,F⟩
  replace D:=D.cmp F;clear F
  refine zlt<|Ze ?_ ?_<;>intro hc
  ·
   refine zsr<|(Om)<|zx2<|Oi ?_
   exact⟨i,rfl,.inr ⟨by omega,Oa,‹¬Z0 (f i)›⟩,D⟩
  refine zx4<|(zV (Zg (r:=i+1)))<|(zP)<|zln<|zlq ⟨i+1,rfl,Oa,Oa,?_,rfl,D⟩
  ·
   intro k J X;rcases Int.lt_or_eq_of_le (show k<=i by omega) with I|I;exact U k J I;rw [I];assumption
 refine zx8<|(zP)<|zx1<|Oi ?_
 exact⟨-1,rfl,.inl ⟨rfl,fun k O h1=>U k O Oa⟩,D⟩
theorem ZmN{v:Value}{n:Int}{f:Oe}(w0:World)(I:Row w0 v 1 n (ints f)):
   Calls Oj 151 [v,.func (.func 176) #[] #[]].toArray w0 fun e w=>∃v,e= .returned v/\v=B (∃k,0<=k/\k<n/\¬Z0 (f k))/\Sat w0 w []:=by
 refine zenG Tryz.func151 Tryz.ntmps151 fun w F=> ?_
 refine zsr<|(zP)<|zlz<|(Om)<|zlc (xc0 Vc) (Zmz (n:=n) (f:=f) w (I.below F.below)) ?_;rintro _ w ⟨V,rfl,G,D⟩
 replace F:=F.cmp D;clear D
 refine(Om)<|zx1<|Oi ?_
 exact⟨Zn (by
  rcases G with⟨h1,h2⟩|⟨h1,h2,h3⟩
  · exact⟨fun h=>Oa,fun⟨k,U,O,J⟩=>absurd J (h2 k U O)⟩
  · exact⟨fun _=>⟨_,h1,h2,h3⟩,fun _=>h1⟩),F⟩
theorem Zms{t:Tr}(w0:World)(hK:KAt w0 t)(W:LvAt w0 t):
   Calls Oj 138 [.agg #[.int Oh t.s,t.vK,t.vL]].toArray w0 fun e w=>∃v,e= .returned v/\v=B (OkN t)/\Sat w0 w []:=by
 have hn:=hK.row.cf.n0;have aa:=hK.row.cf.n1;have hln:=W.leaf.row.cf.n0;have aP:=W.leaf.row.cf.n1
 refine zenG Tryz.func138 Tryz.ntmps138 fun w D=> ?_
 refine zsr<|zla (xbx (cs:= [_,_,_]) D) ?_;rintro _ w ⟨g1,rfl,D⟩
 refine(zP)<|zx5<|(zV (xfb 1 fd_54_1))<|(zV (xlb 0 Wb D))<|(zV (xln Xm (hK).row.cf))<|(zP)<|zlt<|Ze ?_ ?_<;>intro hc
 ·
  refine zsr<|(zV (xfb 2 fd_54_2))<|(zV (xlb 0 pl_22 D))<|(zV (xln Zb (W).leaf.row.cf))<|(Om)<|zlb 11 ?_ ?_<;>intro hc
  ·
   refine(zV (xfb 1 fd_54_1))<|(zV (xlb 0 Wb D))<|(zV (xln Xm (hK).row.cf))<|(On)<|zlb 17 ?_ ?_<;>intro hc
   ·
    refine(zV (xfb 0 fd_54_0))<|(zV (xlb 0 pl_3 D))<|zlc (xc0 Zf8) (Km (x:=t.s) w) ?_;rintro _ w ⟨rfl,J⟩
    replace D:=D.cmp J;clear J
    refine(Om)<|zx14<|Oi ?_
    exact⟨Zn ⟨fun V=>⟨by first|assumption|(unfold Z0;omega),Oa,Oa,Oa,fun h0=>Oa,fun k G F=>by first|omega|exact Classical.byContradiction fun h9=>absurd (show∃k,0<=k/\k<t.nl/\¬Z0 (t.l k) from⟨k,G,F,h9⟩) (by assumption)⟩,fun V=>by obtain⟨h1,Z,Y,X,U,O⟩:=V;first|exact h1|exact fun⟨k,G,F,I⟩=>I (O k G F)|omega⟩,D.nl⟩
   iterate 3 refine zlo ?_
   refine(Om)<|zx14<|Oi ?_
   exact⟨false_B (by rintro⟨h1,Z,Y,X,U,O⟩;first|omega|(have:=U Oa;omega)|exact absurd h1 ‹¬Z0 t.s›|(obtain⟨k,G,F,I⟩:=‹∃k,0<=k/\k<t.nl/\¬Z0 (t.l k)›;exact I (O k G F))),D.nl⟩
  iterate 4 refine zlo ?_
  refine zs2 ?_
  iterate 3 refine zlo ?_
  refine(Om)<|zx14<|Oi ?_
  exact⟨false_B (by rintro⟨h1,Z,Y,X,U,O⟩;first|omega|(have:=U Oa;omega)|exact absurd h1 ‹¬Z0 t.s›|(obtain⟨k,G,F,I⟩:=‹∃k,0<=k/\k<t.nl/\¬Z0 (t.l k)›;exact I (O k G F))),D.nl⟩
 refine ZM<|(zV (xfb 0 fd_54_0))<|(zV (xlb 0 pl_3 D))<|(Om)<|zlb 25 ?_ ?_<;>intro hc
 ·
  refine(zV (xfb 2 fd_54_2))<|(zV (xlb 0 pl_22 D))<|(zV (xln Zb (W).leaf.row.cf))<|(On)<|zlb 31 ?_ ?_<;>intro hc
  ·
   refine(zV (xfb 2 fd_54_2))<|(zV (xlb 0 pl_22 D))<|zlc (xc0 Vd) (ZmN (n:=t.nl) (f:=t.l) w ((W).leaf.row.below D.below)) ?_;rintro _ w ⟨rfl,J⟩
   replace D:=D.cmp J;clear J
   refine(On)<|zx1<|Oi ?_
   exact⟨Zn ⟨fun V=>⟨by first|assumption|(unfold Z0;omega),Oa,Oa,Oa,fun h0=>Oa,fun k G F=>by first|omega|exact Classical.byContradiction fun h9=>absurd (show∃k,0<=k/\k<t.nl/\¬Z0 (t.l k) from⟨k,G,F,h9⟩) (by assumption)⟩,fun V=>by obtain⟨h1,Z,Y,X,U,O⟩:=V;first|exact h1|exact fun⟨k,G,F,I⟩=>I (O k G F)|omega⟩,D.nl⟩
  iterate 4 refine zlo ?_
  refine(Om)<|zx1<|Oi ?_
  exact⟨false_B (by rintro⟨h1,Z,Y,X,U,O⟩;first|omega|(have:=U Oa;omega)|exact absurd h1 ‹¬Z0 t.s›|(obtain⟨k,G,F,I⟩:=‹∃k,0<=k/\k<t.nl/\¬Z0 (t.l k)›;exact I (O k G F))),D.nl⟩
 iterate 4 refine zlo ?_
 refine zs2 ?_
 iterate 4 refine zlo ?_
 refine(Om)<|zx1<|Oi ?_
 exact⟨false_B (by rintro⟨h1,Z,Y,X,U,O⟩;first|omega|(have:=U Oa;omega)|exact absurd h1 ‹¬Z0 t.s›|(obtain⟨k,G,F,I⟩:=‹∃k,0<=k/\k<t.nl/\¬Z0 (t.l k)›;exact I (O k G F))),D.nl⟩
theorem Zgo:Zc Oj 101=true:=Ob
theorem ZlV:Zc Oj 138=true:=Ob
theorem ZlU:Zc Oj 139=true:=Ob
theorem ZlT:Zc Oj 140=true:=Ob
theorem Zlt:Zc Oj 177=true:=Ob
theorem Zoi{t:Tr}(w0:World)(J:KAt w0 t)(I:LvAt w0 t)(G:∀(w0:World),KAt w0 t->LvAt w0 t->Calls Oj 101 [.agg #[.int Oh t.s,t.vK,t.vL]].toArray w0 fun e w=>∃v,e= .returned v/\v=B t.ok/\Sat w0 w []):
   Calls Oj 140 [.agg #[.int Oh t.s,t.vK,t.vL]].toArray w0 fun e w=>∃v,e= .returned v/\v=B (¬t.ok)/\Sat w0 w []:=by
 refine zenG Tryz.func140 Tryz.ntmps140 fun w D=> ?_
 refine zsr<|zla (xbx (cs:= [_,_,_]) D) ?_;rintro _ w ⟨O,rfl,D⟩
 refine(zP)<|zlz<|(zV (xls 0 st_54 D))<|zlc (xc0 Zgo) (G w (KAt.below D.below (J)) (LvAt.below D.below (I))) ?_;rintro _ w ⟨rfl,F⟩
 replace D:=D.cmp F;clear F
 refine(Om)<|zx1<|Oi ?_
 exact⟨rfl,D.nl⟩
theorem ZmG{t:Tr}(w0:World)(F:KAt w0 t)(O:LvAt w0 t)(I:∀i,0<=i->i<t.n->∀(w0:World),KAt w0 (t.gu i)->LvAt w0 (t.gu i)->Calls Oj 101 [.agg #[.int Oh (t.gu i).s,(t.gu i).vK,(t.gu i).vL]].toArray w0 fun e w=>∃v,e= .returned v/\v=B (t.gu i).ok/\Sat w0 w []):
   Calls Oj 177 [t.vK,.func (.func 140) #[] #[]].toArray w0 fun e w=>∃v,e= .returned v/\∃r:Int,v= .int Oh r/\((r= -1/\∀k,0<=k->k<t.n->(t.gu k).ok)\/(0<=r/\r<t.n/\¬(t.gu r).ok))/\Sat w0 w []:=by
 have hn:=F.row.cf.n0;have Y:=F.row.cf.n1;have hln:=O.leaf.row.cf.n0;have aP:=O.leaf.row.cf.n1
 refine zenG Tryz.func177 Tryz.ntmps177 fun w D=> ?_
 refine zsr<|(zP)<|zx5<|(zP)<|(zV (xln Xm (F).row.cf))<|(zP)<|zx6<|zlp (fun W M w=>∃(i:Int),W=((t.n-i).toNat)/\(0<=i)/\(i<=t.n)/\(∀k,0<=k->k<i->(t.gu k).ok)/\M= [(0,t.vK),(1,.func (.func 140) #[] #[]),(7,.int Oh t.n),(8,.int Oh i)]/\Sat w0 w []) ⟨0,rfl,Oa,Oa,?_,rfl,D⟩ ?_
 ·
  intro k U h1;omega
 clear D w
 rintro W M w ⟨i,rfl,U,h1,V,rfl,D⟩
 refine zsr<|(zP)<|zx7<|Ze ?_ ?_<;>intro hc
 ·
  refine zx3<|(Om)<|zlz<|(On)<|(zV (xix (kk:=3*i) Xm (F).row.cf))<|(zV (xlw (cs:= [.int Oh ((t.gu i).s),(t.gu i).vK,(t.gu i).vL]) st_54 ((F).row.below D.below) (Vw (q:=3*i) (i:=i) _ Oa)))<|zlc (xc0 ZlT) (Zoi (t:=(t.gu i)) w (KAt.below D.below ((F).sub (i:=i) Oa Oa)) (LvAt.below D.below ((O).sub (i:=i) Oa Oa)) (I i Oa Oa)) ?_;rintro _ w ⟨rfl,G⟩
  replace D:=D.cmp G;clear G
  refine zlt<|Ze ?_ ?_<;>intro hc
  ·
   refine zsr<|(Om)<|zx2<|Oi ?_
   exact⟨i,rfl,.inr ⟨by omega,Oa,‹¬(t.gu i).ok›⟩,D⟩
  refine zx4<|(zV (Zg (r:=i+1)))<|(zP)<|zln<|zlq ⟨i+1,rfl,Oa,Oa,?_,rfl,D⟩
  ·
   intro k X Z;rcases Int.lt_or_eq_of_le (show k<=i by omega) with J|J
   · exact V k X J
   · rw [J];exact Oc ‹_›
 refine zx8<|(zP)<|zx1<|Oi ?_
 exact⟨-1,rfl,.inl ⟨rfl,fun k U h1=>V k U Oa⟩,D⟩
theorem ZmR{t:Tr}(w0:World)(O:KAt w0 t)(J:LvAt w0 t)(G:∀i,0<=i->i<t.n->∀(w0:World),KAt w0 (t.gu i)->LvAt w0 (t.gu i)->Calls Oj 101 [.agg #[.int Oh (t.gu i).s,(t.gu i).vK,(t.gu i).vL]].toArray w0 fun e w=>∃v,e= .returned v/\v=B (t.gu i).ok/\Sat w0 w []):
   Calls Oj 139 [t.vK,.func (.func 140) #[] #[]].toArray w0 fun e w=>∃v,e= .returned v/\v=B (∃k,0<=k/\k<t.n/\¬(t.gu k).ok)/\Sat w0 w []:=by
 refine zenG Tryz.func139 Tryz.ntmps139 fun w F=> ?_
 refine zsr<|(zP)<|zlz<|(Om)<|zlc (xc0 Zlt) (ZmG (t:=t) w (KAt.below F.below (O)) (LvAt.below F.below (J)) G) ?_;rintro _ w ⟨X,rfl,I,D⟩
 replace F:=F.cmp D;clear D
 refine(Om)<|zx1<|Oi ?_
 exact⟨Zn (by
  rcases I with⟨h1,h2⟩|⟨h1,h2,h3⟩
  · exact⟨fun h=>Oa,fun⟨k,W,V,U⟩=>absurd (h2 k W V) U⟩
  · exact⟨fun _=>⟨_,h1,h2,h3⟩,fun _=>h1⟩),F⟩
theorem Zje:∀(t:Tr) (w0:World) (V:KAt w0 t) (U:LvAt w0 t),
   Calls Oj 101 [.agg #[.int Oh t.s,t.vK,t.vL]].toArray w0 fun e w=>∃v,e= .returned v/\v=B t.ok/\Sat w0 w []:=by
 refine Tr.ind fun t W=> ?_
 intro w0 V U
 refine zenG Tryz.func101 Tryz.ntmps101 fun w D=> ?_
 refine zsr<|zla (xbx (cs:= [_,_,_]) D) ?_;rintro _ w ⟨Z,rfl,D⟩
 refine(zP)<|zlz<|(zV (xls 0 st_54 D))<|zlc (xc0 ZlV) (Zms (t:=t) w (KAt.below D.below (V)) (LvAt.below D.below (U))) ?_;rintro _ w ⟨rfl,F⟩
 replace D:=D.cmp F;clear F
 refine(zP)<|zlb 5 ?_ ?_<;>intro hc
 ·
  refine(zV (xfb 1 fd_54_1))<|(zV (xlb 0 Wb D))<|zlc (xc0 ZlU) (ZmR (t:=t) w (KAt.below D.below (V)) (LvAt.below D.below (U)) W) ?_;rintro _ w ⟨rfl,F⟩
  replace D:=D.cmp F;clear F
  refine(On)<|zx1<|Oi ?_
  exact⟨Zn (by rw [t.kl];exact⟨fun O=>⟨‹OkN t›,fun k I G=>Classical.byContradiction fun X=>O ⟨k,I,G,X⟩⟩,fun O ⟨k,I,G,J⟩=>J (O.2 k I G)⟩),D.nl⟩
 iterate 4 refine zlo ?_
 refine(Om)<|zx1<|Oi ?_
 exact⟨false_B (by rw [t.kl];rintro⟨h1,Y⟩;first|exact absurd h1 ‹¬OkN t›|(obtain⟨k,I,G,J⟩:=‹∃k,0<=k/\k<t.n/\¬(t.gu k).ok›;exact J (Y k I G))),D.nl⟩
theorem Kk{t:Tr}(w0:World)(J:KAt w0 t)(I:LvAt w0 t):
   Calls Oj 68 [.agg #[.int Oh t.s,t.vK,t.vL]].toArray w0 fun e w=>∃v,e= .returned v/\v=B (Xe t)/\Sat w0 w []:=by
 refine zenG Tryz.func68 Tryz.ntmps68 fun w D=> ?_
 refine zsr<|zla (xbx (cs:= [_,_,_]) D) ?_;rintro _ w ⟨V,rfl,D⟩
 refine(zP)<|zlz<|(zV (xls 0 st_54 D))<|zlc (xc0 Zjy) (ZiT t w (KAt.below D.below (J)) (LvAt.below D.below (I))) ?_;rintro _ w ⟨rfl,F⟩
 replace D:=D.cmp F;clear F
 refine(Om)<|zlb 6 ?_ ?_<;>intro hc
 ·
  refine(zV (xls 0 st_54 D))<|zlc (xc0 Zgp) (Zi4 t w (KAt.below D.below (J)) (LvAt.below D.below (I))) ?_;rintro _ w ⟨rfl,F⟩
  replace D:=D.cmp F;clear F
  refine(On)<|zlb 11 ?_ ?_<;>intro hc
  ·
   refine(zV (xls 0 st_54 D))<|zlc (xc0 Zgo) (Zje t w (KAt.below D.below (J)) (LvAt.below D.below (I))) ?_;rintro _ w ⟨rfl,F⟩
   replace D:=D.cmp F;clear F
   refine(Om)<|zx1<|Oi ?_
   exact⟨Zn ⟨fun G=>⟨by first|exact G|assumption,Oa,Oa⟩,fun G=>by obtain⟨h1,U,O⟩:=G;first|exact h1|omega⟩,D.nl⟩
  refine(zO)<|(zO)<|(Om)<|zx1<|Oi ?_
  exact⟨false_B (by rintro⟨h1,U,O⟩;first|omega|exact absurd h1 ‹¬t.ok›),D.nl⟩
 iterate 3 refine zlo ?_
 refine(Om)<|(zO)<|zlo ?_
 refine(Om)<|zx1<|Oi ?_
 exact⟨false_B (by rintro⟨h1,U,O⟩;first|omega|exact absurd h1 ‹¬t.ok›),D.nl⟩
variable {b i:Int} {f:Oe}
noncomputable def Yc(p:Prob)(wi i:Int):Prob:=p.with fun j=>p.D j-YO (MX p wi) i j
def fw (f:Int->Option (List Int)):Nat->Int->Option (List Int)
  |0,_=>none
  | c+1,i=>match f i with
    |some l=>some (i::l)
    |none=>fw f c (i+1)
theorem Zkc{f:Int->Option (List Int)}{n:Int}(h:n<=i):fw f (n-i).toNat i=none:=by rw [show(n-i).toNat=0 by omega];rfl
theorem Zno{f:Int->Option (List Int)}{n:Int}(h:i<n)(hf:f i=none):fw f (n-i).toNat i=fw f (n-(i+1)).toNat (i+1):=by
 rw [show(n-i).toNat=(n-(i+1)).toNat+1 by omega]
 show(match f i with
   |some l=>some (i::l)
   |none=>fw f (n-(i+1)).toNat (i+1))=_
 rw [hf]
theorem Zkb{f:Int->Option (List Int)}{n:Int}{l:List Int}(h:i<n)(hf:f i=some l):fw f (n-i).toNat i=some (i::l):=by
 rw [show(n-i).toNat=(n-(i+1)).toNat+1 by omega]
 show(match f i with
   |some l=>some (i::l)
   |none=>fw f (n-(i+1)).toNat (i+1))=_
 rw [hf]
theorem Zdf{f:Int->Option (List Int)}:∀{c:Nat} {i:Int},fw f c i=none->∀k,i<=k->k<i+c->f k=none
 |0,i,_,k,h1,h2=>Oa
 | c +1,i,h,k,h1,h2=>by
   unfold fw at h
   cases hf:f i with
   |some m=>rw [hf] at h;cases h
   | none=>
     rw [hf] at h
     by_cases e:k=i
     · rw [e];exact hf
     · exact Zdf h k Oa Oa
noncomputable def wrT:Tr->Prob->Int->Option (List Int)
  | .nil,p,b=> @ite _ (Ww p b 0 (fun _=>0)) (Classical.propDecidable _) none (some [])
  | .mk s vK n kid vL nl l,p,b=>if n=0 then @ite _ (Ww p b nl l) (Classical.propDecidable _) none (some []) else
    @ite _ (ZZ p b s/\Zr p b s=n) (Classical.propDecidable _) (fw (fun i=>wrT (kid i) (Yc p s i) (b-1)) n.toNat 0) (some [])
theorem ZcQ{t:Tr}{p:Prob}(h:t.n=0):wrT t p b= @ite _ (Ww p b t.nl t.l) (Classical.propDecidable _) none (some []):=by
 cases t with
 |nil=>rfl
 |mk s vK n kid vL nl l=>exact if_pos h
theorem X7{t:Tr}{p:Prob}(h:t.n=0)(D:Ww p b t.nl t.l):wrT t p b=none:=by rw [ZcQ h,if_pos D]
theorem VF{t:Tr}{p:Prob}(h:t.n=0)(D:¬Ww p b t.nl t.l):wrT t p b=some []:=by rw [ZcQ h,if_neg D]
noncomputable def Zib(t:Tr)(p:Prob)(b:Int)(i:Int):Option (List Int):=wrT (t.gu i) (Yc p t.s i) (b-1)
theorem KF{t:Tr}{p:Prob}(h:t.n≠0)(D:ZZ p b t.s)(hn:Zr p b t.s=t.n):wrT t p b=fw (Zib t p b) (t.n-0).toNat 0:=by
 cases t with
 |nil=>exact absurd rfl h
 | mk s vK n kid vL nl l=>
   have F:n≠0:=h
   show(if n=0 then _ else _)=_
   rw [if_neg F,if_pos (show ZZ p b s/\Zr p b s=n from⟨D,hn⟩),Int.sub_zero]
   rfl
theorem ZbY{t:Tr}{p:Prob}(h:t.n≠0)(D:¬(ZZ p b t.s/\Zr p b t.s=t.n)):wrT t p b=some []:=by
 cases t with
 |nil=>exact absurd rfl h
 | mk s vK n kid vL nl l=>
   have F:n≠0:=h
   show(if n=0 then _ else _)=_
   rw [if_neg F,if_neg (show¬(ZZ p b s/\Zr p b s=n) from D)]
def IsL(q:Int)(f:Oe)(l:List Int):Prop:=q=l.length/\∀k,0<=k->k<q->f k=l.getD k.toNat 0
theorem IsL.nil:IsL 0 f []:=⟨rfl,fun k D h1=>Oa⟩
theorem IsL.snoc{q i:Int}{f:Oe}{l:List Int}(h:IsL q f l):IsL (q+1) (Gw.snoc f q i) (l++ [i]):=by
 obtain⟨h1,F⟩:=h
 refine⟨by simp [h1],fun k D G=> ?_⟩
 by_cases e:k<q
 · rw [Zl e,F k D e,List.getD_eq_getElem?_getD,List.getD_eq_getElem?_getD,List.getElem?_append_left Oa]
 · rw [Zk e,show k.toNat=l.length by omega,List.getD_eq_getElem?_getD,List.getElem?_append_right (Nat.le_refl _)];simp
theorem IsL.init{q:Int}{l:List Int}(h:IsL q f (l++ [i])):IsL (q-1) f l:=by
 obtain⟨h1,F⟩:=h
 rw [List.length_append,List.length_singleton] at h1
 refine⟨by omega,fun k D G=> ?_⟩
 rw [F k D Oa,List.getD_eq_getElem?_getD,List.getD_eq_getElem?_getD,List.getElem?_append_left Oa]
theorem Ub{p:Prob}{wi:Int}(D:ZZ p b wi)(G:0<=i)(F:i<Zr p b wi):MPat p wi (YO (MX p wi) i)/\1<=YO (MX p wi) i wi:=by
 rw [Xc D] at F
 obtain⟨h1,I⟩:=Zht D.1.1 (Za2 G F)
 exact⟨h1,I D.2.2.1.1 D.2.2.1.2⟩
theorem K0{w w':World}{vL vD:Value}{p:Prob}{wi:Int}{vv:Int->Value}(G:ZZ p b wi)(h:PAt w' vL vD p)(D:Row w (vv (2*i)) 1 p.m (ints (gfn p (MX p wi) (2*i))))(F:Row w (vv (2*i+1)) 1 p.m (ints (gfn p (MX p wi) (2*i+1))))(U:0<=i)(O:i<Zr p b wi):PAt w (vv (2*i)) (vv (2*i+1)) (Yc p wi i):=by
 have I:=G.1.1
 rw [Znn p _ (i:=i) rfl] at D
 rw [Zka p _ (i:=i) rfl] at F
 refine⟨D,?_,h.iL,fun k=> ?_,h.is,h.ik⟩
 · show Row w _ 1 p.d _
   rw [I.d];exact F
 · obtain⟨J,_⟩:=Ub G U O
   show _<=p.D k-YO (MX p wi) i k/\p.D k-YO (MX p wi) i k<=_
   by_cases hk:0<=k/\k<p.m
   · have h1:=J.ia k hk.1 hk.2
     have V:=I.all k hk.1 hk.2
     unfold Prob.each at V
     omega
   · rw [J.zero k Oa]
     have:=h.iD k
     omega
def Ki(i:Int)(f:Oe):Oe:=fun k=>if k<1 then i else f (k-1)
theorem Zej(i:Int)(f:Oe):cat ((1:Int)*(1:Nat)) (ints fun _=>i) (ints f)=ints (Ki i f):=by
 funext j;simp only [cat,ints,Ki];split<;>split<;>first|rfl|omega
theorem Znb{t:Tr}{p:Prob}(h:t.n=0):wrT t p b≠none↔¬Ww p b t.nl t.l:=by
 by_cases hl:Ww p b t.nl t.l
 · rw [X7 h hl];exact⟨fun h=>absurd rfl h,fun h=>absurd hl h⟩
 · rw [VF h hl];exact⟨fun _=>hl,fun _=>Option.some_ne_none _⟩
theorem ZjU{t:Tr}{p:Prob}(h:t.n=0):(wrT t p b).getD []= []:=by
 by_cases hl:Ww p b t.nl t.l
 · rw [X7 h hl];rfl
 · rw [VF h hl];rfl
end Go.Proofs.YtkichmnjjblodaaGreat
namespace Go.Proofs.YtkichmnjjblodaaGreat
open Go Go.RowKit Go.Proofs.Gw
theorem ZjL:Zc Oj 13=true:=Ob
theorem ZjK:Zc Oj 16=true:=Ob
theorem ZjA:Zc Oj 81=true:=Ob
theorem Zb9:ZR Oj 137=true:=Ob
theorem Znf:ZR Oj 31=true:=Ob
theorem Zne:ZR Oj 39=true:=Ob
theorem Uy{E:TypeId}{n:Int}{vv:Int->Value}{ln:Oe}{f:Of}{w:World}{l:List Ent}(h:(Frame.gm l).holds w)(i:Nat)(hi:l[i]? =some (.sem (Frame.rows E n vv ln f))){k:Int}(F:0<=k)(D:k<n):Row w (vv k) 1 (ln k) (ints (f k)):=((h.1 _ (List.mem_of_getElem? hi)).1 k F D).row
theorem ZdN{w:World}{l:List Ent}{F:Gw.Frame}(h:(Frame.gm l).holds w)(i:Nat)(hi:l[i]? =some (.sem F)):F.holds w:=h.1 _ (List.mem_of_getElem? hi)
theorem Zod:∀(t:Tr) {F:Gw.Frame} {vL vD:Value} {p:Prob} {b:Int} {Y gs gp W:Nat} {vp:Value} {q:Int} {f:Oe} {pre:List Int} (w0 w:World) (D:Sat w0 w [.blk Y [.func (.func 16) #[] #[]],.blk gs [.func (.func 13) #[] #[]],.blk gp [vp],.blk W [.func (.func 81) #[] #[Oq Y,Oq gs,Oq gp,Oq W]],.sem (Frame.dq 3 vp q f),.sem F]) (hP:∀w1,Below w0.heap.size w0 w1->F.holds w1->PAt w1 vL vD p) (U:KAt w0 t) (hV:LvAt w0 t) (hv:Slh vp q) (hI:IsL q f pre) (hq:q+b<=1001),
   Calls Oj 81 [.agg #[vL,vD,.int Oh p.b8,.int Oh p.bo,.int Oh b],.agg #[.int Oh t.s,t.vK,t.vL],Oq Y,Oq gs,Oq gp,Oq W].toArray w fun e w=>∃v,e= .returned v/\∃v1 q1 f1,v=B (wrT t p b≠none)/\Slh v1 q1/\IsL q1 f1 (pre++(wrT t p b).getD [])/\Sat w0 w [.blk Y [.func (.func 16) #[] #[]],.blk gs [.func (.func 13) #[] #[]],.blk gp [v1],.blk W [.func (.func 81) #[] #[Oq Y,Oq gs,Oq gp,Oq W]],.sem (Frame.dq 3 v1 q1 f1),.sem F]:=by
 refine Tr.ind fun t ih=> ?_
 intro F vL vD p b Y gs gp W vp q f pre w0 w D hP U hV hv hI hq
 have hn:=U.row.cf.n0;have an:=U.row.cf.n1;have hln:=hV.leaf.row.cf.n0;have aP:=hV.leaf.row.cf.n1
 have h:=hP w D.below (D.holds _ (List.mem_of_getElem? (i:=5) rfl))
 have ag:=hv.n0;have af:=hv.n1
 refine zenF Tryz.func81 Tryz.ntmps81 ?_
 refine zsr<|zla (xbx (cs:= [_,_,_,_,_]) D) ?_;rintro _ w ⟨g1,rfl,D⟩
 refine zla (xbx (cs:= [_,_,_]) D) ?_;rintro _ w ⟨g2,rfl,D⟩
 refine(zP)<|zx5<|(zV (xfb 1 fd_54_1))<|(zV (xlb 7 Wb D))<|(zV (xln Xm (U).row.cf))<|(zP)<|zlt<|Ze ?_ ?_<;>intro hc
 ·
  refine zsr<|(zV (xlb 0 Zne D))<|(zV (xls 6 YJ D))<|(zV (xfb 2 fd_54_2))<|(zV (xlb 7 pl_22 D))<|zlc (xc0 ZjK) (ZgZ (p:=p) (b:=b) w (hP _ D.below (D.holds _ (List.mem_of_getElem? (i:=5) rfl))) ((hV).leaf.below D.below) (hV).room) ?_;rintro _ w ⟨rfl,J⟩
  replace D:=D.cmp J;clear J
  refine(Om)<|zx14<|Oi ?_
  have G:t.n=0:=Oa
  exact⟨_,_,_,(Zn (Znb G)).symm,hv,by rw [ZjU G];simpa using hI,D.pk [0,1,2,3,4,5]⟩
 refine ZM<|(zV (xlb 1 Znf D))<|(zV (xls 6 YJ D))<|(zV (xfb 0 fd_54_0))<|(zV (xlb 7 pl_3 D))<|zlc (xc0 ZjL) (ZdE (p:=p) (b:=b) (wi:=t.s) w (hP _ D.below (D.holds _ (List.mem_of_getElem? (i:=5) rfl)))) ?_;rintro _ w ⟨eP,ax,rfl,cc,J⟩
 replace D:=(D.comp J).n10;clear J
 have kx:∀k,0<=k->k<2*(Zr p b t.s)->Slh (ax k) p.m:=fun k k0 k1=>D.db 9 rfl k0 k1
 refine zs5 ?_
 refine zx5<|(On)<|zlb 33 ?_ ?_<;>intro hc
 ·
  iterate 6 refine zlo ?_
  refine(zP)<|zlt<|zct<|zsr ?_
  refine(zP)<|zx14<|Oi ?_
  have G:wrT t p b=some []:=ZbY Oa (by rintro⟨q1,Z⟩;first|exact absurd q1 ‹¬ZZ p b t.s›|omega)
  exact⟨_,_,_,(ZP (show wrT t p b≠none by rw [G];exact Option.some_ne_none _)).symm,hv,by rw [G];simpa using hI,D.pk [0,1,2,3,4,5]⟩
 refine(zP)<|(zV (xln VZ cc))<|(zV (xfb 1 fd_54_1))<|(zV (xlb 7 Wb D))<|(zV (xln Xm (U).row.cf))<|(Om)<|zlt<|Ze ?_ ?_<;>intro hc
 ·
  refine zsr<|(zP)<|zx14<|Oi ?_
  have G:wrT t p b=some []:=ZbY Oa (by rintro⟨q1,Z⟩;first|exact absurd q1 ‹¬ZZ p b t.s›|omega)
  exact⟨_,_,_,(ZP (show wrT t p b≠none by rw [G];exact Option.some_ne_none _)).symm,hv,by rw [G];simpa using hI,D.pk [0,1,2,3,4,5]⟩
 refine YL<|(zV (xfb 1 fd_54_1))<|(zV (xlb 7 Wb D))<|(zV (xln Xm (U).row.cf))<|(zP)<|zx6 ?_
 have aa:ZZ p b t.s:=by first|assumption|exact Oc ‹_›
 have ai:Zr p b t.s=t.n:=Oa
 have aj:=aa.1.2;have am:=cc.n1;have ag:=hv.n0
 refine zlp (fun mm M w=>∃(V:Value) (Z:Int) (f2:Oe) (i:Int),mm=((t.n-i).toNat)/\(0<=i)/\(i<=t.n)/\(wrT t p b=fw (Zib t p b) (t.n-i).toNat i)/\(Slh V Z)/\(IsL Z f2 pre)/\(Z=q)/\M= [(4,Oq gp),(5,Oq W),(9,eP),(42,t.vK),(43,.int Oh t.n),(44,.int Oh i)]/\Sat w0 w [.blk Y [.func (.func 16) #[] #[]],.blk gs [.func (.func 13) #[] #[]],.blk gp [V],.blk W [.func (.func 81) #[] #[Oq Y,Oq gs,Oq gp,Oq W]],.sem (Frame.dq 3 V Z f2),.sem F,.blk g1 [vL,vD,.int Oh p.b8,.int Oh p.bo,.int Oh b],.blk g2 [.int Oh t.s,t.vK,t.vL],.own eP 5 34 (Zr p b t.s) (Z6 ax p.b8 p.bo (b-1)),.sem (Frame.rows 3 (2*(Zr p b t.s)) ax (fun _=>p.m) (gfn p (MX p t.s)))]) ⟨vp,q,f,0,rfl,Oa,Oa,?_,?_,?_,?_,rfl,D⟩ ?_
 ·
  exact KF Oa aa ai
 ·
  exact hv
 ·
  exact hI
 ·
  rfl
 clear D w
 rintro mm M w ⟨V,Z,f2,i,rfl,h0,h1,ab,jr,ac,al,rfl,D⟩
 refine zsr<|(zP)<|zx7<|Ze ?_ ?_<;>intro hc
 ·
  refine zx3<|(zP)<|(zV (xix (kk:=3*i) Xm (U).row.cf))<|(zV (xlw (cs:= [.int Oh ((t.gu i).s),(t.gu i).vK,(t.gu i).vL]) st_54 ((U).row.below D.below) (Vw (q:=3*i) (i:=i) _ Oa)))<|zla (xal (cs:= [_,_,_]) Vb D) ?_;rintro _ w ⟨g4,rfl,D⟩
  refine(zP)<|zle (xsw 10 st_54 D (hd:=(Za rfl (Za ((U).sub (i:=i) Oa Oa).row.cf.one (Za ((hV).sub (i:=i) Oa Oa).leaf.row.cf.one Zh))))) ?_;clear D;rintro w D
  refine zlz<|(zV (xlb 2 pl_22 D))<|(zP)<|zla (xli (n:=1) (len:=1) (pv:= [(0,.int Oh i)]) (cs:= [.int Oh i]) (c:=ints (fun _=>i)) Zb Zm D) ?_;rintro v1 w ⟨D,af⟩
  refine zla (ZjT 4 Zb Zm D (D.c7 11 rfl)) ?_;rintro v2 w ⟨D,ad⟩
  refine zle (xsb 2 pl_22 D (hv:=ad.one)) ?_;clear D;rintro w D
  refine zlt<|zsq<|zsq<|zdst [0,1,3,5,6,7,8,9,10,11] [0,1,3,5,6,7,8,9,10,11] 1000 mx_ D ?_;clear D;intro w D
  refine(zDl 0 (fun w D=>(xlb 2 Zb9 D)))<|(zDw 1 xmv)<|(zDw 2 xmv)<|(zDw 3 (xix (kk:=5*i) VZ cc))<|(zDl 4 (fun w D=>(xlw (cs:= [(ax (2*i)),(ax (2*i+1)),.int Oh p.b8,.int Oh p.bo,.int Oh (b-1)]) YJ (D.c7 6 rfl) (R7 (q:=5*i) (i:=i) ax p.b8 p.bo (b-1) Oa))))<|(zDl 5 (fun w D=>(xls 8 st_54 D)))<|zdc 6 (xcc (vs:= [_,_]) ZjA) (ih i Oa Oa (pre:=pre++ [i]) (p:=(Yc p t.s i)) (b:=(b-1)) w0 w (Sat.gg (l1:= [_,_,_,_,_]) (D.pk [0,1,2,3,4,5,6,7,8,9,10,11])) (fun w1 hb hF=>K0 (vv:=ax) aa (hP w1 hb (ZdN hF 0 rfl)) (Uy hF 4 rfl (k:=2*i) Oa Oa) (Uy hF 4 rfl (k:=2*i+1) Oa Oa) Oa Oa) ((U).sub (i:=i) Oa Oa) ((hV).sub (i:=i) Oa Oa) ad (IsL.snoc ac) Oa) ?_;rintro _ w ⟨eX,O,gY,rfl,yk,X,D⟩
  replace D:=Sat.fx (l1:= [_,_,_,_,_]) (l3:= []) D
  refine⟨⟨fun _=>D.pk [0,1,3,5,6,7,8,9,10,11],D.pk [0,1,3,5,6,7,8,9,10,11]⟩,?_⟩
  refine zdd<|ztn ?_
  refine Ze ?_ ?_<;>intro hc
  ·
   refine zsr<|(zP)<|zlt<|zrt<|ztr<|zbr<|ztr<|ztr<|zbr<|ztr<|Oi ?_
   obtain⟨l9,ae⟩:=Option.ne_none_iff_exists'.1 ‹(wrT (t.gu i) (Yc p t.s i) (b-1))≠none›
   rw [ae] at X
   have G:wrT t p b=some (i::l9):=ab.trans (Zkb Oa ae)
   exact⟨_,_,_,(ZP (show wrT t p b≠none by rw [G];exact Option.some_ne_none _)).symm,yk,by rw [G];rw [List.append_assoc] at X;exact X,D.pk [0,1,2,3,4,5]⟩
  refine zsk<|ztn<|zrg ?_
  iterate 2 refine zlv (xlb 2 pl_22 D) ?_
  have ah:=X.1;have ak:=yk.n1;rw [List.length_append,List.length_append,List.length_singleton] at ah
  refine(zV (xln Zb yk))<|(zV (Zw (r:=O-1)))<|zlv (ZbW (i:=O-1) (O-1).toNat Zb yk (Frame.dq.roomy (D.im 4 rfl))) ?_
  have bq:=(Kh (e:=O-1) yk Oa Oa)
  replace D:=D.lw (n:=O) 4 (O-1).toNat Oa
  replace D:=D.nq 4 (by omega:((O-1).toNat:Int)=O-1)
  refine zle (xsb 2 pl_22 D (hv:=bq.one)) ?_;clear D;rintro w D
  refine zx10<|(zV (Zg (r:=i+1)))<|(zP)<|zln ?_
  rw [show(wrT (t.gu i) (Yc p t.s i) (b-1))=none from Classical.byContradiction ‹¬((wrT (t.gu i) (Yc p t.s i) (b-1))≠none)›] at X
  simp only [Option.getD_none,List.append_nil] at X
  refine zlq ⟨(Rm eX (O-1).toNat),O-1,gY,i+1,rfl,Oa,Oa,?_,?_,?_,?_,rfl,D.pk [0,1,2,3,4,5,6,7,8,9]⟩
  ·
   rw [ab];exact Zno Oa (show Zib t p b i=none from Classical.byContradiction ‹¬((wrT (t.gu i) (Yc p t.s i) (b-1))≠none)›)
  ·
   exact bq
  ·
   exact IsL.init (i:=i) X
  ·
   have h8:=X.1;have h9:=ac.1;rw [List.length_append,List.length_singleton] at h8;omega
 refine zx8<|(zP)<|zx1<|Oi ?_
 have G:wrT t p b=none:=ab.trans (Zkc Oa)
 exact⟨_,_,_,(B_false (show¬wrT t p b≠none by rw [G];exact fun h=>h rfl)).symm,jr,by rw [G];simpa using ac,D.pk [0,1,2,3,4,5]⟩
variable {b:Int}
theorem ZnP:Zc Oj 50=true:=Ob
theorem ZjD:Zc Oj 68=true:=Ob
theorem ZkD:ZV Oj 137=some (.nilFunc,1,8):=Ob
noncomputable def ZbA(t:Tr)(p:Prob)(b:Int):Int:= @ite _ (Yg p b/\Xe t) (Classical.propDecidable _) (match wrT t p b with|none=>0|some _=>21) 1
noncomputable def Zeh(t:Tr)(p:Prob)(b:Int):List Int:= @ite _ (Yg p b/\Xe t) (Classical.propDecidable _) ((wrT t p b).getD []) []
theorem Zgq{t:Tr}{p:Prob}(h:¬(Yg p b/\Xe t)):ZbA t p b=1/\Zeh t p b= []:=⟨if_neg h,if_neg h⟩
theorem Ziz{t:Tr}{p:Prob}(h1:Yg p b)(D:Xe t)(h:wrT t p b≠none):ZbA t p b=21/\Zeh t p b=(wrT t p b).getD []:=by
 refine⟨?_,if_pos ⟨h1,D⟩⟩
 obtain⟨l,F⟩:=Option.ne_none_iff_exists'.1 h
 unfold ZbA;rw [if_pos ⟨h1,D⟩,F]
theorem WO{t:Tr}{p:Prob}(h1:Yg p b)(D:Xe t)(h:wrT t p b=none):ZbA t p b=0/\Zeh t p b= []:=by
 refine⟨?_,?_⟩
 · unfold ZbA;rw [if_pos ⟨h1,D⟩,h]
 · unfold Zeh;rw [if_pos ⟨h1,D⟩,h];rfl
theorem ZjR{P:Program}{L:List (Nat×Value)}{w:World}{n:Nat}{fn:Func}{R:Ending->World->Prop}{T:TypeId}{s t:Nat}{J:Addr}{F v2:Value}(O:ZR P T=true)(W:w.cell? J=some F)(h:R (.returned (.tuple #[F,v2])) w)
   (hr:fn.results= #[.cell s T,.tmp t]:=by exact rfl) (h1:lk L s=some (.pointer (some J)):=by exact rfl) (V:lk L t=some v2:=by exact rfl):Ge n [] (bodyPost P fn R) .ret L w:=fun a D=>by
 refine⟨D.defers,_,?_,h⟩
 obtain⟨⟨_,_,U⟩,_⟩:=W6 (w:=w) O
 have I:=D.get s _ h1
 have G:=D.get t _ V
 rw [Array.getD_eq_getD_getElem?] at I G
 simp [results,hr,I,G,asAddr,loadVar,U,W]
theorem Zmr{t:Tr}{vL vD:Value}{p:Prob}(w0:World)(h:PAt w0 vL vD p)(G:Yg p b)(V:KAt w0 t)(U:LvAt w0 t):
   Calls Oj 50 [.agg #[vL,vD,.int Oh p.b8,.int Oh p.bo,.int Oh b],.agg #[.int Oh t.s,t.vK,t.vL],.func (.func 13) #[] #[],.func (.func 16) #[] #[]].toArray w0 fun e w=>∃v,e= .returned v/\∃r q f,v= .tuple #[r,.int Oh (ZbA t p b)]/\Slh r q/\IsL q f (Zeh t p b)/\Sat w0 w [.sem (Frame.dq 3 r q f)]:=by
 have hn:=V.row.cf.n0;have Y:=V.row.cf.n1;have hln:=U.leaf.row.cf.n0;have aP:=U.leaf.row.cf.n1
 obtain⟨hm,Z,hd,hd1,hs,hk⟩:=h.Oo
 have aa:=G.2
 refine zenG Tryz.func50 Tryz.ntmps50 fun w D=> ?_
 refine zsr<|zla (xbx (cs:= [_,_,_,_,_]) D) ?_;rintro _ w ⟨g1,rfl,D⟩
 refine zla (xbx (cs:= [_,_,_]) D) ?_;rintro _ w ⟨g2,rfl,D⟩
 refine zla (xbx (cs:= [_]) D) ?_;rintro _ w ⟨g3,rfl,D⟩
 refine zla (xbx (cs:= [_]) D) ?_;rintro _ w ⟨g4,rfl,D⟩
 refine zla (xal (cs:= [_]) Z9 D) ?_;rintro _ w ⟨g5,rfl,D⟩
 refine(zP)<|zx5<|(zV (xls 1 st_54 D))<|zlc (xc0 ZjD) (Kk (t:=t) w (KAt.below D.below (V)) (LvAt.below D.below (U))) ?_;rintro _ w ⟨rfl,I⟩
 replace D:=D.cmp I;clear I
 refine(zP)<|zlt<|Ze ?_ ?_<;>intro hc
 ·
  refine zsr<|zle (xsb 4 pl_22 D) ?_;clear D;rintro w D
  refine(zP)<|zx14<|ZjR pl_22 (D.gw 4 rfl rfl) ⟨_,rfl,?_⟩
  obtain⟨O,J⟩:=Zgq (t:=t) (p:=p) (b:=b) (fun hh=>‹¬Xe t› hh.2)
  exact⟨_,0,fun _=>0,by rw [O],slh_nil,by rw [J];exact IsL.nil,(D.j3 3 (fun _=>0)).sub (.cons _ (.cons _ (.cons _ (.cons _ (.cons _ (.cons_cons _ .slnil))))))⟩
 refine ZM<|zla (xal (cs:= [_]) ZkD D) ?_;rintro _ w ⟨g6,rfl,D⟩
 refine zlz<|(zV xmf)<|zle (xsb 5 Zb9 D) ?_;clear D;rintro w D
 refine zx5<|zlv (xlb 5 Zb9 D) ?_
 replace D:=D.j3 3 (fun _=>0)
 refine(zV (xls 0 YJ D))<|(zV (xls 1 st_54 D))<|zlc (xcc (vs:= [_,_]) ZjA) (Zod t (F:=Frame.gm [.blk g1 [vL,vD,.int Oh p.b8,.int Oh p.bo,.int Oh b],.blk g2 [.int Oh t.s,t.vK,t.vL]]) (pre:= []) (p:=p) (b:=b) w0 w (Sat.gg (l1:= [_,_,_,_,_]) (D.pk [3,2,4,5,6,0,1])) (fun w1 G _=>h.below G) V U slh_nil IsL.nil Oa) ?_;rintro _ w ⟨eX,ze,gY,rfl,W,X,D⟩
 replace D:=Sat.fx (l1:= [_,_,_,_,_]) (l3:= []) D
 refine zlt<|Ze ?_ ?_<;>intro hc
 ·
  refine zsr<|(zV (xlb 2 pl_22 D))<|zle (xsb 2 pl_22 D (hv:=W.one)) ?_;clear D;rintro w D
  refine(zP)<|zx14<|ZjR pl_22 (D.gw 2 rfl rfl) ⟨_,rfl,?_⟩
  obtain⟨O,J⟩:=Ziz G (Oc ‹¬¬Xe t›) ‹wrT t p b≠none›
  exact⟨_,_,_,by rw [O],W,by rw [J];exact X,D.pk [4]⟩
 refine ZM<|zle (xsb 2 pl_22 D) ?_;clear D;rintro w D
 refine(zP)<|zx1<|ZjR pl_22 (D.gw 2 rfl rfl) ⟨_,rfl,?_⟩
 obtain⟨O,J⟩:=WO G (Oc ‹¬¬Xe t›) (Classical.byContradiction ‹¬(wrT t p b≠none)›)
 exact⟨_,0,fun _=>0,by rw [O],slh_nil,by rw [J];exact IsL.nil,(D.j3 3 (fun _=>0)).sub (.cons _ (.cons _ (.cons _ (.cons _ (.cons _ (.cons _ (.cons _ (.cons_cons _ .slnil))))))))⟩
theorem Zoh{t:Tr}{vL vD:Value}{p:Prob}(w0:World)(h:PAt w0 vL vD p)(I:KAt w0 t)(G:LvAt w0 t):
   Calls Oj 21 [.agg #[vL,vD,.int Oh p.b8,.int Oh p.bo,.int Oh b],.agg #[.int Oh t.s,t.vK,t.vL]].toArray w0 fun e w=>∃v,e= .returned v/\∃r q f,v= .tuple #[r,.int Oh (ZbA t p b)]/\Slh r q/\IsL q f (Zeh t p b)/\Sat w0 w [.sem (Frame.dq 3 r q f)]:=by
 have hn:=I.row.cf.n0;have O:=I.row.cf.n1;have hln:=G.leaf.row.cf.n0;have aP:=G.leaf.row.cf.n1
 obtain⟨hm,U,hd,hd1,hs,hk⟩:=h.Oo
 refine zenG Tryz.func21 Tryz.ntmps21 fun w D=> ?_
 refine zsr<|zla (xbx (cs:= [_,_,_,_,_]) D) ?_;rintro _ w ⟨g1,rfl,D⟩
 refine zla (xbx (cs:= [_,_,_]) D) ?_;rintro _ w ⟨g2,rfl,D⟩
 refine(Om)<|zx5<|(zV (xls 0 YJ D))<|zlc (xc0 Zdy) (Zau (p:=p) (b:=b) w (h.below D.below)) ?_;rintro _ w ⟨rfl,F⟩
 replace D:=D.cmp F;clear F
 refine(zP)<|zlt<|Ze ?_ ?_<;>intro hc
 ·
  refine zsr<|(Om)<|zx14<|zf2 ⟨_,rfl,?_⟩
  obtain⟨X,W⟩:=Zgq (t:=t) (p:=p) (b:=b) (fun V=>‹¬Yg p b› V.1)
  exact⟨_,0,fun _=>0,by rw [X],slh_nil,by rw [W];exact IsL.nil,(D.j3 3 (fun _=>0)).sub (.cons _ (.cons _ (.cons_cons _ .slnil)))⟩
 refine ZM<|(zV (xls 0 YJ D))<|(zV (xls 1 st_54 D))<|zlc (xc0 ZnP) (Zmr (t:=t) (p:=p) (b:=b) w (h.below D.below) (Oc ‹¬¬Yg p b›) (KAt.below D.below (I)) (LvAt.below D.below (G))) ?_;rintro _ w ⟨J,k1,Z,rfl,fR,Y,F⟩
 replace D:=(D.comp F).n3;clear F
 refine zs4 ?_
 refine zx1<|zf2 ⟨_,rfl,?_⟩
 exact⟨_,_,_,rfl,fR,Y,D.pk [2]⟩
end Go.Proofs.YtkichmnjjblodaaGreat
namespace Go.Proofs.YtkichmnjjblodaaGreat
open Go Go.RowKit Go.Proofs.Gw
variable {cnt ln:Oe} {pt:Of} {pv:Int->Value} {vD vV:Value}
theorem ZeU:ZC Oj 103=some 2:=Ob
theorem Zgu{u:Int}{vL:Value}{p:Prob}(w0:World)(G:VAt w0 vV u pv ln pt cnt)(h:PAt w0 vL vD p):
   Calls Oj 89 [.agg #[vL,vD,.int Oh p.b8,.int Oh p.bo],vV].toArray w0 fun e w=>∃v,e= .returned v/\v=B (PlanOk p u ln pt cnt)/\Sat w0 w []:=by
 obtain⟨hm,ab,hd,hd1,hs,U⟩:=h.Oo
 have hu:=G.row.cf.n0;have aa:=G.row.cf.n1
 refine zenG Tryz.func89 Tryz.ntmps89 fun w D=> ?_
 refine zsr<|zla (xbx (cs:= [_,_,_,_]) D) ?_;rintro _ w ⟨Y,rfl,D⟩
 refine(zP)<|zx5<|(zV (xls 0 ZE D))<|zlc (xc0 Ut) (YB (p:=p) w (h.below D.below)) ?_;rintro _ w ⟨rfl,I⟩
 replace D:=D.cmp I;clear I
 refine(Om)<|zlb 9 ?_ ?_<;>intro hc
 ·
  iterate 3 refine zlo ?_
  refine(zP)<|zlt<|zct<|zsr ?_
  refine(zP)<|zx14<|Oi ?_
  refine⟨false_B (fun F=> ?_),D.nl⟩
  first
  |exact absurd F.1 ‹¬p.Ok›
  |(have:=F.2.1;omega)
  |(have J:=F.2.2 i O Oa;first|exact absurd J.2.2 ‹_›|omega)
 refine(zP)<|(zV (xln ZF G.row.cf))<|(Om)<|zlt<|Ze ?_ ?_<;>intro hc
 ·
  refine zsr<|(zP)<|zx14<|Oi ?_
  refine⟨false_B (fun F=> ?_),D.nl⟩
  first
  |exact absurd F.1 ‹¬p.Ok›
  |(have:=F.2.1;omega)
  |(have J:=F.2.2 i O Oa;first|exact absurd J.2.2 ‹_›|omega)
 refine YL<|(zP)<|zx6 ?_
 have Z:p.Ok:=by first|assumption|exact Oc ‹_›
 refine zlp (fun X M w=>∃(i:Int),X=((u-i).toNat)/\(0<=i)/\(i<=u)/\(∀k,0<=k->k<i->1<=cnt k/\cnt k<=1000/\FitsP p (ln k) (pt k))/\M= [(1,vV),(2,Oq Y),(5,.int Oh i)]/\Sat w0 w [.blk Y [vL,vD,.int Oh p.b8,.int Oh p.bo]]) ⟨0,rfl,Oa,Oa,?_,rfl,D⟩ ?_
 ·
  intro k O h1;omega
 clear D w
 rintro X M w ⟨i,rfl,O,h1,W,rfl,D⟩
 refine zx11<|(Om)<|(zV (xln ZF G.row.cf))<|(zP)<|zlt<|Ze ?_ ?_<;>intro hc
 ·
  refine zx27<|zdst [0] [0] 1000 mx_ D ?_;clear D;intro w D
  refine(zDl 0 (fun w D=>(xls 0 ZE D)))<|(zDw 1 xmv)<|(zDw 2 xmv)<|(zDw 3 (xix (kk:=2*i) ZF G.row.cf))<|(zDw 4 (xfc (kk:=2*i) YQ G.row.cf))<|(zDl 5 (fun w D=>(xlr (u:=(pv i)) pl_22 (G.row.below D.below) (e:=(Y9 pv cnt Oa)))))<|zdc 6 (xc0 Zf0) (ZcI (p:=p) w (h.below D.below) ((G.p i Oa Oa).below D.below)) ?_;rintro _ w ⟨rfl,I⟩
  replace D:=D.cmp I;clear I
  refine⟨⟨fun _=>D,D⟩,?_⟩
  refine(zDw 7 YH)<|(zDw 8 xmv)<|zdb 28 ?_ ?_<;>intro hc
  ·
   refine(zDo 9)<|(zDo 10)<|(zDo 11)<|(zDo 12)<|(zDo 13)<|(zDo 14)<|(zDw 15 xpt)<|(zDw 16 xmv)<|(zDo 17)<|(zDo 18)<|(zDo 19)<|(zDo 20)<|(zDo 21)<|(zDo 22)<|zDrv 23 xpt ?_
   refine zdd<|ztn<|zct<|zsr ?_
   refine(zP)<|zx2<|Oi ?_
   refine⟨false_B (fun F=> ?_),D.nl⟩
   first
   |exact absurd F.1 ‹¬p.Ok›
   |(have:=F.2.1;omega)
   |(have J:=F.2.2 i O Oa;first|exact absurd J.2.2 ‹_›|omega)
  refine(zDw 9 xmv)<|(zDw 10 xmv)<|(zDw 11 (xix (kk:=2*i) ZF G.row.cf))<|(zDw 12 (xfc (kk:=2*i+1) YF G.row.cf))<|(zDl 13 (fun w D=>(xlr (u:= .int Oh (cnt i)) pl_3 (G.row.below D.below) (e:=(Y8 pv cnt Oa)))))<|(zDw 14 Z7)<|(zDw 15 xpf)<|(zDw 16 xmv)<|zdb 36 ?_ ?_<;>intro hc
  ·
   refine(zDo 17)<|(zDo 18)<|(zDo 19)<|(zDo 20)<|(zDo 21)<|(zDo 22)<|(zDw 23 xpt)<|zdd<|ztn<|zct<|zsr ?_
   refine(zP)<|zx2<|Oi ?_
   refine⟨false_B (fun F=> ?_),D.nl⟩
   first
   |exact absurd F.1 ‹¬p.Ok›
   |(have:=F.2.1;omega)
   |(have J:=F.2.2 i O Oa;first|exact absurd J.2.2 ‹_›|omega)
  refine(zDw 17 xmv)<|(zDw 18 xmv)<|(zDw 19 (xix (kk:=2*i) ZF G.row.cf))<|(zDw 20 (xfc (kk:=2*i+1) YF G.row.cf))<|(zDl 21 (fun w D=>(xlr (u:= .int Oh (cnt i)) pl_3 (G.row.below D.below) (e:=(Y8 pv cnt Oa)))))<|(zDw 22 Yu)<|(zDw 23 xpf)<|zdd<|ztn ?_
  refine Ze ?_ ?_<;>intro hc
  ·
   refine zsr<|(zP)<|zx2<|Oi ?_
   refine⟨false_B (fun F=> ?_),D.nl⟩
   first
   |exact absurd F.1 ‹¬p.Ok›
   |(have:=F.2.1;omega)
   |(have J:=F.2.2 i O Oa;first|exact absurd J.2.2 ‹_›|omega)
  refine zx4<|(zP)<|(zV (Zg (r:=i+1)))<|(zP)<|zln<|zlq ⟨i+1,rfl,Oa,Oa,?_,rfl,D⟩
  ·
   intro k V ac;rcases Int.lt_or_eq_of_le (show k<=i by omega) with U|U;exact W k V U;rw [U];exact⟨by omega,Oa,by first|assumption|exact Oc ‹_›⟩
 refine zx8<|(zP)<|zx1<|Oi ?_
 exact⟨ZT ⟨Z,Oa,fun k k0 k1=>W k k0 Oa⟩,D.nl⟩
theorem Zas{u:Int}{vL:Value}{p:Prob}(w0:World)(F:VAt w0 vV u pv ln pt cnt)(h:PAt w0 vL vD p):
   Calls Oj 58 [.agg #[vL,vD,.int Oh p.b8,.int Oh p.bo],vV].toArray w0 fun e w=>∃v,e= .returned v/\∃r n f e,v= .tuple #[r,.int Oh e]/\((¬PlanOk p u ln pt cnt/\n=0/\e=1)\/(PlanOk p u ln pt cnt/\n=p.m/\f=Zo u pt cnt/\e=0))/\Slh r n/\Sat w0 w [.own r 1 3 n (ints f)]:=by
 obtain⟨hm,aj,hd,hd1,hs,hk⟩:=h.Oo
 have hu:=F.row.cf.n0;have ae:=F.row.cf.n1
 refine zenG Tryz.func58 Tryz.ntmps58 fun w D=> ?_
 refine zsr<|zla (xbx (cs:= [_,_,_,_]) D) ?_;rintro _ w ⟨g1,rfl,D⟩
 refine(Om)<|zx5<|(zV (xls 0 ZE D))<|(zP)<|zlc (xc0 ZnB) (Zgu (u:=u) (pv:=pv) (ln:=ln) (pt:=pt) (cnt:=cnt) (p:=p) w (F.below D.below) (h.below D.below)) ?_;rintro _ w ⟨rfl,Z⟩
 replace D:=D.cmp Z;clear Z
 refine(zP)<|zlt<|Ze ?_ ?_<;>intro hc
 ·
  refine zsr<|(Om)<|zx14<|zf2 ⟨_,rfl,?_⟩
  exact⟨_,0,fun _=>0,1,rfl,.inl ⟨‹¬PlanOk p u ln pt cnt›,rfl,rfl⟩,slh_nil,(D.sub (.cons _ .slnil)).cg 1 3 (ints fun _=>0)⟩
 refine ZM<|zlv (xfb 0 fd_24_0) ?_
 have U:PlanOk p u ln pt cnt:=by first|assumption|exact Oc ‹_›
 have yH:=U.1.m1;have qH:=U.1.m2;have ad:=U.2.1
 refine(zV (xlb 0 pl_22 D))<|(zV (xln Zb h.L.cf))<|zla (xmk Zb Zm D) ?_;rintro v1 w ⟨D,G⟩
 refine(zP)<|zx5<|(zP)<|zx6<|zlp (fun W M w=>∃(f:Oe) (i:Int),W=((u-i).toNat)/\(0<=i)/\(i<=u)/\(∀k,0<=k->k<p.m->f k=Zo i pt cnt k)/\M= [(1,vV),(4,Og),(5,.int Oh 0),(6,v1),(7,.int Oh i)]/\Sat w0 w [.blk g1 [vL,vD,.int Oh p.b8,.int Oh p.bo],.own v1 1 3 p.m (ints f)]) ⟨(fun _=>0),0,rfl,Oa,Oa,?_,rfl,D⟩ ?_
 ·
  intro k _ _;rfl
 clear D w
 rintro W M w ⟨f,i,rfl,h0,h1,hf,rfl,D⟩
 refine zx11<|(Om)<|(zV (xln ZF F.row.cf))<|(zP)<|zlt<|Ze ?_ ?_<;>intro hc
 ·
  refine zx3<|(zP)<|zx6<|zlp (fun W M w=>∃(I:Oe) (j:Int),W=((p.m-j).toNat)/\(0<=j)/\(j<=p.m)/\(∀k,0<=k->k<p.m->I k=(if k<j then Zo (i+1) pt cnt k else Zo i pt cnt k))/\M= [(1,vV),(4,Og),(5,.int Oh 0),(6,v1),(7,.int Oh i),(8,.int Oh j)]/\Sat w0 w [.blk g1 [vL,vD,.int Oh p.b8,.int Oh p.bo],.own v1 1 3 p.m (ints I)]) ⟨f,0,rfl,Oa,Oa,?_,rfl,D⟩ ?_
  ·
   intro k J V;rw [if_neg Oa];exact hf k J V
  clear D w
  rintro W M w ⟨I,j,rfl,j0,j1,O,rfl,D⟩
  refine zx11<|(Om)<|(zV (xln Zb G))<|(zP)<|zlt<|Ze ?_ ?_<;>intro hc
  ·
   refine zx38<|zdst [0,1] [0] 20 mx_ D ?_;clear D;intro w D
   refine(zDw 0 xmv)<|(zDw 1 xmv)<|(zDw 2 (xix (kk:=j) Zb G))<|zdl 3 (fun w D=>(xlr (u:= .int Oh (I j)) pl_3 (D.c7 1 rfl))) ?_
   obtain⟨ag,aa,X⟩:=U.2.2 i h0 Oa
   have af:=X.eq
   have Y:=X.all j j0 Oa
   have ah:=Yv U.2.2 h0 Oa (j:=j) j0 Oa
   have ac:=O j j0 Oa
   rw [if_neg Oa] at ac
   have ai:=Xn Y.1 Y.2 (show 0<=cnt i by omega) aa
   refine(zDw 4 xmv)<|(zDw 5 xmv)<|(zDw 6 (xix (kk:=2*i) ZF F.row.cf))<|(zDw 7 (xfc (kk:=2*i) YQ F.row.cf))<|(zDl 8 (fun w D=>(xlr (u:=(pv i)) pl_22 (F.row.below D.below) (e:=(Y9 pv cnt Oa)))))<|(zDw 9 xmv)<|(zDw 10 (xix (kk:=j) Zb (F.p i Oa Oa).cf))<|(zDl 11 (fun w D=>(xlr (u:= .int Oh ((pt i) j)) pl_3 ((F.p i Oa Oa).below D.below))))<|(zDw 12 xmv)<|(zDw 13 xmv)<|(zDw 14 (xix (kk:=2*i) ZF F.row.cf))<|(zDw 15 (xfc (kk:=2*i+1) YF F.row.cf))<|(zDl 16 (fun w D=>(xlr (u:= .int Oh (cnt i)) pl_3 (F.row.below D.below) (e:=(Y8 pv cnt Oa)))))<|(zDw 17 (Z2 (r:=(((pt i) j)*(cnt i))) (e:=rfl)))<|zdv 18 (fun _=>(Zg (r:=I j+(((pt i) j)*(cnt i))))) ?_
   refine(zDw 19 (xix (kk:=j) Zb G))<|zde 20 (xso 1 pl_3 D (Zy _ _ _)) ?_;clear D;rintro w D
   refine⟨⟨fun h=>absurd h (by decide),D.pk [0]⟩,?_⟩
   refine zdd<|zbn<|ztn<|zrg ?_
   refine(zP)<|(zV (Zg (r:=j+1)))<|(zP)<|zln<|zlq ⟨(upd I j (I j+(((pt i) j)*(cnt i)))),j+1,rfl,Oa,Oa,?_,rfl,D⟩
   ·
    intro k J V;unfold upd;by_cases e:k=j
    · rw [if_pos e,if_pos Oa,e,YP h0];omega
    · rw [if_neg e,O k J V];by_cases e2:k<j
      · rw [if_pos e2,if_pos Oa]
      · rw [if_neg e2,if_neg Oa]
  refine zx21<|(zP)<|(zV (Zg (r:=i+1)))<|(zP)<|zln<|zlq ⟨I,i+1,rfl,Oa,Oa,?_,rfl,D⟩
  ·
   intro k J V;rw [O k J V,if_pos Oa]
 refine zx8<|(On)<|zx1<|zf2 ⟨_,rfl,?_⟩
 have ab:i=u:=Oa
 rw [ab] at hf
 replace D:=D.gi 1 rfl (d:=ints (Zo u pt cnt)) (fun k J V=>congrArg (Value.int .i64) (hf k J Oa))
 exact⟨_,_,_,0,rfl,.inr ⟨U,rfl,rfl,rfl⟩,G,D.pk [1]⟩
theorem Zgv{u:Int}{vL:Value}{p:Prob}(w0:World)(hV:VAt w0 vV u pv ln pt cnt)(h:PAt w0 vL vD p):
   Calls Oj 33 [.agg #[vL,vD,.int Oh p.b8,.int Oh p.bo],vV].toArray w0 fun e w=>∃v,e= .returned v/\v=B (PlanOk p u ln pt cnt/\∀j,0<=j->j<p.m->p.D j<=Zo u pt cnt j)/\Sat w0 w []:=by
 obtain⟨hm,ab,hd,hd1,hs,V⟩:=h.Oo
 refine zenG Tryz.func33 Tryz.ntmps33 fun w D=> ?_
 refine zsr<|zla (xbx (cs:= [_,_,_,_]) D) ?_;rintro _ w ⟨g1,rfl,D⟩
 refine(zP)<|zlz<|(zV (xls 0 ZE D))<|(zP)<|zlc (xc0 Zf1) (Zas (u:=u) (pv:=pv) (ln:=ln) (pt:=pt) (cnt:=cnt) (p:=p) w (hV.below D.below) (h.below D.below)) ?_;rintro _ w ⟨ql,O,U,yg,rfl,W,qf,I⟩
 replace D:=(D.comp I).n2;clear I
 refine zs5 ?_
 refine zx5<|(Om)<|zlt<|Ze ?_ ?_<;>intro hc
 ·
  refine zsr<|(zP)<|zx14<|Oi ?_
  refine⟨false_B ?_,D.nl⟩
  first
  |(intro F;have X:=F.2 i Z Oa;rw [<-G] at X;omega)
  |(rcases W with⟨q1,_⟩|⟨_,_,_,q4⟩;exact fun F=>q1 F.1;omega)
 refine YL<|(zP)<|zx6 ?_
 obtain⟨J,ad,G⟩:PlanOk p u ln pt cnt/\O=p.m/\U=Zo u pt cnt:=by rcases W with⟨_,_,q3⟩|⟨q1,q2,q3,_⟩;omega;exact⟨q1,q2,q3⟩
 have aa:=J.1.d
 refine zlp (fun mm M w=>∃(i:Int),mm=((O-i).toNat)/\(0<=i)/\(i<=O)/\(∀k,0<=k->k<i->p.D k<=U k)/\M= [(2,Oq g1),(5,ql),(7,.int Oh i)]/\Sat w0 w [.blk g1 [vL,vD,.int Oh p.b8,.int Oh p.bo],.own ql 1 3 O (ints U)]) ⟨0,rfl,Oa,Oa,?_,rfl,D⟩ ?_
 ·
  intro k Z h1;omega
 clear D w
 rintro mm M w ⟨i,rfl,Z,h1,qa,rfl,D⟩
 refine zx11<|(Om)<|(zV (xln Zb qf))<|(zP)<|zlt<|Ze ?_ ?_<;>intro hc
 ·
  refine zx27<|zdst [0,1] [0,1] 1000 mx_ D ?_;clear D;intro w D
  refine(zDw 0 xmv)<|(zDw 1 xmv)<|(zDw 2 (xix (kk:=i) Zb qf))<|(zDl 3 (fun w D=>(xlr (u:= .int Oh (U i)) pl_3 (D.c7 1 rfl))))<|(zDw 4 (xfb 1 fd_24_1))<|(zDl 5 (fun w D=>(xlb 0 pl_22 D)))<|(zDw 6 xmv)<|(zDw 7 (xix (kk:=i) Zb h.D.cf))<|zdla 8 (fun w D=>(xlr (u:= .int Oh (p.D i)) pl_3 (h.D.below D.below))) ?_
  have ac:=h.iD i
  refine(zDw 9 Z7)<|zdd<|ztn ?_
  refine Ze ?_ ?_<;>intro hc
  ·
   refine zsr<|(zP)<|zx2<|Oi ?_
   refine⟨false_B ?_,D.nl⟩
   first
   |(intro F;have X:=F.2 i Z Oa;rw [<-G] at X;omega)
   |(rcases W with⟨q1,_⟩|⟨_,_,_,q4⟩;exact fun F=>q1 F.1;omega)
  refine zx4<|(zP)<|(zV (Zg (r:=i+1)))<|(zP)<|zln<|zlq ⟨i+1,rfl,Oa,Oa,?_,rfl,D⟩
  ·
   intro k Y ae;rcases Int.lt_or_eq_of_le (show k<=i by omega) with V|V;exact qa k Y V;rw [V];omega
 refine zx8<|(zP)<|zx1<|Oi ?_
 refine⟨ZT ⟨J,fun j j0 j1=> ?_⟩,D.nl⟩
 have:=qa j j0 Oa;rw [G] at this;exact this
theorem Uu{u:Int}(w0:World)(D:VAt w0 vV u pv ln pt cnt)(U:u<=1000000)(I:∀k,0<=k->k<u->0<=cnt k/\cnt k<=1000000000):
   Calls Oj 34 [vV].toArray w0 fun e w=>∃v,e= .returned v/\v= .int Oh (psum (fun _=>1) cnt u.toNat)/\Sat w0 w []:=by
 have hn:=D.row.cf.n0;have W:=D.row.cf.n1
 refine zenG Tryz.func34 Tryz.ntmps34 fun w F=> ?_
 refine zsr<|(zP)<|zlz<|(zP)<|zx5<|(zP)<|zx6<|zlp (fun J M w=>∃(s:Int) (i:Int),J=((u-i).toNat)/\(0<=i)/\(i<=u)/\(s=psum (fun _=>1) cnt i.toNat)/\(0<=s/\s<=1000000000*i)/\M= [(0,vV),(2,.int Oh 0),(3,.int Oh s),(4,.int Oh i)]/\Sat w0 w []) ⟨0,0,rfl,Oa,Oa,?_,Oa,rfl,F⟩ ?_
 ·
  rfl
 clear F w
 rintro J M w ⟨s,i,rfl,O,h1,G,V,rfl,F⟩
 refine zx11<|(Om)<|(zV (xln ZF D.row.cf))<|(zP)<|zlt<|Ze ?_ ?_<;>intro hc
 ·
  refine zsk<|ztn<|zsq<|zbk<|zrg<|(On)<|(zV (xix (kk:=2*i) ZF D.row.cf))<|(zV (xfc (kk:=2*i+1) YF D.row.cf))<|zlv (xlr (u:= .int Oh (cnt i)) pl_3 (D.row.below F.below) (e:=(Y8 pv cnt Oa))) ?_
  have X:=I i O Oa
  refine(zV (Zg (r:=s+(cnt i))))<|(zP)<|zx10<|(zP)<|(zV (Zg (r:=i+1)))<|(zP)<|zln<|zlq ⟨s+(cnt i),i+1,rfl,Oa,Oa,?_,Oa,rfl,F⟩
  ·
   rw [YG _ _ O,<-G];omega
 refine zx8<|(Om)<|zx1<|Oi ?_
 obtain rfl:i=u:=Oa
 exact⟨congrArg (Value.int .i64) G,F⟩
end Go.Proofs.YtkichmnjjblodaaGreat
namespace Go.Proofs.YtkichmnjjblodaaGreat
open Go Go.RowKit Go.Proofs.Gw
theorem ZnX:Zc Oj 21=true:=Ob
theorem ZnV:Zc Oj 33=true:=Ob
theorem Zbz:Zc Oj 34=true:=Ob
theorem ZnT:Zc Oj 39=true:=Ob
theorem ZnK:Zc Oj 70=true:=Ob
theorem WK:Zv Oj 63 0=some 0:=Ob
theorem Zdl:Zv Oj 63 1=some 1:=Ob
theorem Zdk:Zv Oj 63 2=some 2:=Ob
theorem Zof{v:Value}{n:Int}{f:Oe}(w0:World)(F:Row w0 v 1 n (ints f)):
   Calls Oj 69 [v,Og].toArray w0 fun e w=>∃v,e= .returned v/\v=B (n=0)/\Sat w0 w []:=by
 have hn:=F.cf.n0
 refine zenG Tryz.func69 Tryz.ntmps69 fun w D=> ?_
 refine zsr<|(zP)<|zx5<|(zP)<|(zV (xln Zb F.cf))<|(zP)<|(zV (xln Zb slh_nil))<|(zP)<|zlt<|Ze ?_ ?_<;>intro hc
 ·
  refine zsr<|(zP)<|zx14<|Oi ?_
  exact⟨false_B Oa,D⟩
 refine YL<|(zP)<|(zV (xln Zb F.cf))<|(zP)<|zx6<|zlp (fun G M w=>∃(i:Int),G=((n-i).toNat)/\(0<=i)/\(i<=n)/\M= [(0,v),(1,Og),(12,.int Oh n),(13,.int Oh i)]/\Sat w0 w []) ⟨0,rfl,Oa,Oa,rfl,D⟩ ?_
 clear D w
 rintro G M w ⟨i,rfl,I,h1,rfl,D⟩
 refine zsr<|(zV (xkf Z7))<|zx7<|zcf<|zxt<|ztx<|ztx<|zbh<|ztn<|zsr ?_
 refine(zP)<|zx1<|Oi ?_
 exact⟨ZT Oa,D⟩
theorem ZmK{t:Tr}(w0:World)(F:KAt w0 t)(I:LvAt w0 t):
   Calls Oj 70 [t.vK,Og,.func (.func 39) #[] #[]].toArray w0 fun e w=>∃v,e= .returned v/\v=B (t.n=0)/\Sat w0 w []:=by
 have hn:=F.row.cf.n0;have J:=F.row.cf.n1;have hln:=I.leaf.row.cf.n0;have U:=I.leaf.row.cf.n1
 refine zenG Tryz.func70 Tryz.ntmps70 fun w D=> ?_
 refine zsr<|(zP)<|zx5<|(zP)<|(zV (xln Xm (F).row.cf))<|(zP)<|(zV (xln Xm slh_nil))<|(zP)<|zlt<|Ze ?_ ?_<;>intro hc
 ·
  refine zsr<|(zP)<|zx14<|Oi ?_
  exact⟨false_B Oa,D⟩
 refine YL<|(zP)<|(zV (xln Xm (F).row.cf))<|(zP)<|zx6<|zlp (fun G M w=>∃(i:Int),G=((t.n-i).toNat)/\(0<=i)/\(i<=t.n)/\M= [(1,Og),(2,.func (.func 39) #[] #[]),(15,t.vK),(16,.int Oh t.n),(17,.int Oh i)]/\Sat w0 w []) ⟨0,rfl,Oa,Oa,rfl,D⟩ ?_
 clear D w
 rintro G M w ⟨i,rfl,O,h1,rfl,D⟩
 refine zsr<|(zV (xkf Z7))<|zx7<|zcf<|zxt<|ztx<|ztx<|zbh<|ztn<|zsr ?_
 refine(zP)<|zx1<|Oi ?_
 exact⟨ZT Oa,D⟩
def Rj(t:Tr):Prop:=t.s=0/\t.nl=0/\t.n=0
noncomputable def Zhp(p:Prob)(nb u:Int)(ln:Oe)(pt:Of)(cnt:Oe)(t:Tr):Prop:=(PlanOk p u ln pt cnt/\∀j,0<=j->j<p.m->p.D j<=Zo u pt cnt j)/\psum (fun _=>1) cnt u.toNat=nb/\((nb=0/\Rj t)\/(nb≠0/\ZbA t p (nb-1)=0))
theorem ZgD{t:Tr}(w0:World)(J:KAt w0 t)(G:LvAt w0 t):
   Calls Oj 39 [.agg #[.int Oh t.s,t.vK,t.vL],.agg #[.int Oh 0,Og,Og]].toArray w0 fun e w=>∃v,e= .returned v/\v=B (Rj t)/\Sat w0 w []:=by
 have hn:=J.row.cf.n0;have O:=J.row.cf.n1;have hln:=G.leaf.row.cf.n0;have W:=G.leaf.row.cf.n1
 refine zenG Tryz.func39 Tryz.ntmps39 fun w D=> ?_
 refine zsr<|zla (xbx (cs:= [_,_,_]) D) ?_;rintro _ w ⟨V,rfl,D⟩
 refine zla (xbx (cs:= [_,_,_]) D) ?_;rintro _ w ⟨U,rfl,D⟩
 refine(zP)<|zlz<|(zV (xfb 0 fd_54_0))<|(zV (xlb 0 pl_3 D))<|(zV (xfb 0 fd_54_0))<|(zV (xlb 1 pl_3 D))<|(Om)<|zlb 10 ?_ ?_<;>intro hc
 ·
  refine(zV (xfb 2 fd_54_2))<|(zV (xlb 0 pl_22 D))<|(zV (xfb 2 fd_54_2))<|(zV (xlb 1 pl_22 D))<|zlc (xc0 ZjC) (Zof (n:=t.nl) (f:=t.l) w ((G).leaf.row.below D.below)) ?_;rintro _ w ⟨rfl,F⟩
  replace D:=D.cmp F;clear F
  refine(Om)<|zlb 17 ?_ ?_<;>intro hc
  ·
   refine(zV (xfb 1 fd_54_1))<|(zV (xlb 0 Wb D))<|(zV (xfb 1 fd_54_1))<|(zV (xlb 1 Wb D))<|zlc (xc0 ZnK) (ZmK (t:=t) w (KAt.below D.below (J)) (LvAt.below D.below (G))) ?_;rintro _ w ⟨rfl,F⟩
   replace D:=D.cmp F;clear F
   refine(Om)<|zx1<|Oi ?_
   exact⟨Zn ⟨fun I=>⟨by omega,by first|assumption|omega,I⟩,fun I=>I.2.2⟩,D.nl⟩
  iterate 5 refine zlo ?_
  refine(Om)<|zx1<|Oi ?_
  exact⟨false_B (by rintro⟨h1,h2,h3⟩;first|omega|contradiction),D.nl⟩
 iterate 5 refine zlo ?_
 refine zs2 ?_
 iterate 5 refine zlo ?_
 refine(Om)<|zx1<|Oi ?_
 exact⟨false_B (by rintro⟨h1,h2,h3⟩;first|omega|contradiction),D.nl⟩
theorem RJ{p:Prob}{u:Int}{ln cnt:Oe}{pt:Of}(h:PlanOk p u ln pt cnt):0<=psum (fun _=>1) cnt u.toNat/\psum (fun _=>1) cnt u.toNat<=1000000:=by
 have h1:∀n:Nat,(n:Int)<=u->0<=psum (fun _=>1) cnt n/\psum (fun _=>1) cnt n<=1000*n:=fun n=>by
   induction n with
   |zero=>intro _;simp [psum]
   | succ n ih=>
     intro hn
     have I:=ih Oa
     have G:=h.2.2 n Oa Oa
     simp only [psum];omega
 have F:=h.2.1
 by_cases hu:0<=u
 · have D:=h1 u.toNat Oa;omega
 · rw [show u.toNat=0 by omega];simp [psum]
theorem ZiN{vV:Value}{u:Int}{pv:Int->Value}{ln:Oe}{pt:Of}{cnt:Oe}{vL vD:Value}{p:Prob}{nb:Int}{t:Tr}(w0:World)(J:VAt w0 vV u pv ln pt cnt)(h:PAt w0 vL vD p)(U:KAt w0 t)(O:LvAt w0 t)(aa:u<=1000):
   Calls Oj 26 [.agg #[vL,vD,.int Oh p.b8,.int Oh p.bo],.agg #[.int Oh nb,vV,.int Oh t.s,t.vK,t.vL]].toArray w0 fun e w=>∃v,e= .returned v/\v=B (Zhp p nb u ln pt cnt t)/\Sat w0 w []:=by
 obtain⟨hm,ad,hd,hd1,hs,hk⟩:=h.Oo
 have hn:=U.row.cf.n0;have ac:=U.row.cf.n1;have hln:=O.leaf.row.cf.n0;have aP:=O.leaf.row.cf.n1
 have hu:=J.row.cf.n0;have ab:=J.row.cf.n1
 refine zenG Tryz.func26 Tryz.ntmps26 fun w D=> ?_
 refine zsr<|zla (xbx (cs:= [_,_,_,_]) D) ?_;rintro _ w ⟨g1,rfl,D⟩
 refine zla (xbx (cs:= [_,_,_,_,_]) D) ?_;rintro _ w ⟨g2,rfl,D⟩
 refine(zP)<|zlt<|zsq<|zsq<|zdst [0,1] [0,1] 1000 mx_ D ?_;clear D;intro w D
 refine(zDl 0 (fun w D=>(xls 0 st_32 D)))<|(zDw 1 (xfb 1 Zdl))<|(zDl 2 (fun w D=>(xlb 1 pl_60 D)))<|zdc 3 (xc0 Zf2) (Rc (u:=u) (pv:=pv) (ln:=ln) (pt:=pt) (cnt:=cnt) (p:=p) w (J.below D.below) (h.below D.below)) ?_;rintro _ w ⟨rfl,F⟩
 replace D:=D.cmp F;clear F
 refine⟨⟨fun _=>D,D⟩,?_⟩
 refine(zDw 4 YH)<|(zDw 5 xmv)<|zdb 12 ?_ ?_<;>intro hc
 ·
  refine(zDo 6)<|(zDo 7)<|(zDo 9)<|(zDo 10)<|(zDo 8)<|(zDo 11)<|(zDw 12 xpt)<|zdd<|ztn<|zct<|zsr ?_
  refine(zP)<|zx14<|Oi ?_
  exact⟨false_B (by rintro⟨h1,h2,X⟩;first|omega|exact absurd h1 ‹¬(PlanOk p u ln pt cnt/\∀j,0<=j->j<p.m->p.D j<=Zo u pt cnt j)›|exact absurd h1.1.1 ‹¬p.Ok›|(rcases X with⟨h4,h5,W,V⟩|⟨h4,_⟩<;>omega)),D.nl⟩
 refine(zDw 6 (xfb 1 Zdl))<|(zDl 7 (fun w D=>(xlb 1 pl_60 D)))<|zDrv 9 (xfb 0 WK) ?_
 have ae:=RJ (show PlanOk p u ln pt cnt/\∀j,0<=j->j<p.m->p.D j<=Zo u pt cnt j by first|assumption|exact Oc ‹_›).1
 refine(zDl 10 (fun w D=>(xlb 1 pl_3 D)))<|zdc 8 (xc0 Zby) (Uw (u:=u) (pv:=pv) (ln:=ln) (pt:=pt) (cnt:=cnt) w (J.below D.below) Oa (fun k k0 Y=>by have h9:=(show PlanOk p u ln pt cnt/\∀j,0<=j->j<p.m->p.D j<=Zo u pt cnt j by first|assumption|exact Oc ‹_›).1.2.2 k k0 Y;omega)) ?_;rintro _ w ⟨rfl,F⟩
 replace D:=D.cmp F;clear F
 refine⟨⟨fun _=>D,D⟩,?_⟩
 refine(zDw 11 YM)<|(zDw 12 xpf)<|zdd<|ztn ?_
 refine Ze ?_ ?_<;>intro hc
 ·
  refine zsr<|(zP)<|zx14<|Oi ?_
  exact⟨false_B (by rintro⟨h1,h2,X⟩;first|omega|exact absurd h1 ‹¬(PlanOk p u ln pt cnt/\∀j,0<=j->j<p.m->p.D j<=Zo u pt cnt j)›|exact absurd h1.1.1 ‹¬p.Ok›|(rcases X with⟨h4,h5,W,V⟩|⟨h4,_⟩<;>omega)),D.nl⟩
 refine YL<|(zV (xfb 0 WK))<|(zV (xlb 1 pl_3 D))<|(zP)<|zlt<|Ze ?_ ?_<;>intro hc
 ·
  refine zsr<|(zV (xfb 2 Zdk))<|(zV (xlp 1 (ds:= [.int Oh t.s,t.vK,t.vL]) st_54 D))<|(zV (xany (v:= .agg #[.int Oh 0,Og,Og])))<|zlc (xc0 ZnT) (ZgD (t:=t) w (KAt.below D.below (U)) (LvAt.below D.below (O))) ?_;rintro _ w ⟨rfl,F⟩
  replace D:=D.cmp F;clear F
  refine(zP)<|zx14<|Oi ?_
  have I:PlanOk p u ln pt cnt/\∀j,0<=j->j<p.m->p.D j<=Zo u pt cnt j:=by first|assumption|exact Oc ‹_›
  first
  |exact⟨Zn ⟨fun G=>⟨I,Oa,.inl ⟨by omega,by first|exact G|exact⟨by omega,Oa,Oa⟩⟩⟩,fun G=>by rcases G.2.2 with⟨h4,h5⟩|⟨h4,h5⟩;(first|exact h5|exact h5.1|(obtain⟨W,V,h8⟩:=h5;omega));omega⟩,D.nl⟩
  |exact⟨Zn ⟨fun G=>⟨I,Oa,.inr ⟨by omega,G⟩⟩,fun G=>by rcases G.2.2 with⟨h4,h5⟩|⟨h4,h5⟩;omega;exact h5⟩,D.nl⟩
 refine ZM<|(zV (xls 0 st_32 D))<|(zV (xfb 0 WK))<|(zV (xlb 1 pl_3 D))<|(zV (Zw (r:=nb-1)))<|zlv (xany (v:= .agg #[vL,vD,.int Oh p.b8,.int Oh p.bo,.int Oh (nb-1)]) (hr:=by obtain⟨_,_,_,_,rfl,_⟩:=h.L.cf;obtain⟨_,_,_,_,rfl,_⟩:=h.D.cf;kernel_rfl)) ?_
 refine(zV (xfb 2 Zdk))<|(zV (xlp 1 (ds:= [.int Oh t.s,t.vK,t.vL]) st_54 D))<|zlc (xc0 ZnX) (Zoh (t:=t) (p:=p) (b:=(nb-1)) w (h.below D.below) (KAt.below D.below (U)) (LvAt.below D.below (O))) ?_;rintro _ w ⟨Z,Y,af,rfl,fR,gK,F⟩
 replace D:=(D.comp F).n3;clear F
 refine zs5 ?_
 refine zlz<|(On)<|zx1<|Oi ?_
 have I:PlanOk p u ln pt cnt/\∀j,0<=j->j<p.m->p.D j<=Zo u pt cnt j:=by first|assumption|exact Oc ‹_›
 first
 |exact⟨Zn ⟨fun G=>⟨I,Oa,.inl ⟨by omega,by first|exact G|exact⟨by omega,Oa,Oa⟩⟩⟩,fun G=>by rcases G.2.2 with⟨h4,h5⟩|⟨h4,h5⟩;(first|exact h5|exact h5.1|(obtain⟨W,V,h8⟩:=h5;omega));omega⟩,D.nl⟩
 |exact⟨Zn ⟨fun G=>⟨I,Oa,.inr ⟨by omega,G⟩⟩,fun G=>by rcases G.2.2 with⟨h4,h5⟩|⟨h4,h5⟩;omega;exact h5⟩,D.nl⟩
end Go.Proofs.YtkichmnjjblodaaGreat
namespace Go.Proofs.Gw
open Go Go.RowKit
variable {w:Int} {x:Oe} {L:List (Oe)}
def XX(L:List (Oe))(j:Int):Int:=match L with
  | []=>0
  |a::L=>a j+XX L j
def LFit(p:Prob)(L:List (Oe)):Prop:=∀a∈L,FitsP p p.m a
theorem TP(L M:List (Oe))(j:Int):XX (L++M) j=XX L j+XX M j:=by
 induction L with
 |nil=>simp [XX]
 |cons a L ih=>simp only [List.cons_append,XX,ih];omega
theorem LFit.nn{p:Prob}(h:LFit p L){j:Int}(F:0<=j)(D:j<p.m):0<=XX L j:=by
 induction L with
 |nil=>exact Int.le_refl _
 | cons a L ih=>
   have h1:=(h a (List.mem_cons_self ..)).all j F D
   have I:=ih fun b G=>h b (List.mem_cons_of_mem _ G)
   simp only [XX];omega
theorem Zff{j:Int}(h:1<=XX L j):∃F a D,L=F++a::D/\1<=a j:=by
 induction L with
 |nil=>simp [XX] at h
 | cons a L ih=>
   by_cases e:1<=a j
   · exact⟨[],a,L,rfl,e⟩
   · simp only [XX] at h
     obtain⟨F,b,D,rfl,G⟩:=ih Oa
     exact⟨a::F,b,D,rfl,G⟩
theorem VI(f:Oe):∀n:Nat,Zf f (n+1)=f 0+Zf (fun i=>f (i+1)) n
 |0=>by simp [Zf]
 | n+1=>by
   have h:=VI f n
   show Zf f (n+1)+f ((n+1:Nat):Int)=f 0+(Zf (fun i=>f (i+1)) n+f ((n:Int)+1))
   rw [h,show((n+1:Nat):Int)=(n:Int)+1 by omega];omega
def Zcb(L:List (Oe))(i:Int):Oe:=L.getD i.toNat (fun _=>0)
theorem R0(k:Int):∀L:List (Oe),Wl (Zcb L) (fun _=>1) L.length k=XX L k
 | []=>rfl
 | a ::L=>by
   unfold Wl
   rw [List.length_cons,VI]
   have e:Zf (fun i=>Zcb (a::L) (i+1) k*1) L.length=Zf (fun i=>Zcb L i k*1) L.length:=Zj fun i F D=>by
     unfold Zcb;rw [show(i+1).toNat=i.toNat+1 by omega];rfl
   have h:=R0 k L
   unfold Wl at h
   rw [e,h]
   show(a k)*1+_=_
   simp [XX]
theorem Ze8{i:Int}(F:0<=i)(D:i<L.length):Zcb L i∈L:=by
 unfold Zcb
 rw [List.getD_eq_getElem?_getD,List.getElem?_eq_getElem Oa]
 exact List.getElem_mem _
theorem ZbH {p:Prob} {n b:Int} {y:Oe} {q:Int} (h:Chk p n y q=0) (U:b<=1000) (J:b<YZ p n y q) (O:LFit p L) (hc:∀j,0<=j->j<p.m->p.D j<=XX L j):b<L.length:=by
 by_cases hl:1000<L.length
 · omega
 · have hM:MeetsP p L.length (fun _=>p.m) (Zcb L) (fun _=>1):=
     ⟨⟨(WO h).1,Oa,fun i I G=>⟨O _ (Ze8 I G),Oa,Oa⟩⟩,fun k F D=>by
       rw [show((L.length:Int)).toNat=L.length by omega,R0];exact hc k F D⟩
   have h1:=ZdX h Oa hM
   rw [show((L.length:Int)).toNat=L.length by omega,W0] at h1
   omega
def rep(c:Nat)(a:Oe):List (Oe):=List.replicate c a
theorem Zbc(a:Oe)(j:Int):∀c:Nat,XX (rep c a) j=a j*c
 |0=>by simp [rep,XX]
 | c+1=>by
   have h:=Zbc a j c
   show a j+XX (rep c a) j=_
   rw [h,Int.natCast_add,Int.mul_add];simp;omega
theorem RK {p:Prob} {len:Oe} {pt:Of} {cnt:Oe}:∀n:Nat,(∀i,0<=i->i<(n:Int)->FitsP p (len i) (pt i)/\0<=cnt i)->∃L,LFit p L/\(∀j,XX L j=Wl pt cnt n j)/\(L.length:Int)=Zf cnt n
 |0,_=>⟨[],fun a D=>absurd D (by simp),fun _=>rfl,rfl⟩
 | n + 1,h=>by
   obtain⟨L,h1,O,J⟩:=RK n fun i G U=>h i G Oa
   obtain⟨I,F⟩:=h n Oa Oa
   refine⟨L++rep (cnt n).toNat (pt n),fun a D=> ?_,fun j=> ?_,?_⟩
   · rcases List.mem_append.1 D with D|D
     · exact h1 a D
     · rw [(List.mem_replicate.1 D).2]
       have:=I;rw [this.eq] at this;exact this
   · rw [TP,O,Zbc,Int.toNat_of_nonneg F];rfl
   · rw [List.length_append,Int.natCast_add,J];unfold rep;rw [List.length_replicate,Int.toNat_of_nonneg F];rfl
theorem Rt{p:Prob}(D:p.Ok){x:Oe}(F:∀i,0<=i->i<p.m->0<=x i):∀(k:Nat) {i:Int},0<=i->i+k<=p.m->ZI p x i.toNat<=ZI p x (i+k).toNat
 |0,i,_,_=>by simp
 | k+1,i,i0,h=>by
   have h1:=Rt D F k i0 Oa
   have I:ZI p x (i+k+1).toNat=ZI p x (i+k).toNat+x (i+k)*(p.L (i+k)+p.bo):=ZH _ Oa
   have G:=D.all (i+k) Oa Oa
   unfold Prob.each at G
   have O:=D.k1
   have J:0<=x (i+k)*(p.L (i+k)+p.bo):=Int.mul_nonneg (F _ Oa Oa) Oa
   rw [show i+((k+1:Nat):Int)=i+k+1 by omega,I];omega
theorem Zdp {p:Prob} (F:p.Ok) {w:Int} {x:Oe} (D:MPat p w x):∀(j:Nat) {i l:Int} {a:Oe},(p.m-i).toNat=j->0<=i->i<=p.m->Pfx p i a l->(∀k,k<i->x k=a k)->(i<=w->w<p.m->1<=x w)->x∈exI p w i a l
 | 0,i,l,a,hj,h0,h1,h,he,hw=>by
   have hi:i=p.m:=Oa
   have e:x=a:=funext fun k=>by
     by_cases J:k<i
     · exact he k J
     · rw [h.zero k Oa,D.zero k Oa]
   subst e
   rw [Tk hi (by have:=h.left;rw [hi] at this;rw [this];exact D.maxi)]
   exact List.mem_singleton.2 rfl
 | j + 1,i,l,a,hj,h0,h1,h,he,hw=>by
   rw [Wr h0 Oa]
   have hr:=D.ia i h0 Oa
   have X:=F.all i h0 Oa
   unfold Prob.each at X
   have J:=F.k1
   have hu:ZI p x (i+1).toNat=ZI p x i.toNat+x i*(p.L i+p.bo):=ZH _ h0
   have Y:=Rt F (fun k U O=>(D.ia k U O).1) (p.m-(i+1)).toNat (i:=i+1) Oa Oa
   rw [show i+1+((p.m-(i+1)).toNat:Int)=p.m by omega] at Y
   have ha:ZI p x i.toNat=ZI p a i.toNat:=Zj fun k U O=>by rw [he k Oa]
   have hl:=h.left
   have W:=D.used
   have I:x i*(p.L i+p.bo)<=l:=Oa
   have Z:x i<=most p i l:=by
     unfold most
     have:x i<=l.tdiv (p.L i+p.bo):=by
       rw [Int.tdiv_eq_ediv_of_nonneg h.l0]
       exact(Int.le_ediv_iff_mul_le Oa).2 I
     omega
   have G:least w i<=x i:=by
     unfold least
     by_cases e:w=i
     · rw [if_pos e,<-e];exact hw Oa Oa
     · rw [if_neg e];exact hr.1
   refine ZfW G Oa (Zdp F D j Oa Oa Oa (h.step F h0 Oa hr.1 Z) (fun k J=> ?_) fun q1 V=>hw Oa V)
   by_cases e:k=i
   · rw [e,ZA]
   · rw [upd_ne _ _ e];exact he k Oa
theorem Zm2{p:Prob}(D:p.Ok)(F:MPat p w x)(G:0<=w->w<p.m->1<=x w):x∈MX p w:=
 Zdp D F _ rfl (Int.le_refl 0) (by have:=D.m1;omega) (Pfx.start D) (fun k I=>by rw [F.zero k Oa]) G
theorem Tu{p:Prob}{f:Oe}{i:Int}(F:0<=i):∀{n:Nat},i<(n:Int)->ZI p (upd f i (f i+1)) n=ZI p f n+(p.L i+p.bo)
 |0,h=>Oa
 | n +1,h=>by
   show Zf _ (n+1)=Zf _ (n+1)+_
   simp only [Zf]
   by_cases e:i=n
   · subst e
     have:Zf (fun j=>upd f (n:Int) (f n+1) j*(p.L j+p.bo)) n=Zf (fun j=>f j*(p.L j+p.bo)) n:=Zj fun j I G=>by rw [upd_ne _ _ Oa]
     rw [this,ZA,Int.add_mul,Int.one_mul];omega
   · have D:=Tu (p:=p) (f:=f) F (n:=n) Oa
     unfold ZI at D
     rw [D,upd_ne _ _ (fun h=>e h.symm)];omega
theorem Zd6 {p:Prob} (O:p.Ok):∀(c:Nat) {x:Oe},(p.b8+p.bo-ZI p x p.m.toNat).toNat=c->(∀k,0<=k->k<p.m->0<=x k/\x k<=p.D k)->(∀k,k<0\/p.m<=k->x k=0)->ZI p x p.m.toNat<=p.b8+p.bo->(∃i,0<=i/\i<p.m/\0<x i)->∃z,MPat p w z/\∀k,x k<=z k:=by
 intro c
 induction c using Nat.strongRecOn with
 | _ c ih=>
   intro x hc hr J X G
   by_cases hm:∀i,0<=i->i<p.m->x i<p.D i->p.b8+p.bo-ZI p x p.m.toNat<p.L i+p.bo
   · exact⟨x,⟨hr,J,X,G,hm⟩,fun k=>Int.le_refl _⟩
   · obtain⟨i,hi⟩:=Classical.not_forall.1 hm
     obtain⟨D,hi⟩:=Classical.not_forall.1 hi
     obtain⟨F,hi⟩:=Classical.not_forall.1 hi
     obtain⟨i2,i3⟩:=Classical.not_forall.1 hi
     have he:=Tu (p:=p) (f:=x) D (n:=p.m.toNat) Oa
     have Y:=O.all i D F
     unfold Prob.each at Y
     have U:=O.k1
     obtain⟨z,h1,Z⟩:=ih _ Oa (x:=upd x i (x i+1)) rfl (fun k W V=>by
         by_cases e:k=i
         · rw [e,ZA];have:=hr i D F;omega
         · rw [upd_ne _ _ e];exact hr k W V) (fun k U=>by rw [upd_ne _ _ Oa];exact J k U) Oa
       ⟨i,D,F,by rw [ZA];have:=hr i D F;omega⟩
     refine⟨z,h1,fun k=> ?_⟩
     have I:=Z k
     by_cases e:k=i
     · rw [e,ZA] at I;rw [e];omega
     · rw [upd_ne _ _ e] at I;exact I
theorem Kr{p:Prob}{a:Oe}(X:FitsP p p.m a)(w0:0<=w)(O:w<p.m)(hw:1<=a w)(hd:1<=p.D w):∃i,0<=i/\i<((MX p w).length:Int)/\∀j,0<=j->j<p.m->min (a j) (p.D j)<=YO (MX p w) i j:=by
 have I:=X.ok
 obtain⟨x,G,W⟩:∃x:Oe,(∀j,0<=j->j<p.m->x j=min (a j) (p.D j))/\∀j,j<0\/p.m<=j->x j=0:=
   ⟨fun j=>if 0<=j/\j<p.m then min (a j) (p.D j) else 0,fun j D J=>if_pos ⟨D,J⟩,fun j hj=>if_neg Oa⟩
 have Z:ZI p x p.m.toNat<=p.b8+p.bo:=by
   refine Int.le_trans (Yk fun j D J=> ?_) X.used
   rw [G j D Oa]
   have F:=I.all j D Oa
   unfold Prob.each at F
   have hk:=I.k1
   exact Int.mul_le_mul_of_nonneg_right Oa Oa
 obtain⟨z,h1,F⟩:=Zd6 I (w:=w) _ rfl (fun k V U=>by
     rw [G k V U]
     have F:=I.all k V U
     unfold Prob.each at F
     have:=X.all k V U
     omega) W Z ⟨w,w0,O,by rw [G w w0 O];omega⟩
 have h3:z∈MX p w:=Zm2 I h1 fun _ _=>by
   have:=F w;rw [G w w0 O] at this;omega
 obtain⟨n,hn,e⟩:=List.mem_iff_getElem.1 h3
 refine⟨n,Oa,Oa,fun j D J=> ?_⟩
 have Y:=F j
 rw [G j D J] at Y
 unfold YO
 rw [show((n:Int)).toNat=n by omega,List.getD_eq_getElem?_getD,List.getElem?_eq_getElem hn,Option.getD_some,e]
 exact Y
end Go.Proofs.Gw
namespace Go.Proofs.Gw
open Go Go.RowKit
theorem RB{f:Oe}:∀{n:Nat},1<=Zf f n->∃k,0<=k/\k<(n:Int)/\1<=f k
 |0,h=>by simp [Zf] at h
 | n +1,h=>by
   by_cases e:1<=f n
   · exact⟨n,Oa,Oa,e⟩
   · simp only [Zf] at h
     obtain⟨k,F,h1,D⟩:=RB (f:=f) (n:=n) Oa
     exact⟨k,F,Oa,D⟩
theorem Zhz{p:Prob}{x y:Oe}(h:∀j,0<=j->j<p.m->x j=y j):ZI p x p.m.toNat=ZI p y p.m.toNat:=Zj fun j D F=>by
 rw [h j D Oa]
theorem R9{p:Prob}(D:p.Ok){a:Oe}(h:∀j,0<=j->j<p.m->0<=a j)(O:ZI p a p.m.toNat<=p.b8+p.bo):FitsP p p.m a:=by
 refine⟨D,rfl,fun j F I=>⟨h j F I,?_⟩,O⟩
 have h1:=Xx (f:=fun i=>a i*(p.L i+p.bo)) (n:=p.m.toNat) F Oa (fun i J U=>by
   have G:=D.all i J Oa
   unfold Prob.each at G
   exact Int.mul_nonneg (h i J Oa) (by have:=D.k1;omega))
 have G:=D.all j F I
 unfold Prob.each at G
 have W:=D.k1;have V:=D.s2
 apply Classical.byContradiction;intro hn
 have X:2001*(p.L j+p.bo)<=a j*(p.L j+p.bo):=Int.mul_le_mul_of_nonneg_right Oa Oa
 unfold ZI at O
 omega
def ZO(p:Prob):Int:=Zf p.D p.m.toNat
theorem Wp{p:Prob}(D:p.Ok):0<=ZO p/\ZO p<=20000:=by
 have h:=W4 (f:=p.D) (A:=1000) (n:=p.m.toNat) (fun i F I=>by
   have G:=D.all i F Oa
   unfold Prob.each at G
   omega)
 have:=D.m2
 unfold ZO;omega
end Go.Proofs.Gw
namespace Go.Proofs.YtkichmnjjblodaaGreat
open Go Go.RowKit Go.Proofs.Gw
theorem ZnY:Zc Oj 18=true:=Ob
theorem Za4{p:Prob}{b wi i:Int}(D:ZZ p b wi)(J:0<=i)(I:i<Zr p b wi):(Yc p wi i).Ok:=by
 obtain⟨h1,_⟩:=Ub D J I
 refine Zh6 D.1.1 fun k G F=> ?_
 have O:=h1.ia k G (by rw [<-D.1.1.d];exact F)
 omega
theorem Tw:∀(t:Tr) {p:Prob} {b:Int},wrT t p b=none->∀{L:List (Oe)},LFit p L->(∀j,0<=j->j<p.m->p.D j<=XX L j)->b<L.length:=Tr.ind fun t Y p b h L V hc=>by
 by_cases h0:t.n=0
 · by_cases hl:Ww p b t.nl t.l
   · obtain⟨h1,h2,h3,h4⟩:=hl
     exact ZbH h3 h1.2.2 h4 V hc
   · rw [VF h0 hl] at h;cases h
 · by_cases hs:ZZ p b t.s/\Zr p b t.s=t.n
   · rw [KF h0 hs.1 hs.2] at h
     have hn:Zr p b t.s=(MX p t.s).length:=Xc hs.1
     obtain⟨O,aa,⟨s0,s1⟩,hd,_⟩:=hs.1
     have Z:=O.1
     have he:=Z.all t.s s0 s1
     unfold Prob.each at he
     obtain⟨X,a,W,rfl,ha⟩:=Zff (j:=t.s) (Int.le_trans Oa (hc t.s s0 s1))
     obtain⟨i,J,i1,hi⟩:=Kr (V a (by simp)) s0 s1 ha Oa
     have hk:Zib t p b i=none:=Zdf h i J Oa
     have U:=Za4 hs.1 J Oa
     have F:LFit p (X++W):=fun x D=>V x (by rcases List.mem_append.1 D with D|D<;>simp [D])
     have h5:=Y i J Oa hk (L:=X++W) (fun x D=>by
         obtain⟨_,g2,g3,g4⟩:=F x D
         exact⟨U,rfl,g3,g4⟩) (fun j I G=>by
         have g1:=hc j I G
         have g2:=hi j I G
         have g3:=F.nn I G
         rw [TP,XX] at g1
         rw [TP] at g3⊢
         show p.D j-YO (MX p t.s) i j<=_
         omega)
     rw [List.length_append] at h5⊢
     rw [List.length_cons]
     omega
   · rw [ZbY h0 hs] at h;cases h
theorem Vq(f d:Oe):∀n:Nat,psum f d n=Zf (fun k=>f k*d k) n
 |0=>rfl
 | n+1=>by
   have:=Vq f d n
   simp only [psum,Zf,this]
theorem RL{p:Prob}{u:Int}{ln cnt:Oe}{pt:Of}(h:PlanOk p u ln pt cnt/\∀j,0<=j->j<p.m->p.D j<=Zo u pt cnt j):∃L,LFit p L/\(∀j,0<=j->j<p.m->p.D j<=XX L j)/\(L.length:Int)=psum (fun _=>1) cnt u.toNat:=by
 obtain⟨⟨_,h1,J⟩,I⟩:=h
 obtain⟨L,U,O,g3⟩:=RK (p:=p) (len:=ln) (pt:=pt) (cnt:=cnt) u.toNat fun i G V=>by
   have:=J i G Oa
   exact⟨this.2.2,Oa⟩
 refine⟨L,U,fun j F D=> ?_,?_⟩
 · have:=I j F D
   unfold Zo at this
   rw [O];unfold Wl
   rw [Vq] at this;exact this
 · rw [g3,Vq];exact Zj fun i _ _=>by rw [Int.one_mul]
end Go.Proofs.YtkichmnjjblodaaGreat
namespace Go.Proofs.Gw
open Go Go.RowKit
variable {w:Int} {f:Oe}
def TpN(f:Oe):Nat->Int->Int
  |0=>f
  |d+1=>fun s=>TpN f d s+TpN f d (s+1)
theorem Rg{f:Oe}(h:∀s,0<=f s):∀(d:Nat) (s:Int),0<=TpN f d s
 |0,s=>h s
 | d+1,s=>by
   have:=Rg h d s;have:=Rg h d (s+1)
   simp only [TpN];omega
theorem To(f:Oe)(a:Nat):∀(b:Nat),TpN (TpN f a) b=TpN f (a+b)
 |0=>rfl
 | b+1=>by
   funext s
   have:=To f a b
   show TpN (TpN f a) b s+TpN (TpN f a) b (s+1)=TpN f (a+b) s+TpN f (a+b) (s+1)
   rw [this]
theorem ZaA{f:Oe}(h:∀s,0<=f s)(s:Int):∀d:Nat,Zf (fun k=>f (s+k)) (d+1)<=TpN f d s
 |0=>by simp [Zf,TpN]
 | d +1=>by
   have h1:=ZaA h s d
   have I:f (s+1+d)<=TpN f d (s+1):=by
     have:=ZaA h (s+1) d
     have G:Zf (fun k=>f (s+1+k)) (d+1)=Zf (fun k=>f (s+1+k)) d+f (s+1+d):=rfl
     have F:0<=Zf (fun k=>f (s+1+k)) d:=Yi fun i _ _=>h _
     omega
   have D:Zf (fun k=>f (s+k)) (d+1+1)=Zf (fun k=>f (s+k)) (d+1)+f (s+((d+1:Nat):Int)):=rfl
   have e:s+((d+1:Nat):Int)=s+1+d:=Oa
   rw [D,e]
   simp only [TpN];omega
def Xg{α:Type}(f:α->Int)(l:List α):Int:=(l.map f).sum
theorem Zd8{α:Type}(f:α->Int)(l m:List α):Xg f (l++m)=Xg f l+Xg f m:=by simp [Xg]
theorem Zbb{α:Type}(f:α->Int)(F:Int->List α)(lo:Int):∀c:Nat,Xg f (dn F lo c)=Zf (fun k=>Xg f (F (lo+k))) c
 |0=>rfl
 | c+1=>by
   have:=Zbb f F lo c
   show Xg f (F (lo+c)++dn F lo c)=Zf _ c+_
   rw [Zd8,this];exact Int.add_comm _ _
def tl(p:Prob)(i:Int):Nat:=(ZO p-Zf p.D i.toNat).toNat
theorem Vn{p:Prob}(D:p.Ok):∀(c:Nat) {i:Int},0<=i->i+c<=p.m->Zf p.D i.toNat<=Zf p.D (i+c).toNat
 |0,i,_,_=>by simp
 | c+1,i,i0,h=>by
   have h1:=Vn D c i0 Oa
   have G:=ZH p.D (i:=i+c) Oa
   have F:=D.all (i+c) Oa Oa
   unfold Prob.each at F
   rw [show i+((c+1:Nat):Int)=i+c+1 by omega,G];omega
theorem ZhC{p:Prob}(F:p.Ok){i:Int}(D:0<=i)(G:i<p.m):tl p i=tl p (i+1)+(p.D i).toNat:=by
 have O:=ZH p.D D
 have J:=Vn F (p.m-(i+1)).toNat (i:=i+1) Oa Oa
 rw [show i+1+((p.m-(i+1)).toNat:Int)=p.m by omega] at J
 have I:=F.all i D G
 unfold Prob.each at I
 unfold tl ZO;omega
theorem ZjW(p:Prob):tl p p.m=0:=by unfold tl ZO;omega
theorem ZhB(p:Prob):(tl p 0:Nat)=(ZO p).toNat:=by unfold tl;simp [Zf]
theorem Vz {p:Prob} (F:p.Ok) {w:Int} {f:Oe} (hf:∀s,0<=f s):∀(j:Nat) {i l:Int} {a:Oe},(p.m-i).toNat=j->0<=i->i<=p.m->0<=l->
   (w<i->Xg (fun x=>f (Zf x p.m.toNat)) (exI p w i a l)<=TpN f (tl p i) (Zf a i.toNat))/\
   (i<=w->w<p.m->1<=p.D w->Xg (fun x=>f (Zf x p.m.toNat)) (exI p w i a l)<=TpN f (tl p i-1) (Zf a i.toNat+1))
 | 0,i,l,a,hj,h0,h1,hl=>by
   obtain rfl:i=p.m:=Oa
   refine⟨fun _=> ?_,fun g1 g2=>Oa⟩
   rw [ZjW]
   by_cases hm:ZbP p a l
   · rw [Tk rfl hm];simp [Xg,TpN]
   · rw [Zai rfl hm];simpa [Xg,TpN] using hf _
 | j + 1,i,l,a,hj,h0,h1,hl=>by
   have he:=F.all i h0 Oa
   unfold Prob.each at he
   have aa:=F.k1
   have fE:=ZhC F h0 (show i<p.m by omega)
   rw [Wr h0 Oa,Zbb]
   have kB:most p i l<=p.D i:=by unfold most;omega
   have O:∀k,0<=k->k<=most p i l->0<=l-k*(p.L i+p.bo):=fun k J I=>by
     have:=(XW F h0 Oa hl J I).2.2;omega
   have V:∀k,Zf (upd a i k) (i+1).toNat=Zf a i.toNat+k:=fun k=>by
     rw [ZH _ h0,ZA]
     rw [Zj (g:=a) fun q q0 q1=>by rw [upd_ne _ _ Oa]]
   have W:∀(g:Oe) (c:Nat) (d:Nat) (s:Int),(∀s,0<=g s)->(c:Int)<=d+1->Zf (fun k=>g (s+k)) c<=TpN g d s:=fun g c d s X hc=>by
     refine Int.le_trans ?_ (ZaA X s d)
     have:∀n:Nat,c<=n->Zf (fun k=>g (s+k)) c<=Zf (fun k=>g (s+k)) n:=fun n=>by
       induction n with
       |zero=>intro h;rw [show c=0 by omega];exact Int.le_refl _
       | succ n ih=>
         intro h
         by_cases e:c=n+1
         · rw [e];exact Int.le_refl _
         · have:=ih Oa;have:=X (s+n);simp only [Zf];omega
     exact this (d+1) Oa
   refine⟨fun Z=> ?_,fun Z U hD=> ?_⟩
   · have D:least w i=0:=by unfold least;rw [if_neg Oa]
     rw [D,Int.sub_zero]
     have G:Zf (fun k=>Xg (fun x=>f (Zf x p.m.toNat)) (kid p w i a l (0+k))) (most p i l+1).toNat<=Zf (fun k=>TpN f (tl p (i+1)) (Zf a i.toNat+k)) (most p i l+1).toNat:=Yk fun k J I=>by
       have:=(Vz F (w:=w) hf j (i:=i+1) (l:=l-(0+k)*(p.L i+p.bo)) (a:=upd a i (0+k)) Oa Oa Oa (O (0+k) Oa Oa)).1 Oa
       rw [V,Int.zero_add] at this
       unfold kid;rw [Int.zero_add];exact this
     refine Int.le_trans G (Int.le_trans (W _ _ (p.D i).toNat _ (Rg hf _) Oa) ?_)
     rw [To,<-fE];exact Int.le_refl _
   · by_cases e:w=i
     · subst e
       have D:least w w=1:=by unfold least;rw [if_pos rfl]
       rw [D]
       have G:Zf (fun k=>Xg (fun x=>f (Zf x p.m.toNat)) (kid p w w a l (1+k))) (most p w l+1-1).toNat<=Zf (fun k=>TpN f (tl p (w+1)) (Zf a w.toNat+1+k)) (most p w l+1-1).toNat:=Yk fun k J I=>by
         have:=(Vz F (w:=w) hf j (i:=w+1) (l:=l-(1+k)*(p.L w+p.bo)) (a:=upd a w (1+k)) Oa Oa Oa (O (1+k) Oa Oa)).1 Oa
         rw [V,show Zf a w.toNat+(1+k)=Zf a w.toNat+1+k by omega] at this
         unfold kid;exact this
       refine Int.le_trans G (Int.le_trans (W _ _ ((p.D w).toNat-1) _ (Rg hf _) Oa) ?_)
       rw [To,show tl p (w+1)+((p.D w).toNat-1)=tl p w-1 by omega];exact Int.le_refl _
     · have D:least w i=0:=by unfold least;rw [if_neg e]
       rw [D,Int.sub_zero]
       have Y:1<=tl p (i+1):=by
         have h7:=Vn F (w-(i+1)).toNat (i:=i+1) Oa Oa
         rw [show i+1+((w-(i+1)).toNat:Int)=w by omega] at h7
         have h8:=ZH p.D (i:=w) Oa
         have h9:=Vn F (p.m-(w+1)).toNat (i:=w+1) Oa Oa
         rw [show w+1+((p.m-(w+1)).toNat:Int)=p.m by omega] at h9
         unfold tl ZO;omega
       have G:Zf (fun k=>Xg (fun x=>f (Zf x p.m.toNat)) (kid p w i a l (0+k))) (most p i l+1).toNat<=Zf (fun k=>TpN f (tl p (i+1)-1) (Zf a i.toNat+1+k)) (most p i l+1).toNat:=Yk fun k J I=>by
         have:=(Vz F (w:=w) hf j (i:=i+1) (l:=l-(0+k)*(p.L i+p.bo)) (a:=upd a i (0+k)) Oa Oa Oa (O (0+k) Oa Oa)).2 Oa U hD
         rw [V,Int.zero_add,show Zf a i.toNat+k+1=Zf a i.toNat+1+k by omega] at this
         unfold kid;rw [Int.zero_add];exact this
       refine Int.le_trans G (Int.le_trans (W _ _ (p.D i).toNat _ (Rg hf _) Oa) ?_)
       rw [To,show tl p (i+1)-1+(p.D i).toNat=tl p i-1 by omega];exact Int.le_refl _
theorem ZbQ{p:Prob}(D:p.Ok)(w0:0<=w)(F:w<p.m)(G:1<=p.D w)(hf:∀s,0<=f s):Xg (fun x=>f (Zf x p.m.toNat)) (MX p w)<=TpN f ((ZO p).toNat-1) 1:=by
 have:=(Vz D hf _ (w:=w) (a:=fun _=>0) rfl (Int.le_refl 0) (by have:=D.m1;omega) (show 0<=p.b8+p.bo by have:=D.s1;have:=D.k1;omega)).2 w0 F G
 rw [ZhB] at this
 simpa [MX,Zf] using this
def Gn(n:Int):Int:=if n<0 then 0 else [1,2,4,10,30,104,406].getD n.toNat 0
theorem ZjQ(n:Int):0<=Gn n:=by
 unfold Gn;split
 · omega
 · rw [List.getD_eq_getElem?_getD]
   cases h: [(1:Int),2,4,10,30,104,406][n.toNat]? with
   |none=>simp
   | some x=>
     have:=List.mem_of_getElem? h
     simp at this;simp;omega
theorem six{P:Int->Prop}(h1:P 1)(J:P 2)(I:P 3)(G:P 4)(F:P 5)(D:P 6):∀n:Int,1<=n->n<=6->P n:=fun n a b=>by
 have:n=1\/n=2\/n=3\/n=4\/n=5\/n=6:=Oa
 rcases this with rfl|rfl|rfl|rfl|rfl|rfl<;>assumption
theorem Zoo:∀n:Int,1<=n->n<=6->1+TpN (fun s=>Gn (n-s)) (n.toNat-1) 1<=Gn n:=six (by decide) (by decide) (by decide) (by decide) (by decide) (by decide)
theorem ZaH:∀n:Int,0<=n->n<=6->1<=Gn n/\Gn n<=406:=fun n a b=>by
 by_cases e:n=0
 · subst e;decide
 · exact six (P:=fun n=>1<=Gn n/\Gn n<=406) (by decide) (by decide) (by decide) (by decide) (by decide) (by decide) n Oa b
theorem ZhX:∀n:Int,1<=n->n<=6->TpN (fun _=>1) (n.toNat-1) 1<=100:=six (by decide) (by decide) (by decide) (by decide) (by decide) (by decide)
theorem RZ{α:Type}:∀l:List α,Xg (fun _=>(1:Int)) l=l.length
 | []=>rfl
 |a::l=>by have:=RZ l;simp only [Xg,List.map_cons,List.sum_cons,List.length_cons] at*;omega
theorem Zhu{p:Prob}(D:p.Ok)(w0:0<=w)(G:w<p.m)(O:1<=p.D w)(hn:ZO p<=6):((MX p w).length:Int)<=100/\1<=ZO p:=by
 have h1:1<=ZO p:=by
   have:=Xx (f:=p.D) (n:=p.m.toNat) w0 Oa (fun i I U=>by
     have J:=D.all i I Oa
     unfold Prob.each at J;omega)
   unfold ZO;omega
 refine⟨?_,h1⟩
 have F:=ZbQ D w0 G O (f:=fun _=>1) (fun _=>Oa)
 rw [RZ] at F
 exact Int.le_trans F (ZhX _ h1 hn)
theorem RY(f:(Oe)->Int):∀l:List (Oe),Zf (fun k=>f (YO l k)) l.length=Xg f l
 | []=>rfl
 | a ::l=>by
   rw [List.length_cons,VI]
   have e:Zf (fun i=>f (YO (a::l) (i+1))) l.length=Zf (fun i=>f (YO l i)) l.length:=Zj fun i F D=>by
     unfold YO;rw [show(i+1).toNat=i.toNat+1 by omega];rfl
   rw [e,RY f l];simp [Xg,YO]
end Go.Proofs.Gw
namespace Go.Proofs.Gw
open Go Go.RowKit
variable {w:World}
def Tr.iv(E T:TypeId):Tr->Frame| .nil=>Frame.gm []| .mk s vK n kid vL nl l=>Frame.gm [.own vK 3 E n (Xd kid),.own vL 1 T nl (ints l),.sem (Frame.all n fun i=>(kid i).iv E T)]
def UR:Tr->Prop
  | .nil=>True
  | .mk s vK n kid vL nl l=>((-9223372036854775808<=s/\s<=9223372036854775807)/\56*n<=140737488351232/\∀k,-9223372036854775808<=l k/\l k<=9223372036854775807)/\∀i,0<=i->i<n->UR (kid i)
theorem Tr.i6{E T:TypeId}:∀t:Tr,UR t->(t.iv E T).holds w->KAt w t/\LvAt w t:=Tr.ind fun t O hr hf=>by
 cases t with
 |nil=>exact⟨trivial,trivial⟩
 | mk s vK n kid vL nl l=>
   have G:(Frame.gm [.own vK 3 E n (Xd kid),.own vL 1 T nl (ints l),.sem (Frame.all n fun i=>(kid i).iv E T)]).holds w:=hf
   have Y:=G.1 _ (List.mem_cons_self ..)
   have U:=G.1 _ (List.mem_cons_of_mem _ (List.mem_cons_self ..))
   have g3:=G.1 (.sem _) (List.mem_cons_of_mem _ (List.mem_cons_of_mem _ (List.mem_cons_self ..)))
   have I:((-9223372036854775808<=s/\s<=9223372036854775807)/\56*n<=140737488351232/\∀k,-9223372036854775808<=l k/\l k<=9223372036854775807)/\∀i,0<=i->i<n->UR (kid i):=hr
   obtain⟨⟨X,W,V⟩,J⟩:=I
   refine⟨⟨⟨Y.row,W⟩,fun i F D=>(O i F D (J i F D) (g3.1 i F D)).1⟩,⟨⟨U.row,V⟩,Ent.holds.roomy U,X⟩,fun i F D=>(O i F D (J i F D) (g3.1 i F D)).2⟩
theorem Sat.lu{w0:World}{l:List Ent}{E T:TypeId}{v vL:Value}{n nl:Int}{kid:Int->Tr}{f:Oe}(h:Sat w0 w (l++ [.own v 3 E n (Xd kid),.own vL 1 T nl (ints f),.sem (Frame.all n fun i=>(kid i).iv E T)]))(s:Int):Sat w0 w (l++ [.sem ((Tr.mk s v n kid vL nl f).iv E T)]):=by
 exact h.gg (l2:= [.own v 3 E n (Xd kid),.own vL 1 T nl (ints f),.sem (Frame.all n fun i=>(kid i).iv E T)])
theorem Sat.gx{w0:World}{l:List Ent}(h:Sat w0 w l)(E T:TypeId):Sat w0 w (l++ [.sem (Tr.nil.iv E T)]):=by
 refine h.comp (m:= [.sem (Tr.nil.iv E T)]) ⟨Below.refl _ _,?_,?_,List.pairwise_singleton _ _⟩
 · intro e D;obtain rfl:=List.mem_singleton.1 D;exact⟨fun e D=>(by cases D),List.Pairwise.nil⟩
 · intro e D g F;obtain rfl:=List.mem_singleton.1 D;obtain⟨e,D,_⟩:=F;cases D
end Go.Proofs.Gw
namespace Go.Proofs.YtkichmnjjblodaaGreat
open Go Go.RowKit Go.Proofs.Gw
variable {C b c e i lf m wi:Int} {cnt ln ln2 qg:Oe} {pt pt2:Of}
def PMt(p:Prob)(u:Int)(ln:Oe)(pt:Of)(cnt:Oe):Prop:=PlanOk p u ln pt cnt/\∀j,0<=j->j<p.m->p.D j<=Zo u pt cnt j
def brs(u:Int)(cnt:Oe):Int:=psum (fun _=>1) cnt u.toNat
def Kw(p:Prob):Prop:=p.Ok/\∀j,0<=j->j<p.m->p.D j<=0
theorem XQ(p:Prob):psum (fun _=>1) p.D p.m.toNat=ZO p:=by
 rw [Vq];exact Zj fun i _ _=>by rw [Int.one_mul]
theorem Za9{p:Prob}(I:p.Ok)(h:1<=ZO p):∃w,0<=w/\w<p.m/\1<=p.D w:=by
 obtain⟨k,F,G,D⟩:=RB (f:=p.D) (n:=p.m.toNat) h
 exact⟨k,F,Oa,D⟩
theorem BestR.np{p:Prob}{out:Us}(h:BestR p out e)(D:p.Ok):(e=0->ZO p<=1000)/\(ZO p<=1000->e=0):=by
 have hc:∀{l:Us} {e:Int},FFitR p l e->(e=0->ZO p<=1000)/\(ZO p<=1000->e=0):=fun {l e} hf=>by
   have h1:=hf.1
   unfold ZeH at h1
   rw [XQ] at h1
   rcases h1 with⟨g,_⟩|⟨_,g1,g2⟩|⟨_,g1,g2⟩
   · exact absurd D g
   · exact⟨fun _=>Oa,fun _=>Oa⟩
   · exact⟨fun _=>Oa,fun _=>Oa⟩
 rcases h with⟨h1,h2,_⟩|⟨h1,l,h2,_⟩
 · exact hc h2
 · have:=hc h2;exact⟨fun _=>this.1 rfl,fun _=>h1⟩
theorem BestR.meets {p:Prob} {n:Int} (h:BestR p (plL n ln pt cnt) e) (D:p.Ok) (U:e=0) (n0:0<=n):PMt p n ln pt cnt/\brs n cnt<=ZO p:=by
 have X:=(BestR.np h D).1 U
 have F:ExU p (plL n ln pt cnt):=by
   rcases h with⟨h1,_⟩|⟨_,l,h2,u,ml,mf,s,ec,u0,hc,h3⟩
   · exact absurd U h1
   · have O:=h2.ex D rfl
     rcases h3 with⟨_,h4⟩|⟨_,h3⟩
     · rw [h4];exact O
     · rcases h3 with⟨h4,_⟩|⟨h4,_⟩|⟨_,x,f,y,g,F,hy,G⟩
       · omega
       · omega
       · rw [G];exact V9 (V9 O F.ex) hy.ex
 obtain⟨⟨g1,Z,g3⟩,Y⟩:=F.sound D (by rw [XQ];exact X) n0
 refine⟨⟨⟨g1,Z,fun k J I=>⟨(g3 k J I).2.1,(g3 k J I).2.2,(g3 k J I).1⟩⟩,fun j W V=> ?_⟩,?_⟩
 · have:=Y j W V
   rw [Th] at this
   unfold Zo;omega
 · have G:=F.lj
   rw [XQ,Zt _ n0] at G
   exact G
def Zm6(p:Prob)(b u:Int)(ln:Oe)(pt:Of)(cnt:Oe)(ok:Prop):Prop:=(ok->PMt p u ln pt cnt/\brs u cnt<=b)/\(ZO p<=b->ok)
theorem Ku{p:Prob}{y z:Oe}:∀(j:Nat),(∀i,0<=i->i<(j:Int)->y i=z i)->Tab p y j=Tab p z j
 |0,_=>rfl
 | j+1,h=>by
   funext c
   have:=Ku (p:=p) j fun i D F=>h i D Oa
   simp only [Tab]
   rw [this,h j Oa Oa]
theorem Zeg{p:Prob}{n q:Int}{y z:Oe}(hn:n=p.m->∀i,0<=i->i<p.m->y i=z i)(h:Chk p n y q=0):Chk p n z q=0/\YZ p n z q=YZ p n y q:=by
 obtain⟨I,hf,J,V⟩:=Gw.WO h
 have D:=hn J
 have W:=I.m1
 have h1:Chk p n z q=0:=by
   refine Zgr I ⟨hf.1,hf.2.1,fun k G O=>by rw [<-D k G Oa];exact hf.2.2 k G O⟩ J ?_
   unfold WV at V⊢
   rw [<-Ku (y:=y) p.m.toNat fun i F U=>D i F Oa]
   omega
 refine⟨h1,?_⟩
 rw [VQ h1,VQ h]
 unfold Bnd
 rw [VB,VB,Zj (f:=fun i=>p.D i*z i) (g:=fun i=>p.D i*y i) fun i F U=>by rw [D i F Oa]]
def lfn(m q:Int)(y:Oe):Oe:=fun k=>if 0<=k/\k<=m then Ki q y k else 0
def LfR(p:Prob)(b n:Int)(l:Oe)(ok:Prop):Prop:=(ok->Ww p b n l/\n<=40/\∀k,Z0 (l k))/\(b=0->1<=ZO p->ok)
def ZdS(p:Prob)(c:Ct)(m:Int):Prop:=m<0\/(Chk p c.n c.y c.q=0/\m=YZ p c.n c.y c.q)
theorem VM{p:Prob}{b c G:Ct}{D:Int}(h:ZdS p b m)(F:(G,D)=W8 p (b,m) c e):ZdS p G D/\m<=D/\(e=0->Chk p c.n c.y c.q=0->YZ p c.n c.y c.q<=D):=by
 by_cases hc:e=0/\Chk p c.n c.y c.q=0/\m<YZ p c.n c.y c.q
 · rw [<-RQ hc.1 hc.2.1 hc.2.2] at F
   obtain⟨rfl,rfl⟩:=Prod.mk.inj F
   exact⟨.inr ⟨hc.2.1,rfl⟩,Oa,fun _ _=>Int.le_refl _⟩
 · rw [<-Uc hc] at F
   obtain⟨rfl,rfl⟩:=Prod.mk.inj F
   refine⟨h,Int.le_refl _,fun h1 I=> ?_⟩
   apply Classical.byContradiction;intro J
   exact hc ⟨h1,I,Oa⟩
theorem RX{p:Prob}(D:p.Ok):∀(j:Nat),(j:Int)<=p.m->∀c,0<=c->Tab p (fun k=>p.L k+p.bo) j c<=c
 |0,_,c,hc=>hc
 | j+1,hj,c,hc=>by
   have G:=D.all j Oa Oa
   unfold Prob.each at G
   have I:=D.k1
   simp only [Tab]
   obtain⟨n,O,J,F⟩:=ZbO (Tab p (fun k=>p.L k+p.bo) j) (p.L j+p.bo) (p.L j+p.bo) (p.D j).toNat c hc
   rw [F]
   have:=RX D j Oa (c-n*(p.L j+p.bo)) Oa
   omega
theorem Zc4{p:Prob}(D:p.Ok):Chk p (Ue p).n (Ue p).y (Ue p).q=0:=by
 have h1:=D.s1;have V:=D.s2;have U:=D.k1;have O:=D.k2;have J:=D.m1
 refine Zgr D ⟨by show 1<=p.b8+p.bo;omega,by show p.b8+p.bo<=_;omega,fun k G F=> ?_⟩ rfl ?_
 · have I:=D.all k G F
   unfold Prob.each at I
   show 0<=p.L k+p.bo/\p.L k+p.bo<=_
   omega
 · have:=RX D p.m.toNat Oa (p.b8+p.bo) Oa
   show¬p.b8+p.bo<WV p fun k=>p.L k+p.bo
   unfold WV;omega
theorem Zh3{p:Prob}(D:p.Ok)(h:1<=ZO p):1<=YZ p (Ue p).n (Ue p).y (Ue p).q:=by
 rw [VQ (Zc4 D)]
 obtain⟨w,w0,I,G⟩:=Za9 D h
 have h1:=D.s1;have W:=D.k1
 have V:1<=Tot p.D (Ue p).y p.m.toNat:=by
   rw [VB]
   have:=Xx (f:=fun i=>p.D i*(p.L i+p.bo)) (n:=p.m.toNat) w0 Oa fun i J O=>by
     have F:=D.all i J Oa;unfold Prob.each at F
     exact Int.mul_nonneg Oa Oa
   have F:=D.all w w0 I
   unfold Prob.each at F
   have U:1*1<=p.D w*(p.L w+p.bo):=Int.mul_le_mul G Oa Oa Oa
   show 1<=Zf (fun i=>p.D i*(p.L i+p.bo)) p.m.toNat
   omega
 show 1<=(Tot p.D (Ue p).y p.m.toNat+(p.b8+p.bo)-1).tdiv (p.b8+p.bo)
 rw [Int.tdiv_eq_ediv_of_nonneg Oa]
 exact(Int.le_ediv_iff_mul_le Oa).2 Oa
theorem DBestR.good{p:Prob}{c:Ct}(h:DBestR p c m e)(G:p.Ok):e=0/\ZdS p c m/\(1<=ZO p->1<=m):=by
 rcases h with⟨g,_⟩|⟨_,he,c1,e1,c2,e2,c3,e3,h1,h2,h3,h4⟩
 · exact absurd G g
 · refine⟨he,?_⟩
   obtain⟨U,J,F⟩:∃b m,(b,m)=W8 p (Ct.iq,-1) c1 e1:=⟨_,_,rfl⟩
   rw [<-F] at h4
   obtain⟨W,V,D⟩:∃b m,(b,m)=W8 p (U,J) c2 e2:=⟨_,_,rfl⟩
   rw [<-D] at h4
   have O:=VM (.inl Oa) F
   have I:=VM O.1 D
   have g3:=VM I.1 h4
   refine⟨g3.1,fun hn=> ?_⟩
   rcases h2 with⟨g,_⟩|⟨_,rfl,rfl⟩
   · exact absurd G g
   · have:=I.2.2 rfl (Zc4 G)
     have:=Zh3 G hn
     omega
theorem Zh7 {p:Prob} {n:Int} {c:Ct} (D:Yg p b) (h:ZdS p c m) (hb:b<m) (hn:n=c.n+1):Ww p b n (lfn c.n c.q c.y)/\n<=40/\∀k,Z0 (lfn c.n c.q c.y k):=by
 have W:=D.2.1
 rcases h with h|⟨h1,h2⟩
 · omega
 · obtain⟨G,hf,he,_⟩:=Gw.WO h1
   have V:=G.m1;have U:=G.m2
   have F:lfn c.n c.q c.y 0=c.q:=by unfold lfn Ki;rw [if_pos ⟨by omega,Oa⟩,if_pos Oa]
   have J:∀k,0<=k->k<c.n->lfn c.n c.q c.y (k+1)=c.y k:=fun k Y X=>by
     unfold lfn Ki;rw [if_pos ⟨by omega,Oa⟩,if_neg Oa,show k+1-1=k by omega]
   have I:=Zeg (z:=fun k=>lfn c.n c.q c.y (k+1)) (fun _ i O Z=>(J i O Oa).symm) h1
   refine⟨⟨D,Oa,?_,?_⟩,Oa,fun k=> ?_⟩
   · rw [F,show n-1=c.n by omega];exact I.1
   · rw [F,show n-1=c.n by omega,I.2];omega
   · unfold Z0
     by_cases hk:0<=k/\k<=c.n
     · by_cases hk0:k=0
       · rw [hk0,F];have:=hf.1;have:=hf.2.1;omega
       · have:=J (k-1) Oa Oa
         rw [show k-1+1=k by omega] at this
         rw [this];have:=hf.2.2 (k-1) Oa Oa;omega
     · unfold lfn;rw [if_neg hk];omega
def Vg(p:Prob)(b c:Int)(t:Tr)(u:Int)(ln:Oe)(pt:Of)(cnt:Oe)(ok:Prop)(lf:Int):Prop:=
  1<=c/\(ZO p<=6->c<=Gn (ZO p))/\(¬ok->Rj t/\u=0/\(ZO p<=6->lf<0))/\
  (ok->(Rj t/\PMt p u ln pt cnt/\brs u cnt<=b)\/(u=0/\wrT t p b=none/\(0<t.n\/0<t.nl)/\(t.ok/\UR t)/\(ZO p<=6->t.nodes=c/\t.depth<=ZO p+1)))
theorem Yw:Rj Tr.nil:=⟨rfl,rfl,rfl⟩
theorem Td{p:Prob}(D:p.Ok):ZO p<=6->1<=Gn (ZO p):=fun h=>(ZaH _ (Wp D).1 h).1
theorem ZhI{p:Prob}(D:p.Ok)(h:lf<0):Vg p b 1 .nil 0 ln pt cnt False lf:=
 ⟨Int.le_refl _,Td D,fun _=>⟨Yw,rfl,fun _=>h⟩,fun h=>h.elim⟩
theorem ZhK{p:Prob}{u:Int}{ok:Prop}(D:p.Ok)(h:Zm6 p b u ln pt cnt ok)(F:ok):Vg p b 1 .nil u ln pt cnt True lf:=
 ⟨Int.le_refl _,Td D,fun h=>absurd trivial h,fun _=> .inl ⟨Yw,h.1 F⟩⟩
theorem Ze1{x:Int}(h:Z0 x): -9223372036854775808<=x/\x<=9223372036854775807:=by unfold Z0 at h;omega
theorem ZeX{p:Prob}{nl:Int}{l:Oe}{vK vL:Value}{kid:Int->Tr}{ok:Prop}(D:p.Ok)(h:LfR p b nl l ok)(J:ok):Vg p b 1 (.mk 0 vK 0 kid vL nl l) 0 ln pt cnt True lf:=by
 obtain⟨h1,O,F⟩:=h.1 J
 refine⟨Int.le_refl _,Td D,fun h=>absurd trivial h,fun _=> .inr ⟨rfl,X7 rfl h1,.inr ?_,⟨⟨⟨by show Z0 0;unfold Z0;omega,by show(0:Int)<=100;omega,O,.inl rfl,fun _=>rfl,fun k _ _=>F k⟩,fun i I G=>Oa⟩,⟨⟨by omega,Oa,fun k=>Ze1 (F k)⟩,fun i I G=>Oa⟩⟩,fun hn=> ?_⟩⟩
 · have:=h1.2.1;show 0<nl;omega
 · have:=(Wp D).1
   refine⟨rfl,?_⟩
   show IntKind.i64.wrap (0+1)<=_
   have:IntKind.i64.wrap (0+1)=1:=by decide
   omega
theorem ZaP{p:Prob}{V nl:Int}{l:Oe}{G F:Prop}(D:Yg p b)(h1:Zm6 p b V ln2 pt2 qg G)(n1:¬G)(Y:LfR p b nl l F)(n2:¬F)(X:∀wi,ZZ p b wi->100<Zr p b wi):Vg p b 1 .nil 0 ln pt cnt False lf:=by
 have I:=D.1
 refine⟨Int.le_refl _,Td I,fun _=>⟨Yw,rfl,fun hn=> ?_⟩,fun h=>h.elim⟩
 exfalso
 have h4:¬ZO p<=b:=fun h=>n1 (h1.2 h)
 have W:=D.2.1
 have h5:b≠0:=fun h=>n2 (Y.2 h Oa)
 obtain⟨w,w0,J,U⟩:=Za9 I Oa
 have Z:=(Zhu I w0 J U hn).1
 have O:ZZ p b w:=⟨D,Oa,⟨w0,J⟩,Oa,Oa⟩
 have:=X w O
 rw [Xc O] at this
 omega
theorem Vu{p:Prob}(D:ZZ p b wi)(I:0<=i)(G:i<Zr p b wi):ZO (Yc p wi i)=ZO p-Zf (YO (MX p wi) i) p.m.toNat/\1<=Zf (YO (MX p wi) i) p.m.toNat:=by
 obtain⟨h1,U⟩:=Ub D I G
 have e:Zf (fun j=>p.D j-YO (MX p wi) i j) p.m.toNat+Zf (YO (MX p wi) i) p.m.toNat=Zf p.D p.m.toNat:=by
   rw [<-Vm];exact Zj fun j _ _=>Oa
 have O:=Xx (f:=YO (MX p wi) i) (n:=p.m.toNat) D.2.2.1.1 (by have:=D.2.2.1.2;omega) fun j F J=>(h1.ia j F Oa).1
 refine⟨?_,Oa⟩
 show Zf (fun j=>p.D j-YO (MX p wi) i j) p.m.toNat=Zf p.D p.m.toNat-_
 omega
theorem Za3{p:Prob}(D:ZZ p b wi)(hn:ZO p<=6):1+Zf (fun k=>Gn (ZO (Yc p wi k))) (Zr p b wi).toNat<=Gn (ZO p):=by
 have G:=D.1.1
 obtain⟨w0,F⟩:=D.2.2.1
 have I:1<=p.D wi:=by have U:=G.all wi w0 F;unfold Prob.each at U;have:=D.2.2.2.1;omega
 have h1:=(Zhu G w0 F I hn).2
 have X:=ZbQ G w0 F I (f:=fun s=>Gn (ZO p-s)) fun s=>ZjQ _
 have W:=Zoo _ h1 hn
 have V:Zf (fun k=>Gn (ZO (Yc p wi k))) (Zr p b wi).toNat=Xg (fun x=>Gn (ZO p-Zf x p.m.toNat)) (MX p wi):=by
   rw [<-RY,Xc D,Int.toNat_natCast]
   exact Zj fun k O J=>by rw [(Vu D O (by rw [Xc D];exact J)).1]
 omega
theorem Zd4{p:Prob}(D:ZZ p b wi)(hn:ZO p<=6)(J:0<=i)(I:i<=Zr p b wi):1+Zf (fun k=>Gn (ZO (Yc p wi k))) i.toNat<=Gn (ZO p):=by
 have h1:=Za3 D hn
 have G:∀c:Nat,Zf (fun k=>Gn (ZO (Yc p wi k))) i.toNat<=Zf (fun k=>Gn (ZO (Yc p wi k))) (i.toNat+c):=fun c=>by
   induction c with
   |zero=>exact Int.le_refl _
   |succ c ih=>have:=ZjQ (ZO (Yc p wi ((i.toNat+c:Nat):Int)));show _<=Zf (fun k=>Gn (ZO (Yc p wi k))) (i.toNat+c)+Gn (ZO (Yc p wi ((i.toNat+c:Nat):Int)));omega
 have F:=G (Zr p b wi-i).toNat
 rw [show i.toNat+(Zr p b wi-i).toNat=(Zr p b wi).toNat by omega] at F
 omega
structure Upto (p:Prob) (b wi i C:Int) (kd:Int->Tr):Prop where
  one:1<=C
  lj:ZO p<=6->C<=1+Zf (fun k=>Gn (ZO (Yc p wi k))) i.toNat
  all:∀k,0<=k->k<i->wrT (kd k) (Yc p wi k) (b-1)=none/\(kd k).ok/\UR (kd k)
  cnt:ZO p<=6->UC (fun k=>(kd k).nodes) i.toNat=C/\0<=VO (fun k=>(kd k).depth) i.toNat/\VO (fun k=>(kd k).depth) i.toNat<=ZO p
theorem Upto.start{p:Prob}(D:p.Ok)(kd:Int->Tr):Upto p b wi 0 1 kd:=
 ⟨Int.le_refl _,fun _=>by simp [Zf],fun k G F=>Oa,fun _=>⟨rfl,Int.le_refl _,(Wp D).1⟩⟩
theorem Upto.calls{p:Prob}{G:Int->Tr}{t:Tr}{u:Int}{ok:Prop}(h:Upto p b wi i C G)(F:ZZ p b wi)(D:0<=i)(I:i<Zr p b wi)(hc:Vg (Yc p wi i) (b-1) c t u ln pt cnt ok lf)(hn:ZO p<=6):C+c<=1+Zf (fun k=>Gn (ZO (Yc p wi k))) (i+1).toNat/\C+c<=Gn (ZO p):=by
 have h1:=Vu F D I
 have V:=hc.2.1 Oa
 have U:=h.lj hn
 have O:=ZH (fun k=>Gn (ZO (Yc p wi k))) D
 have J:=Zd4 F hn (i:=i+1) Oa Oa
 omega
theorem Upto.next{p:Prob}{D:Int->Tr}{t:Tr}{u:Int}{ok:Prop}(h:Upto p b wi i C D)(G:ZZ p b wi)(F:0<=i)(J:i<Zr p b wi)(hc:Vg (Yc p wi i) (b-1) c t u ln pt cnt ok lf)(ho:ok)(W:¬(0<u\/(t.n=0/\t.nl=0/\Kw (Yc p wi i)))):Upto p b wi (i+1) (C+c) (gsn D i t):=by
 have O:wrT t (Yc p wi i) (b-1)=none/\(t.ok/\UR t)/\(ZO (Yc p wi i)<=6->t.nodes=c/\t.depth<=ZO (Yc p wi i)+1):=by
   rcases hc.2.2.2 ho with⟨g1,g2,g3⟩|⟨g1,g2,g3,g4,g5⟩
   · exfalso
     have V:¬0<u:=fun V=>W (.inl V)
     refine W (.inr ⟨g1.2.2,g1.2.1,g2.1.1,fun j j0 Z=> ?_⟩)
     have:=g2.2 j j0 Z
     unfold Zo at this
     rw [show u.toNat=0 by omega] at this
     exact this
   · exact⟨g2,g4,g5⟩
 have aa:=hc.1
 have h1:=h.one
 refine⟨by omega,fun hn=>(h.calls G F J hc hn).1,fun k I U=> ?_,fun hn=> ?_⟩
 · by_cases e:k<i
   · rw [Zp e];exact h.all k I e
   · rw [Zq e,show k=i by omega];exact⟨O.1,O.2.1⟩
 · obtain⟨Y,q2,q3⟩:=h.cnt hn
   have q4:=Vu G F J
   obtain⟨X,q6⟩:=O.2.2 Oa
   have q7:=(h.calls G F J hc hn).2
   have q8:=ZaH (ZO p) (Wp G.1.1).1 hn
   have e1:UC (fun k=>(gsn D i t k).nodes) i.toNat=UC (fun k=>(D k).nodes) i.toNat:=TA fun k I U=>by rw [Zp Oa]
   have e2:VO (fun k=>(gsn D i t k).depth) i.toNat=VO (fun k=>(D k).depth) i.toNat:=TO fun k I U=>by rw [Zp Oa]
   rw [RA _ F,RW _ F,e1,e2,Y,YE,X]
   refine⟨I64.wrap (by unfold I64;omega),Oa,Oa⟩
theorem ZhG{p:Prob}{I:Int->Tr}{t:Tr}{u:Int}{ok:Prop}(h:Upto p b wi i C I)(G:ZZ p b wi)(F:0<=i)(D:i<Zr p b wi)(hc:Vg (Yc p wi i) (b-1) c t u ln pt cnt ok lf)(J:¬ok):Vg p b (C+c) .nil 0 ln2 pt2 qg False lf:=by
 have h1:=h.one;have O:=hc.1
 refine⟨by omega,fun hn=>(h.calls G F D hc hn).2,fun _=>⟨Yw,rfl,fun hn=> ?_⟩,fun h=>h.elim⟩
 have:=Vu G F D
 exact(hc.2.2.1 J).2.2 Oa
theorem Zec{p:Prob}{n:Int}{f:Oe}(D:p.Ok)(h:FitsP (Yc p wi i) n f):FitsP p n f:=⟨D,h.eq,h.all,h.used⟩
theorem W5{f d g e:Oe}:∀n:Nat,(∀k,0<=k->k<(n:Int)->f k=g k/\d k=e k)->psum f d n=psum g e n
 |0,_=>rfl
 | n+1,h=>by
   have h1:=W5 n fun k D I=>h k D Oa
   obtain⟨G,F⟩:=h n Oa Oa
   simp only [psum];rw [h1,G,F]
theorem ZeW {p:Prob} {kd:Int->Tr} {t:Tr} {u:Int} {ok:Prop} {x:Oe} (h:Upto p b wi i C kd) (G:ZZ p b wi) (i0:0<=i) (i1:i<Zr p b wi) (hc:Vg (Yc p wi i) (b-1) c t u ln pt cnt ok lf) (ho:ok) (hm:0<u\/(t.n=0/\t.nl=0/\Kw (Yc p wi i))) (Z:0<=u) {m9:Int} (X:m9=p.m) (O:∀j,0<=j->j<p.m->x j=YO (MX p wi) i j):Vg p b (C+c) .nil (u+1) (gsn ln u m9) (gsn pt u x) (snoc cnt u 1) True lf/\u<1000:=by
 subst X
 have h1:=h.one;have h2:=hc.1
 have V:=G.1.1
 obtain⟨m1,m2⟩:=Ub G i0 i1
 have ac:=G.1.2.2
 have U:PMt (Yc p wi i) u ln pt cnt/\brs u cnt<=b-1:=by
   rcases hc.2.2.2 ho with⟨g1,g2,g3⟩|⟨g1,g2,g3,g4,g5⟩
   · exact⟨g2,g3⟩
   · exfalso;omega
 obtain⟨⟨⟨_,I,k2⟩,k3⟩,k4⟩:=U
 have aa:u<=brs u cnt:=by
   have:∀n:Nat,(n:Int)<=u->(n:Int)<=psum (fun _=>1) cnt n:=fun n=>by
     induction n with
     |zero=>intro _;simp [psum]
     | succ n ih=>
       intro hn
       have a1:=ih Oa
       have a2:=(k2 n Oa Oa).1
       simp only [psum];omega
   have a3:=this u.toNat Oa
   unfold brs;omega
 have Y:FitsP p p.m x:=by
   refine R9 V (fun j F D=>by rw [O j F D];exact(m1.ia j F D).1) ?_
   rw [Zhz O];exact m1.used
 have W:∀j,Zo (u+1) (gsn pt u x) (snoc cnt u 1) j=Zo u pt cnt j+x j:=fun j=>by
   rw [YP Z]
   have e:Zo u (gsn pt u x) (snoc cnt u 1) j=Zo u pt cnt j:=W5 _ fun k J I=>⟨by show gsn pt u x k j=_;rw [Zp Oa],Zl Oa⟩
   rw [e,YE,Zk Oa];omega
 have ab:brs (u+1) (snoc cnt u 1)=brs u cnt+1:=by
   unfold brs
   rw [YG _ _ Z,Zk Oa,W5 (g:=fun _=>1) (e:=cnt) u.toNat fun k J I=>⟨rfl,Zl Oa⟩]
   omega
 refine⟨⟨by omega,fun hn=>(h.calls G i0 i1 hc hn).2,fun h=>absurd trivial h,fun _=> .inl ⟨Yw,⟨⟨V,Oa,fun k J I=> ?_⟩,fun j F D=> ?_⟩,Oa⟩⟩,Oa⟩
 · by_cases e:k<u
   · rw [Zp e,Zp e,Zl e]
     obtain⟨a1,a2,a3⟩:=k2 k J e
     exact⟨a1,a2,Zec V a3⟩
   · rw [Zq e,Zq e,Zk e]
     exact⟨by omega,Oa,Y⟩
 · rw [W,O j F D]
   have:=k3 j F D
   have e:(Yc p wi i).D j=p.D j-YO (MX p wi) i j:=rfl
   omega
theorem Zfv{f:Int->Option (List Int)}:∀(c:Nat) (i:Int),(∀k,i<=k->k<i+c->f k=none)->fw f c i=none
 |0,_,_=>rfl
 | c+1,i,h=>by
   unfold fw
   rw [h i Oa Oa]
   exact Zfv c (i+1) fun k F D=>h k Oa Oa
theorem Ze0{p:Prob}(D:ZZ p b wi):1<=Zr p b wi:=by
 have G:=D.1.1
 obtain⟨w0,F⟩:=D.2.2.1
 have U:=G.all wi w0 F
 unfold Prob.each at U
 have O:ZI p (fun _=>0) p.m.toNat=0:=by
   unfold ZI
   rw [Zj (g:=fun _=>0) fun i J I=>by simp]
   exact Yd _
 have h1:=Tu (p:=p) (f:=fun _=>0) w0 (n:=p.m.toNat) Oa
 have hf:FitsP p p.m (upd (fun _=>0) wi (0+1)):=R9 G (fun j X W=>by by_cases e:j=wi;(rw [e,Gw.ZA];omega);(rw [Gw.upd_ne _ _ e];exact Int.le_refl _)) (by have V:ZI p (Gw.upd (fun _=>0) wi (0+1)) p.m.toNat=ZI p (fun _=>0) p.m.toNat+(p.L wi+p.bo):=h1;rw [V,O];omega)
 obtain⟨i,J,I,_⟩:=Kr hf w0 F (by rw [ZA];omega) (by have:=D.2.2.2.1;omega)
 rw [Xc D];omega
theorem ZeV{p:Prob}{F:Int->Tr}{vK vL:Value}{l:Oe}(h:Upto p b wi (Zr p b wi) C F)(D:ZZ p b wi)(Y:Zr p b wi<=100):Vg p b C (.mk wi vK (Zr p b wi) F vL 0 l) 0 ln pt cnt True lf\/¬(∀k,-9223372036854775808<=l k/\l k<=9223372036854775807):=by
 by_cases hl:∀k,-9223372036854775808<=l k/\l k<=9223372036854775807
 · left
   have h1:=Ze0 D
   have W:=D.1.1
   obtain⟨w0,w1⟩:=D.2.2.1
   have X:=W.m2
   refine⟨h.one,fun hn=> ?_,fun h=>absurd trivial h,fun _=> .inr ⟨rfl,?_,.inl ?_,⟨⟨⟨?_,Y,?_,.inr rfl,fun h0=> ?_,fun k U I=> ?_⟩,fun i O J=>(h.all i O J).2.1⟩,⟨⟨by omega,Oa,hl⟩,fun i O J=>(h.all i O J).2.2⟩⟩,fun hn=> ?_⟩⟩
   · have:=h.lj hn;have:=Za3 D hn;omega
   · rw [KF (t:= .mk wi vK (Zr p b wi) F vL 0 l) (by show Zr p b wi≠0;omega) D rfl]
     refine Zfv _ _ fun k U I=> ?_
     exact(h.all k U (by have G:k<0+((Zr p b wi-0).toNat:Int):=I;omega)).1
   · show 0<Zr p b wi;omega
   · show Z0 wi;unfold Z0;omega
   · show(0:Int)<=40;omega
   · have Z:Zr p b wi=0:=h0;omega
   · have G:k<(0:Int):=I;omega
   · obtain⟨V,q2,q3⟩:=h.cnt hn
     refine⟨V,?_⟩
     show IntKind.i64.wrap (VO (fun k=>(F k).depth) (Zr p b wi).toNat+1)<=_
     rw [I64.wrap (by unfold I64;omega)];omega
 · exact .inr hl
theorem Zjs{p:Prob}{u:Int}{t:Tr}{ok:Prop}(h:Vg p b c t u ln pt cnt ok lf):u<=1000:=by
 by_cases ho:ok
 · rcases h.2.2.2 ho with⟨_,g,_⟩|⟨g,_⟩
   · exact g.1.2.1
   · omega
 · have:=(h.2.2.1 ho).2.1;omega
theorem Zd5{p:Prob}(D:ZZ p b wi)(G:0<=i)(F:i<Zr p b wi):Yg (Yc p wi i) (b-1):=⟨Za4 D G F,by have:=D.2.1;omega,by have:=D.1.2.2;omega⟩
theorem ZhJ{p:Prob}{u:Int}{t:Tr}{ok:Prop}(h:Vg p b c t u ln pt cnt ok lf)(D:ok)(F:0<u\/(t.n=0/\t.nl=0/\Kw p)):PMt p u ln pt cnt/\brs u cnt<=b:=by
 rcases h.2.2.2 D with⟨g1,g2,g3⟩|⟨g1,g2,g3,g4,g5⟩
 · exact⟨g2,g3⟩
 · exfalso;omega
theorem ZhH{p:Prob}{u:Int}{t:Tr}{ok:Prop}(h:Vg p b c t u ln pt cnt ok lf)(J:ok)(F:¬(0<u\/(t.n=0/\t.nl=0/\Kw p))):u=0/\wrT t p b=none/\(0<t.n\/0<t.nl)/\(t.ok/\UR t)/\(ZO p<=6->t.nodes=c/\t.depth<=ZO p+1):=by
 rcases h.2.2.2 J with⟨g1,g2,g3⟩|h
 · exfalso
   have D:¬0<u:=fun D=>F (.inl D)
   refine F (.inr ⟨g1.2.2,g1.2.1,g2.1.1,fun j I G=> ?_⟩)
   have:=g2.2 j I G
   unfold Zo at this
   rw [show u.toNat=0 by omega] at this
   exact this
 · exact h
theorem ZeZ{p:Prob}{u:Int}{t:Tr}{ok:Prop}(D:p.Ok)(h:Vg p b c t u ln pt cnt ok (20000-c))(F:¬ok):6<ZO p:=by
 apply Classical.byContradiction;intro hn
 have h1:=(h.2.2.1 F).2.2 Oa
 have I:=h.2.1 Oa
 have G:=ZaH _ (Wp D).1 (show ZO p<=6 by omega)
 omega
theorem ZeY{p:Prob}{u:Int}{t:Tr}{ok:Prop}(D:p.Ok)(h:Vg p b c t u ln pt cnt ok lf)(hf:(t.ok/\UR t)/\(ZO p<=6->t.nodes=c/\t.depth<=ZO p+1))(hv:¬Xe t):6<ZO p:=by
 apply Classical.byContradiction;intro hn
 obtain⟨J,I⟩:=hf.2 Oa
 have G:=h.2.1 Oa
 have F:=ZaH _ (Wp D).1 (show ZO p<=6 by omega)
 exact hv ⟨hf.1.1,Oa,Oa⟩
theorem Zfb{p:Prob}{u n2:Int}(h:PMt p u ln pt cnt/\brs u cnt<=b)(hb:b<=1000)(F:NormR (plL u ln pt cnt) (plL n2 ln2 pt2 qg))(U:0<=u)(n0:0<=n2)(n1:n2<=u):PMt p n2 ln2 pt2 qg/\brs n2 qg<=b:=by
 obtain⟨⟨h1,Z⟩,h3⟩:=h
 have e1:brs n2 qg=brs u cnt:=by
   have:=F.iy (fun _=>1)
   rw [Zt _ n0,Zt _ U] at this
   exact this
 have W:∀x∈plL n2 ln2 pt2 qg,1<=x.2:=F.pos fun x D=>(VK h1 x D).1.1
 have J:=(Zcr W).2
 have e2:Gw.wsum (fun _=>1) (plL n2 ln2 pt2 qg)=brs n2 qg:=Zt _ n0
 have V:PlanOk p n2 ln2 pt2 qg:=V7 h1.1 (by have:=h1.2.1;omega) fun x D=>by
   obtain⟨y,X,Y⟩:=F.keys x D
   have h5:=J x D
   refine⟨⟨W x D,Oa⟩,?_⟩
   rw [<-Y];exact(VK h1 y X).2
 refine⟨⟨V,fun j I G=> ?_⟩,Oa⟩
 have O:=Z j I G
 rw [h1.mk U I G] at O
 rw [V.mk n0 I G]
 unfold mkU at O⊢
 rw [F.iy];exact O
def RefR(p:Prob)(b:Int)(t:Tr)(u:Int)(ln:Oe)(pt:Of)(cnt:Oe)(e:Int):Prop:=
  (¬Yg p b/\Rj t/\u=0/\e=1)\/(Yg p b/\6<ZO p/\Rj t/\u=0/\e=9)\/(Yg p b/\e=0/\Rj t/\PMt p u ln pt cnt/\brs u cnt<=b)\/
  (Yg p b/\e=0/\u=0/\Xe t/\UR t/\wrT t p b=none/\(0<t.n\/0<t.nl))
def SolR6(p:Prob)(nb:Int)(t:Tr)(u:Int)(ln:Oe)(pt:Of)(cnt:Oe)(e:Int):Prop:=
  (¬p.Ok/\e=1/\nb=0/\Rj t/\u=0)\/(p.Ok/\6<ZO p/\e=9/\nb=0/\Rj t/\u=0)\/
  (p.Ok/\e=0/\PMt p u ln pt cnt/\brs u cnt=nb/\nb<=1000/\UR t/\((nb=0/\Rj t)\/(1<=nb/\Xe t/\wrT t p (nb-1)=none)))
theorem RefR.err{p:Prob}{u:Int}{t:Tr}(h:RefR p b t u ln pt cnt e)(F:Yg p b)(D:e≠0):6<ZO p:=by
 rcases h with⟨h,_⟩|⟨_,h,_⟩|⟨_,h,_⟩|⟨_,h,_⟩
 · exact absurd F h
 · exact h
 · exact absurd h D
 · exact absurd h D
theorem RefR.kj{p:Prob}{u:Int}{t:Tr}(h:RefR p b t u ln pt cnt e)(D:e=0)(h1:¬0<t.n)(F:¬0<t.nl):PMt p u ln pt cnt/\brs u cnt<=b:=by
 rcases h with⟨_,_,_,h⟩|⟨_,_,_,_,h⟩|⟨_,_,_,h3,h4⟩|⟨_,_,_,_,_,_,h⟩
 · omega
 · omega
 · exact⟨h3,h4⟩
 · omega
theorem RefR.tree{p:Prob}{u:Int}{t:Tr}(h:RefR p b t u ln pt cnt e)(D:e=0)(h1:0<t.n\/0<t.nl):Xe t/\UR t/\wrT t p b=none:=by
 rcases h with⟨_,_,_,h⟩|⟨_,_,_,_,h⟩|⟨_,_,h3,_⟩|⟨_,_,_,h1,h2,h3,_⟩
 · omega
 · omega
 · have:=h3.2.1;have:=h3.2.2;omega
 · exact⟨h1,h2,h3⟩
theorem Zoj{p:Prob}{u:Int}(h:PMt p u ln pt cnt):0<=brs u cnt:=(RJ h.1).1
end Go.Proofs.YtkichmnjjblodaaGreat
namespace Go.Proofs.YtkichmnjjblodaaGreat
open Go Go.RowKit Go.Proofs.Gw
theorem ZjG:Zc Oj 57=true:=Ob
theorem Zmq{vL vD:Value}{p:Prob}{b:Int}(w0:World)(h:PAt w0 vL vD p)(F:Yg p b):
   Calls Oj 61 [.agg #[vL,vD,.int Oh p.b8,.int Oh p.bo,.int Oh b]].toArray w0 fun e w=>∃v,e= .returned v/\∃r u pv ln pt cnt ok,v= .tuple #[r,B ok]/\Zm6 p b u ln pt cnt ok/\Slh r u/\Sat w0 w [.own r 2 107 u (Zd pv cnt),.sem (Frame.rows 3 u pv ln pt)]:=by
 obtain⟨hm,aa,hd,hd1,hs,hk⟩:=h.Oo
 have ac:=F.2.1;have ab:=F.2.2
 refine zenG Tryz.func61 Tryz.ntmps61 fun w D=> ?_
 refine zsr<|zla (xbx (cs:= [_,_,_,_,_]) D) ?_;rintro _ w ⟨g1,rfl,D⟩
 refine(Om)<|zlz<|(zV (xfb 0 fd_34_0))<|(zV (xlp 0 (ds:= [vL,vD,.int Oh p.b8,.int Oh p.bo]) st_32 D))<|zlc (xc0 ZjG) (Zhd (p:=p) w (h.below D.below)) ?_;rintro _ w ⟨ag,V,Y,X,zA,Z,dB,rfl,qS,br,dv,W,G⟩
 replace D:=(D.comp G).n3;clear G
 have co:=fun k (J:0<=k) (I:k<V)=>D.db 2 rfl J I
 refine zs5 ?_
 refine zx7<|zdst [0,1,2] [0,1,2] 1000 mx_ D ?_;clear D;intro w D
 refine(zDw 0 xmv)<|(zDw 1 xmv)<|(zDw 2 YT)<|(zDw 3 xmv)<|zdb 15 ?_ ?_<;>intro hc
 ·
  refine(zDw 4 xmv)<|(zDw 6 (xfb 4 fd_34_1))<|(zDl 7 (fun w D=>(xlb 0 pl_3 D)))<|zdc 5 (xc0 Zby) (Uw (u:=V) (pv:=Y) (ln:=X) (pt:=zA) (cnt:=Z) w (⟨(D.c7 1 rfl),fun k J I=>D.fq 2 rfl J I,fun k J I=>D.gb 2 rfl J I⟩:VAt _ ag V Y X zA Z) Oa (fun k J I=>by have h8:=br k J I;omega)) ?_;rintro _ w ⟨rfl,G⟩
  replace D:=D.cmp G;clear G
  refine⟨⟨fun _=>D,D⟩,?_⟩
  refine(zDw 8 Xv)<|(zDw 9 xpt)<|(zDw 10 xas)<|(zDw 11 xas)<|zdd<|ztn<|zrt<|zf2 ⟨_,rfl,?_⟩
  have O:=qS.meets F.1 Oa W.n0
  exact⟨_,_,_,_,_,_,_,rfl,⟨fun U=>⟨O.1,U⟩,fun U=>Int.le_trans O.2 U⟩,W,D.pk [1,2]⟩
 refine(zDo 4)<|(zDo 6)<|(zDo 7)<|(zDo 5)<|(zDo 8)<|(zDw 9 xpf)<|(zDw 10 xas)<|(zDw 11 xas)<|zdd<|ztn<|zrt<|zf2 ⟨_,rfl,?_⟩
 exact⟨_,_,_,_,_,_,False,by rw [B_false not_false],⟨fun h=>h.elim,fun U=>by have h8:=(qS.np F.1).2 (by have:=F.2.2;omega);omega⟩,W,D.pk [1,2]⟩
theorem ZnA:Zc Oj 91=true:=Ob
theorem Zn3{vL vD:Value}{p:Prob}{b:Int}(w0:World)(h:PAt w0 vL vD p)(F:Yg p b):
   Calls Oj 62 [.agg #[vL,vD,.int Oh p.b8,.int Oh p.bo,.int Oh b]].toArray w0 fun e w=>∃v,e= .returned v/\∃r n l ok,v= .tuple #[r,B ok]/\LfR p b n l ok/\Slh r n/\Sat w0 w [.own r 1 3 n (ints l)]:=by
 obtain⟨hm,Z,hd,hd1,hs,hk⟩:=h.Oo
 have ae:=F.2.1;have ad:=F.2.2
 refine zenG Tryz.func62 Tryz.ntmps62 fun w D=> ?_
 refine zsr<|zla (xbx (cs:= [_,_,_,_,_]) D) ?_;rintro _ w ⟨W,rfl,D⟩
 refine(Om)<|zlz<|(zV (xfb 0 fd_34_0))<|(zV (xlp 0 (ds:= [vL,vD,.int Oh p.b8,.int Oh p.bo]) st_32 D))<|zlc (xc0 ZnA) (Zhc (p:=p) w (h.below D.below)) ?_;rintro _ w ⟨kq,G,kM,mu,rfl,J,dP,I⟩
 replace D:=(D.comp I).n2;clear I
 refine zs4 ?_
 refine zla (xal (cs:= [_,_]) U4 D) ?_;rintro _ w ⟨O,rfl,D⟩
 refine zle (xsw 2 st_98 D (hd:=(Za dP.one (Za rfl Zh)))) ?_;clear D;rintro w D
 refine(Om)<|zx5<|(On)<|zlb 16 ?_ ?_<;>intro hc
 ·
  iterate 4 refine zlo ?_
  refine(zP)<|zlt<|zct<|zsr ?_
  refine(Om)<|zx14<|zf2 ⟨_,rfl,?_⟩
  obtain⟨W,O,g3⟩:=J.good F.1
  exact⟨_,0,fun _=>0,False,by rw [B_false not_false],⟨fun h=>h.elim,fun hb hn=>by have:=g3 hn;omega⟩,slh_nil,(D.cg 1 3 (ints fun _=>0)).sub (.cons _ (.cons _ (.cons _ (.cons_cons _ .slnil))))⟩
 refine(zP)<|(zV (xfb 4 fd_34_1))<|(zV (xlb 0 pl_3 D))<|(Om)<|zlt<|Ze ?_ ?_<;>intro hc
 ·
  refine zsr<|(Om)<|zx14<|zf2 ⟨_,rfl,?_⟩
  obtain⟨W,O,g3⟩:=J.good F.1
  exact⟨_,0,fun _=>0,False,by rw [B_false not_false],⟨fun h=>h.elim,fun hb hn=>by have:=g3 hn;omega⟩,slh_nil,(D.cg 1 3 (ints fun _=>0)).sub (.cons _ (.cons _ (.cons _ (.cons_cons _ .slnil))))⟩
 refine ZM<|(zV (xfb 1 fd_98_1))<|zlv (xlb 2 pl_3 D) ?_
 have V:=(J.good F.1).2.1.resolve_left Oa
 have aa:=(Gw.WO V.1).2.2.1;have ab:=F.1.m2
 refine zla (xli (n:=1) (len:=1) (pv:= [(0,.int Oh G.q)]) (cs:= [.int Oh G.q]) (c:=ints (fun _=>G.q)) Zb Zm D) ?_;rintro v1 w ⟨D,Y⟩
 refine(zV (xfb 0 fd_98_0))<|(zV (xlb 2 pl_22 D))<|zla (xap 3 (r:=G.n+1) (f:=ints (Ki G.q G.y)) Zb Zm D (D.c7 1 rfl) (by exact Zej _ _)) ?_;rintro v2 w ⟨D,U⟩
 refine(Om)<|zx1<|zf2 ⟨_,rfl,?_⟩
 obtain⟨W,O,g3⟩:=J.good F.1
 replace D:=D.gi 3 rfl (d:=ints (lfn G.n G.q G.y)) (fun k X k1=>by unfold ints lfn;rw [if_pos ⟨X,Oa⟩])
 exact⟨_,_,_,True,by rw [ZP trivial],⟨fun _=>Zh7 F O Oa Oa,fun _ _=>trivial⟩,U,D.pk [3]⟩
def ZoI(p:Prob)(b i:Int):Prop:= -1<=i/\(0<=i->ZZ p b i/\Zr p b i<=100)/\(i<0->∀wi,ZZ p b wi->100<Zr p b wi)
theorem Zd3{p:Prob}{b i:Int}(h:i<0):Zr p b i=0:=Vt fun D=>by have:=D.2.2.1.1;omega
theorem Zmp{vL vD:Value}{p:Prob}{b:Int}(w0:World)(h:PAt w0 vL vD p):
   Calls Oj 63 [.agg #[vL,vD,.int Oh p.b8,.int Oh p.bo,.int Oh b]].toArray w0 fun e w=>∃v,e= .returned v/\∃i r vv,v= .tuple #[.int Oh i,r,B (0<=i)]/\ZoI p b i/\Slh r (Zr p b i)/\Sat w0 w [.own r 5 34 (Zr p b i) (Z6 vv p.b8 p.bo (b-1)),.sem (Frame.rows 3 (2*Zr p b i) vv (fun _=>p.m) (gfn p (MX p i)))]:=by
 obtain⟨hm,ac,hd,hd1,D,hk⟩:=h.Oo
 refine zenG Tryz.func63 Tryz.ntmps63 fun w F=> ?_
 refine zsr<|zla (xbx (cs:= [_,_,_,_,_]) F) ?_;rintro _ w ⟨g1,rfl,F⟩
 refine(On)<|zlz<|(zP)<|zlz<|(zP)<|zx5<|(zV (xfb 0 fd_34_0))<|(zV (xfb 1 fd_32_1))<|(zV (xlb 0 pl_22 F))<|(zV (xln Zb h.D.cf))<|(zP)<|zx6 ?_
 replace F:=(F.cg 5 34 (Z6 (fun _=>Og) p.b8 p.bo (b-1))).fa 3 (fun _=>Og) (fun _=>p.m) (gfn p (MX p (-1)))
 replace F:=F.i7 2 rfl (show(0:Int)=2*0 from rfl)
 refine zlp (fun mm M w=>∃(X:Int) (J:Int->Value) (Y:Value) (j:Int) (i:Int),mm=((p.d-i).toNat)/\(0<=i)/\(i<=p.d)/\(-1<=j)/\(Slh Y X)/\(X=Zr p b j)/\(0<=j->ZZ p b j/\Zr p b j<=100)/\(j<0->∀wi,0<=wi->wi<i->ZZ p b wi->100<Zr p b wi)/\M= [(1,Oq g1),(2,.int Oh 0),(3,Og),(4,.bool false),(5,.int Oh j),(6,Y),(13,vD),(14,.int Oh p.d),(15,.int Oh i)]/\Sat w0 w [.blk g1 [vL,vD,.int Oh p.b8,.int Oh p.bo,.int Oh b],.own Y 5 34 X (Z6 J p.b8 p.bo (b-1)),.sem (Frame.rows 3 (2*X) J (fun _=>p.m) (gfn p (MX p j)))]) ⟨0,(fun _=>Og),Og,(-1),0,rfl,Oa,Oa,Oa,?_,?_,?_,?_,rfl,F⟩ ?_
 ·
  exact slh_nil
 ·
  exact(Zd3 Oa).symm
 ·
  intro I;omega
 ·
  intro I wi w0 Z;omega
 clear F w
 rintro mm M w ⟨X,J,Y,j,i,rfl,h0,h1,hj,W,V,O,U,rfl,F⟩
 have ab:∀k,0<=k->k<2*X->Slh (J k) p.m:=fun k k0 k1=>F.db 2 rfl k0 k1
 refine zsr<|(zP)<|zx7<|Ze ?_ ?_<;>intro hc
 ·
  refine zx3<|(zP)<|(zV (xix (kk:=i) Zb h.D.cf))<|zlv (xlr (u:= .int Oh (p.D i)) pl_3 (h.D.below F.below)) ?_
  have ad:=h.iD i
  refine(Om)<|zx5<|(Om)<|zlt<|Ze ?_ ?_<;>intro hc
  ·
   refine zxt<|ztx<|zbh<|ztn<|zrg<|(zV (Zg (r:=i+1)))<|(zP)<|zln<|zlq ⟨X,J,Y,j,i+1,rfl,Oa,Oa,Oa,?_,?_,?_,?_,rfl,F⟩
   ·
    exact W
   ·
    first|exact V|rfl
   ·
    first|exact O|exact fun _=>⟨by assumption,Oa⟩
   ·
    first
    |(intro I;omega)
    |(intro I wi w0 Z D;rcases Int.lt_or_eq_of_le (show wi<=i by omega) with G|G;exact U I wi w0 G D;rw [G] at D⊢;first|omega|exact absurd D ‹¬ZZ p b i›|exact absurd Oa D.2.2.2.1)
  refine ZM<|(zV (xls 0 YJ F))<|(zP)<|zlc (xc0 ZjL) (ZdE (p:=p) (b:=b) (wi:=i) w (h.below F.below)) ?_;rintro _ w ⟨eQ,dE,rfl,al,aa⟩
  replace F:=(F.comp aa).n5;clear aa
  have ky:∀k,0<=k->k<2*(Zr p b i)->Slh (dE k) p.m:=fun k k0 k1=>F.db 4 rfl k0 k1
  refine zs2 ?_
  have kR:=al.n0
  refine(On)<|zlz<|(Om)<|zlb 29 ?_ ?_<;>intro hc
  ·
   refine(zP)<|(zV (xln VZ al))<|(On)<|zlb 34 ?_ ?_<;>intro hc
   ·
    refine(On)<|zlb 37 ?_ ?_<;>intro hc
    ·
     iterate 5 refine zlo ?_
     refine(Om)<|zlt<|zct<|zrg ?_
     refine zs4 ?_
     refine zx10<|(zV (Zg (r:=i+1)))<|(zP)<|zln<|zlq ⟨(Zr p b i),dE,eQ,i,i+1,rfl,Oa,Oa,Oa,?_,?_,?_,?_,rfl,F.pk [0,3,4]⟩
     ·
      exact al
     ·
      first|exact V|rfl
     ·
      first|exact O|exact fun _=>⟨by assumption,Oa⟩
     ·
      first
      |(intro I;omega)
      |(intro I wi w0 Z D;rcases Int.lt_or_eq_of_le (show wi<=i by omega) with G|G;exact U I wi w0 G D;rw [G] at D⊢;first|omega|exact absurd D ‹¬ZZ p b i›|exact absurd Oa D.2.2.2.1)
    refine(zP)<|(zV (xln VZ al))<|(zP)<|(zV (xln VZ W))<|(On)<|zlt<|Ze ?_ ?_<;>intro hc
    ·
     refine zrg<|zs4 ?_
     refine zx10<|(zV (Zg (r:=i+1)))<|(zP)<|zln<|zlq ⟨(Zr p b i),dE,eQ,i,i+1,rfl,Oa,Oa,Oa,?_,?_,?_,?_,rfl,F.pk [0,3,4]⟩
     ·
      exact al
     ·
      first|exact V|rfl
     ·
      first|exact O|exact fun _=>⟨by assumption,Oa⟩
     ·
      first
      |(intro I;omega)
      |(intro I wi w0 Z D;rcases Int.lt_or_eq_of_le (show wi<=i by omega) with G|G;exact U I wi w0 G D;rw [G] at D⊢;first|omega|exact absurd D ‹¬ZZ p b i›|exact absurd Oa D.2.2.2.1)
    refine zx4<|(zV (Zg (r:=i+1)))<|(zP)<|zln<|zlq ⟨X,J,Y,j,i+1,rfl,Oa,Oa,Oa,?_,?_,?_,?_,rfl,F.pk [0,1,2]⟩
    ·
     exact W
    ·
     first|exact V|rfl
    ·
     first|exact O|exact fun _=>⟨by assumption,Oa⟩
    ·
     first
     |(intro I;omega)
     |(intro I wi w0 Z D;rcases Int.lt_or_eq_of_le (show wi<=i by omega) with G|G;exact U I wi w0 G D;rw [G] at D⊢;first|omega|exact absurd D ‹¬ZZ p b i›|exact absurd Oa D.2.2.2.1)
   iterate 9 refine zlo ?_
   refine(zP)<|zlt<|zcf<|zsk<|zbn<|ztn<|zrg ?_
   refine(zV (Zg (r:=i+1)))<|(zP)<|zln<|zlq ⟨X,J,Y,j,i+1,rfl,Oa,Oa,Oa,?_,?_,?_,?_,rfl,F.pk [0,1,2]⟩
   ·
    exact W
   ·
    first|exact V|rfl
   ·
    first|exact O|exact fun _=>⟨by assumption,Oa⟩
   ·
    first
    |(intro I;omega)
    |(intro I wi w0 Z D;rcases Int.lt_or_eq_of_le (show wi<=i by omega) with G|G;exact U I wi w0 G D;rw [G] at D⊢;first|omega|exact absurd D ‹¬ZZ p b i›|exact absurd Oa D.2.2.2.1)
  iterate 3 refine zlo ?_
  refine zs2 ?_
  iterate 9 refine zlo ?_
  refine(zP)<|zlt<|zcf<|zsk<|zbn<|ztn<|zrg ?_
  refine(zV (Zg (r:=i+1)))<|(zP)<|zln<|zlq ⟨X,J,Y,j,i+1,rfl,Oa,Oa,Oa,?_,?_,?_,?_,rfl,F.pk [0,1,2]⟩
  ·
   exact W
  ·
   first|exact V|rfl
  ·
   first|exact O|exact fun _=>⟨by assumption,Oa⟩
  ·
   first
   |(intro I;omega)
   |(intro I wi w0 Z D;rcases Int.lt_or_eq_of_le (show wi<=i by omega) with G|G;exact U I wi w0 G D;rw [G] at D⊢;first|omega|exact absurd D ‹¬ZZ p b i›|exact absurd Oa D.2.2.2.1)
 refine zx8<|zs6 ?_
 refine(zP)<|zx1<|zf3 ⟨_,rfl,?_⟩
 subst V
 exact⟨_,_,_,rfl,⟨hj,O,fun I wi D=>U I wi D.2.2.1.1 (by have:=D.2.2.1.2;have:=D.1.1.d;omega) D⟩,W,F.pk [1,2]⟩
theorem Zhy{w:World}{pv:Int->Value}{ln cnt:Oe}{pt:Of}:VAt w Og 0 pv ln pt cnt:=⟨Te _ _ _,fun i F D=>Oa,fun i F D=>Oa⟩
theorem RU{p:Prob}{ln cnt:Oe}{pt:Of}:(PlanOk p 0 ln pt cnt/\∀j,0<=j->j<p.m->p.D j<=Zo 0 pt cnt j)↔Kw p:=
 ⟨fun h=>⟨h.1.1,fun j F D=>h.2 j F D⟩,fun h=>⟨⟨h.1,Oa,fun k I G=>Oa⟩,fun j F D=>h.2 j F D⟩⟩
theorem ZgO{vL vD:Value}{p:Prob}{b:Int}{s9 n9 nl9 u:Int}{vK G vV:Value}(w0:World)(h:PAt w0 vL vD p)(O:Slh vK n9)(J:Slh G nl9)(I:Slh vV u):
   Calls Oj 64 [.agg #[vL,vD,.int Oh p.b8,.int Oh p.bo,.int Oh b],.agg #[.int Oh s9,vK,G],vV].toArray w0 fun e w=>∃v,e= .returned v/\v=B (0<u\/(n9=0/\nl9=0/\Kw p))/\Sat w0 w []:=by
 obtain⟨hm,Z,hd,hd1,hs,hk⟩:=h.Oo
 have Y:=O.n0;have kW:=J.n0;have X:=I.n0
 refine zenG Tryz.func64 Tryz.ntmps64 fun w D=> ?_
 refine zsr<|zla (xbx (cs:= [_,_,_,_,_]) D) ?_;rintro _ w ⟨W,rfl,D⟩
 refine zla (xbx (cs:= [_,_,_]) D) ?_;rintro _ w ⟨V,rfl,D⟩
 refine(zP)<|zlz<|(zP)<|(zV (xln Z4 I))<|(Om)<|zlb 10 ?_ ?_<;>intro hc
 ·
  iterate 15 refine zlo ?_
  refine(Om)<|zx1<|Oi ?_
  exact⟨ZT (.inl Oa),D.nl⟩
 refine(zV (xfb 1 fd_54_1))<|(zV (xlb 1 Wb D))<|(zV (xln Xm O))<|(Om)<|zlb 15 ?_ ?_<;>intro hc
 ·
  refine(zV (xfb 2 fd_54_2))<|(zV (xlb 1 pl_22 D))<|(zV (xln Zb J))<|(On)<|zlb 21 ?_ ?_<;>intro hc
  ·
   refine(zV (xfb 0 fd_34_0))<|(zV (xlp 0 (ds:= [vL,vD,.int Oh p.b8,.int Oh p.bo]) st_32 D))<|zlc (xc0 Zf2) (Rc (u:=0) (pv:=fun _=>undef) (ln:=fun _=>0) (pt:=fun _ _=>0) (cnt:=fun _=>0) (p:=p) w Zhy (h.below D.below)) ?_;rintro _ w ⟨rfl,U⟩
   replace D:=D.cmp U;clear U
   refine(On)<|zx1<|Oi ?_
   exact⟨Zn ⟨fun F=> .inr ⟨by omega,Oa,RU.1 F⟩,fun F=>by rcases F with F|⟨W,V,g3⟩;omega;exact RU.2 g3⟩,D.nl⟩
  iterate 3 refine zlo ?_
  refine(On)<|zx1<|Oi ?_
  exact⟨false_B (by rintro(F|⟨W,V,g3⟩)<;>omega),D.nl⟩
 iterate 4 refine zlo ?_
 refine zs2 ?_
 iterate 3 refine zlo ?_
 refine(On)<|zx1<|Oi ?_
 exact⟨false_B (by rintro(F|⟨W,V,g3⟩)<;>omega),D.nl⟩
variable {cnt:Oe} {pv:Int->Value}
theorem ZoB(w:World)(a:Addr)(n c:Nat):(binOp .eql 60 (.slice (some a) n c) Og).run Oj w= .ok (.bool false) w:=Ob
theorem Znr(w:World):(binOp .eql 60 Og Og).run Oj w= .ok (.bool true) w:=Ob
theorem Zos{L:List (Nat×Value)}{w:World}{o:Oper}{x y:Operand}{T':TypeId}{a:Addr}{n c:Nat}(G:o.op= .binOp .eql 60 x y T':=by exact rfl)(F:evL L x=some (.slice (some a) n c):=by exact rfl)(D:evL L y=some Og:=by exact rfl):Runs Oj L w o (.value (.bool false)) w:=fun ρ h=>by
 simp [execOp,G,h _ _ F,h _ _ D,ZoB];rfl
theorem Zm9{L:List (Nat×Value)}{w:World}{o:Oper}{x y:Operand}{T':TypeId}(G:o.op= .binOp .eql 60 x y T':=by exact rfl)(F:evL L x=some Og:=by exact rfl)(D:evL L y=some Og:=by exact rfl):Runs Oj L w o (.value (.bool true)) w:=fun ρ h=>by
 simp [execOp,G,h _ _ F,h _ _ D,Znr];rfl
theorem Zb1{n k:Int}(h1:∀k,0<=k->k<n->(pv k).oneCell'=true)(F:0<=k)(D:k<n*((2:Nat):Int)):(Zd pv cnt k).oneCell'=true:=by
 unfold Zd;split
 · exact h1 _ Oa Oa
 · rfl
theorem ZmT{J I O:Nat}{n:Int}(w0:World)(G:Row w0 (.slice (some ⟨J,0,none⟩) I O) 2 n (Zd pv cnt))(h1:∀k,0<=k->k<n->(pv k).oneCell'=true)(X:n<=1000000):
   Calls Oj 66 [(.slice (some ⟨J,0,none⟩) I O)].toArray w0 fun e w=>∃v,e= .returned v/\∃r,v=r/\Slh r n/\Sat w0 w [.own r 2 107 n (Zd pv cnt)]:=by
 have hn:=G.cf.n0;have Y:=G.cf.n1
 refine zenG Tryz.func66 Tryz.ntmps66 fun w D=> ?_
 refine zsr<|(zP)<|zx5<|(zP)<|(zV Zos)<|zlt<|zcf<|zsk<|ztn<|zsr ?_
 refine zla (xl0 (c:=Zd pv cnt) Z4 D) ?_;rintro v1 w ⟨D,W⟩
 refine(zP)<|zla (xap 0 (r:=n) (f:=Zd pv cnt) Z4 YA D (G.below D.below) (by exact XE _ _) (h1:=(fun k V U=>Zb1 h1 V U))) ?_;rintro Z w ⟨D,F⟩
 refine(zP)<|zx1<|Oi ?_
 exact⟨_,rfl,F,D⟩
theorem ZmU(w0:World):
   Calls Oj 66 [Og].toArray w0 fun e w=>∃v,e= .returned v/\∃r,v=r/\Slh r 0/\Sat w0 w [.own r 2 107 0 (Zd pv cnt)]:=by
 refine zenG Tryz.func66 Tryz.ntmps66 fun w D=> ?_
 refine zsr<|(zP)<|zx5<|(zP)<|(zV Zm9)<|zlt<|zct<|zsr ?_
 refine(zP)<|zx14<|Oi ?_
 exact⟨_,rfl,slh_nil,(D.sub .slnil).cg 2 107 (Zd pv cnt)⟩
theorem Zog{x:Value}{n:Int}(w0:World)(D:(Ent.own x 2 107 n (Zd pv cnt)).holds w0)(h1:∀k,0<=k->k<n->(pv k).oneCell'=true)(hn:n<=1000000):Calls Oj 66 [x].toArray w0 fun e w=>∃v,e= .returned v/\∃r,v=r/\Slh r n/\Sat w0 w [.own r 2 107 n (Zd pv cnt)]:=by
 have F:=D.row
 obtain⟨I,G,⟨rfl,rfl⟩|⟨g,cap,cur,rfl,_⟩⟩:=D
 · exact ZmU w0
 · exact ZmT w0 F h1 hn
end Go.Proofs.YtkichmnjjblodaaGreat
namespace Go.Proofs.YtkichmnjjblodaaGreat
open Go Go.RowKit Go.Proofs.Gw
theorem ZjF:Zc Oj 60=true:=Ob
theorem ZnO:Zc Oj 61=true:=Ob
theorem ZnN:Zc Oj 62=true:=Ob
theorem ZnM:Zc Oj 63=true:=Ob
theorem ZjE:Zc Oj 64=true:=Ob
theorem ZnL:Zc Oj 66=true:=Ob
theorem Zca:ZR Oj 115=true:=Ob
theorem Zmi (N:Nat):∀{F:Gw.Frame} {vL vD:Value} {p:Prob} {b lf:Int} {gl gs:Nat} (w0 w:World) (D:Sat w0 w [.blk gl [.int Oh lf],.blk gs [.func (.func 60) #[] #[Oq gl,Oq gs]],.sem F]) (hP:∀w1,Below w0.heap.size w0 w1->F.holds w1->PAt w1 vL vD p) (J:Yg p b) (af:0<=lf/\lf<=20000) (hN:b.toNat<N),
   Calls Oj 60 [.agg #[vL,vD,.int Oh p.b8,.int Oh p.bo,.int Oh b],Oq gl,Oq gs].toArray w fun e w=>∃v,e= .returned v/\∃t u pv ln pt cnt ok c vV,v= .tuple #[.agg #[.int Oh (Tr.s t),t.vK,t.vL],vV,B ok]/\Vg p b c t u ln pt cnt ok (lf-c)/\(-1<=lf-c/\(ok->0<=lf-c))/\Slh t.vK t.n/\Slh t.vL t.nl/\Slh vV u/\Sat w0 w [.blk gl [.int Oh (lf-c)],.blk gs [.func (.func 60) #[] #[Oq gl,Oq gs]],.sem (t.iv 54 3),.own vV 2 107 u (Zd pv cnt),.sem (Frame.rows 3 u pv ln pt),.sem F]:=by
 induction N with
 |zero=>intros;omega
 | succ N ih=>
   intro F vL vD p b lf gl gs w0 w D hP J af hN
   have h:=hP w D.below (D.holds _ (List.mem_of_getElem? (i:=2) rfl))
   obtain⟨hm,al,hd,hd1,hs,hk⟩:=h.Oo
   refine zenF Tryz.func60 Tryz.ntmps60 ?_
   refine zsr<|zla (xbx (cs:= [_,_,_,_,_]) D) ?_;rintro _ w ⟨g1,rfl,D⟩
   refine zla (xal (cs:= [_,_,_]) Vb D) ?_;rintro _ w ⟨g2,rfl,D⟩
   refine(Om)<|zx5<|(zV (xlb 0 pl_3 D))<|(zV (Zw (r:=lf-1)))<|zle (xsb 0 pl_3 D) ?_;clear D;rintro w D
   refine zlz<|(zV (xlb 0 pl_3 D))<|(zP)<|zlt<|Ze ?_ ?_<;>intro hc
   ·
    refine zsr<|(zV (xany (v:= .agg #[.int Oh 0,Og,Og])))<|zle (xsw 4 st_54 D) ?_;clear D;rintro w D
    refine(Om)<|zx14<|X6 4 st_54 D ⟨_,rfl,?_⟩
    replace D:=D.pk [0,1,2]
    replace D:=D.gx 54 3
    replace D:=(D.cg 2 107 (Zd (fun _=>Og) (fun _=>0))).fa 3 (fun _=>Og) (fun _=>0) (fun _ _=>0)
    exact⟨.nil,0,_,_,_,_,False,1,Og,(by rw [B_false not_false];rfl),(ZhI J.1 Oa),⟨by omega,fun hh=>hh.elim⟩,slh_nil,slh_nil,slh_nil,D.pk [0,1,3,4,5,2]⟩
   refine YL<|(zV (xls 3 YJ D))<|zlc (xc0 ZnO) (Zmq (p:=p) (b:=b) w (hP _ D.below (D.holds _ (List.mem_of_getElem? (i:=2) rfl))) J) ?_;rintro _ w ⟨eN,fg,ks,ku,kE,kG,di,rfl,cD,dK,I⟩
   replace D:=(D.comp I).n7;clear I
   have jE:=fun k (Z:0<=k) (Y:k<fg)=>D.db 6 rfl Z Y
   refine zs5 ?_
   refine zlz<|(zP)<|zlt<|Ze ?_ ?_<;>intro hc
   ·
    refine zsr<|(zV (xany (v:= .agg #[.int Oh 0,Og,Og])))<|(zP)<|zle (xsw 4 st_54 D) ?_;clear D;rintro w D
    refine(Om)<|zx14<|X6 4 st_54 D ⟨_,rfl,?_⟩
    replace D:=D.pk [0,1,5,6,2]
    replace D:=D.gx 54 3
    exact⟨.nil,_,_,_,_,_,True,1,eN,(by rw [ZP trivial];rfl),(ZhK J.1 cD ‹di›),⟨by omega,fun _=>Oa⟩,slh_nil,slh_nil,dK,D.pk [0,1,5,2,3,4]⟩
   refine YL<|(zV (xls 3 YJ D))<|zlc (xc0 ZnN) (Zn3 (p:=p) (b:=b) w (hP _ D.below (D.holds _ (List.mem_of_getElem? (i:=2) rfl))) J) ?_;rintro _ w ⟨xk,fh,gX,dh,rfl,cy,xM,I⟩
   replace D:=(D.comp I).n8;clear I
   refine zs5 ?_
   refine zlz<|(zP)<|zlt<|Ze ?_ ?_<;>intro hc
   ·
    refine zsr<|(zP)<|zlv (xany (v:= .agg #[.int Oh 0,Og,xk]) (hr:=by obtain⟨_,_,_,_,rfl,_⟩:=xM;kernel_rfl)) ?_
    refine zle (xsw 4 st_54 D (hd:=(Za rfl (Za rfl (Za xM.one Zh))))) ?_;clear D;rintro w D
    refine(Om)<|zx14<|X6 4 st_54 D ⟨_,rfl,?_⟩
    replace D:=D.pk [0,1,2,7]
    replace D:=(D.cg 3 54 (Xd (fun _=> .nil))).lg (fun z9=>((fun _=>Tr.nil) z9).iv 54 3)
    replace D:=D.pk [0,1,2,4,3,5]
    replace D:=Sat.lu (l:= [_,_,_]) D 0
    replace D:=(D.cg 2 107 (Zd (fun _=>Og) (fun _=>0))).fa 3 (fun _=>Og) (fun _=>0) (fun _ _=>0)
    exact⟨(.mk 0 Og 0 (fun _=> .nil) xk fh gX),0,_,_,_,_,True,1,Og,(by rw [ZP trivial];rfl),(ZeX J.1 cy ‹dh›),⟨by omega,fun _=>Oa⟩,slh_nil,xM,slh_nil,D.pk [0,1,3,4,5,2]⟩
   refine ZM<|(zV (xls 3 YJ D))<|zlc (xc0 ZnM) (Zmp (p:=p) (b:=b) w (hP _ D.below (D.holds _ (List.mem_of_getElem? (i:=2) rfl)))) ?_;rintro _ w ⟨qO,bb,U,rfl,aS,aG,I⟩
   replace D:=(D.comp I).n10;clear I
   have zT:∀k,0<=k->k<2*(Zr p b qO)->Slh (U k) p.m:=fun k Z Y=>D.db 9 rfl Z Y
   refine zs6 ?_
   refine(zP)<|zx5<|(Om)<|zlt<|Ze ?_ ?_<;>intro hc
   ·
    refine zsr<|(zV (xany (v:= .agg #[.int Oh 0,Og,Og])))<|zle (xsw 4 st_54 D) ?_;clear D;rintro w D
    refine(Om)<|zx14<|X6 4 st_54 D ⟨_,rfl,?_⟩
    replace D:=D.pk [0,1,2]
    replace D:=D.gx 54 3
    replace D:=(D.cg 2 107 (Zd (fun _=>Og) (fun _=>0))).fa 3 (fun _=>Og) (fun _=>0) (fun _ _=>0)
    exact⟨.nil,0,_,_,_,_,False,1,Og,(by rw [B_false not_false];rfl),(ZaP J cD ‹¬di› cy ‹¬dh› (aS.2.2 Oa)),⟨by omega,fun hh=>hh.elim⟩,slh_nil,slh_nil,slh_nil,D.pk [0,1,3,4,5,2]⟩
   refine ZM<|(zP)<|(zV (xany (v:= .agg #[.int Oh qO,Og,Og])))<|zla (xal (cs:= [_,_,_]) Vb D) ?_;rintro _ w ⟨g3,rfl,D⟩
   refine zle (xsw 10 st_54 D) ?_;clear D;rintro w D
   refine zx5<|(zP)<|(zV (xln VZ aG))<|(zP)<|zx6 ?_
   have O:ZZ p b qO:=(aS.2.1 Oa).1
   have ag:=(aS.2.1 Oa).2
   have kS:=aG.n0
   have mh:=O.2.1;have mj:=J.2.1;have mi:=J.2.2;have kU:=J.1.d;have kT:=J.1.m2
   replace D:=D.cg 3 54 (Xd (fun _=> .nil))
   replace D:=D.lg (fun z9=>((fun _=>Tr.nil) z9).iv 54 3)
   refine zlp (fun mm M w=>∃(C:Int) (kd:Int->Tr) (wK:Value) (i:Int),mm=((Zr p b qO-i).toNat)/\(0<=i)/\(i<=Zr p b qO)/\(Slh wK i)/\(Upto p b qO i C kd)/\(0<=lf-C)/\M= [(2,Oq gs),(3,Oq g1),(4,Oq g2),(14,Oq g3),(55,bb),(56,.int Oh (Zr p b qO)),(57,.int Oh i)]/\Sat w0 w [.blk gl [.int Oh (lf-C)],.blk gs [.func (.func 60) #[] #[Oq gl,Oq gs]],.sem F,.blk g1 [vL,vD,.int Oh p.b8,.int Oh p.bo,.int Oh b],.blk g2 [.int Oh 0,Og,Og],.blk g3 [.int Oh qO,wK,Og],.own wK 3 54 i (Xd kd),.sem (Frame.all i (fun z9=>(kd z9).iv 54 3)),.own bb 5 34 (Zr p b qO) (Z6 U p.b8 p.bo (b-1)),.sem (Frame.rows 3 (2*(Zr p b qO)) U (fun _=>p.m) (gfn p (MX p qO)))]) ⟨1,(fun _=>Tr.nil),Og,0,rfl,Oa,Oa,?_,?_,?_,rfl,D.pk [0,1,2,3,4,10,11,12,8,9]⟩ ?_
   ·
    exact slh_nil
   ·
    exact Upto.start J.1 _
   ·
    omega
   clear D w
   rintro mm M w ⟨C,kd,wK,i,rfl,h0,h1,ad,aa,am,rfl,D⟩
   have ao:=aa.one
   refine zsr<|(zP)<|zx7<|Ze ?_ ?_<;>intro hc
   ·
    refine zx3<|(zV (xix (kk:=5*i) VZ aG))<|(zV (xlw (cs:= [(U (2*i)),(U (2*i+1)),.int Oh p.b8,.int Oh p.bo,.int Oh (b-1)]) YJ (D.c7 8 rfl) (R7 (q:=5*i) (i:=i) U p.b8 p.bo (b-1) Oa)))<|zla (xal (cs:= [_,_,_,_,_]) Zdq D) ?_;rintro _ w ⟨g4,rfl,D⟩
    refine zle (xsw 10 YJ D (hd:=(Za (zT (2*i) Oa Oa).one (Za (zT (2*i+1) Oa Oa).one (Za rfl (Za rfl (Za rfl Zh))))))) ?_;clear D;rintro w D
    refine zlz<|(zV (xlb 1 Zca D))<|(zV (xls 10 YJ D))<|zlc (xcc (vs:= [_]) ZjF) (ih (p:=(Yc p qO i)) (b:=(b-1)) (lf:=(lf-C)) w0 w (Sat.gg (l1:= [_,_]) (D.pk [0,1,2,3,4,5,6,7,8,9,10])) (fun w1 hb hF=>K0 (vv:=U) O (hP w1 hb (ZdN hF 0 rfl)) (Uy hF 7 rfl (k:=2*i) Oa Oa) (Uy hF 7 rfl (k:=2*i+1) Oa Oa) h0 Oa) (Zd5 O h0 Oa) ⟨by omega,Oa⟩ Oa) ?_;rintro _ w ⟨G,W,bN,c4,cZ,bs,xn,X,cY,rfl,xZ,bp,zZ,zX,yk,D⟩
    replace D:=Sat.fx (l1:= [_,_,_,_,_]) (l3:= []) D
    rw [show lf-C-X=lf-(C+X) by omega] at D xZ bp
    replace D:=D.pk [0,1,3,4,5,6,7,8,9,10,11,12,13,2]
    have jB:=fun j (j0:0<=j) (j1:j<W)=>D.db 3 rfl j0 j1
    have fA:=Zjs xZ;have fC:=yk.n0
    refine zs4 ?_
    refine zla (xal (cs:= [_,_,_]) Vb D) ?_;rintro _ w ⟨g5,rfl,D⟩
    refine zle (xsw 14 st_54 D (hd:=(Za rfl (Za zZ.one (Za zX.one Zh))))) ?_;clear D;rintro w D
    refine(Om)<|zx5<|(Om)<|zlt<|Ze ?_ ?_<;>intro hc
    ·
     refine zsr<|(zV (xany (v:= .agg #[.int Oh 0,Og,Og])))<|zle (xsw 6 st_54 D) ?_;clear D;rintro w D
     refine(Om)<|zlt<|zrt<|ztr<|zbr<|ztr<|ztr<|zbr<|ztr<|X6 6 st_54 D ⟨_,rfl,?_⟩
     replace D:=D.pk [0,1,4]
     replace D:=D.gx 54 3
     replace D:=(D.cg 2 107 (Zd (fun _=>Og) (fun _=>0))).fa 3 (fun _=>Og) (fun _=>0) (fun _ _=>0)
     exact⟨.nil,0,_,_,_,_,False,C+X,Og,(by rw [B_false not_false];rfl),(ZhG aa O h0 Oa xZ ‹¬xn›),⟨by omega,fun hh=>hh.elim⟩,slh_nil,slh_nil,slh_nil,D.pk [0,1,3,4,5,2]⟩
    refine YL<|(zV (xls 12 YJ D))<|(zV (xls 14 st_54 D))<|(zP)<|zlc (xc0 ZjE) (ZgO (p:=(Yc p qO i)) (b:=(b-1)) (u:=W) (n9:=G.n) (nl9:=G.nl) (s9:=G.s) w (K0 (vv:=U) O h (show Row _ _ 1 p.m _ from(D.fq (k:=2*i) 11 rfl Oa Oa)) (show Row _ _ 1 p.m _ from(D.fq (k:=2*i+1) 11 rfl Oa Oa)) Oa Oa) zZ zX yk) ?_;rintro _ w ⟨rfl,I⟩
    replace D:=D.cmp I;clear I
    refine zlt<|Ze ?_ ?_<;>intro hc
    ·
     refine zsr<|(zV (xfb 0 fd_34_0))<|(zV (xfb 1 fd_32_1))<|(zV (xlb 5 pl_22 D))<|zlc (xc0 cl_65) (c_clone (n:=p.d) (f:=p.D) w (hP _ D.below (D.holds _ (List.mem_of_getElem? (i:=4) rfl))).D Oa) ?_;rintro V w ⟨_,rfl,qb,I⟩
     replace D:=(D.comp I).n16;clear I
     refine(zP)<|zx5<|(zV (xfb 0 fd_34_0))<|(zV (xfb 1 fd_32_1))<|(zV (xlb 12 pl_22 D))<|(zV (xln Zb (zT (2*i+1) Oa Oa)))<|(zP)<|zx6<|zlp (fun mm M w=>∃(fd:Oe) (n:Int),mm=((p.m-n).toNat)/\(0<=n)/\(n<=p.m)/\(∀k,0<=k->k<p.m->fd k=if k<n then YO (MX p qO) i k else p.D k)/\M= [(2,Oq gs),(3,Oq g1),(4,Oq g2),(14,Oq g3),(17,Oq g5),(18,cY),(20,V),(55,bb),(56,.int Oh (Zr p b qO)),(57,.int Oh i),(81,(U (2*i+1))),(82,.int Oh p.m),(83,.int Oh n)]/\Sat w0 w [.blk gl [.int Oh (lf-(C+X))],.blk gs [.func (.func 60) #[] #[Oq gl,Oq gs]],.own cY 2 107 W (Zd bN bs),.sem (Frame.rows 3 W bN c4 cZ),.sem F,.blk g1 [vL,vD,.int Oh p.b8,.int Oh p.bo,.int Oh b],.blk g2 [.int Oh 0,Og,Og],.blk g3 [.int Oh qO,wK,Og],.own wK 3 54 i (Xd kd),.sem (Frame.all i (fun z9=>(kd z9).iv 54 3)),.own bb 5 34 (Zr p b qO) (Z6 U p.b8 p.bo (b-1)),.sem (Frame.rows 3 (2*(Zr p b qO)) U (fun _=>p.m) (gfn p (MX p qO))),.blk g4 [(U (2*i)),(U (2*i+1)),.int Oh p.b8,.int Oh p.bo,.int Oh (b-1)],.sem (G.iv 54 3),.blk g5 [.int Oh G.s,G.vK,G.vL],.own V 1 3 p.d (ints fd)]) ⟨p.D,0,rfl,Oa,Oa,?_,rfl,D⟩ ?_
     ·
      intro k Z Y;rw [if_neg Oa]
     clear D w
     rintro mm M w ⟨fd,n,rfl,n0,n1,ac,rfl,D⟩
     refine zsr<|(zP)<|zx7<|Ze ?_ ?_<;>intro hc
     ·
      refine zx3<|(zP)<|(zV (xix (kk:=n) Zb (zT (2*i+1) Oa Oa)))<|(zV (xlr (u:= .int Oh ((gfn p (MX p qO)) (2*i+1) n)) pl_3 (show Row _ _ 1 p.m _ from(D.fq (k:=2*i+1) 11 rfl Oa Oa))))<|(Om)<|zlt<|zrg<|(Om)<|(zV (xix (kk:=n) Zb qb))<|zlv (xlr (u:= .int Oh (fd n)) pl_3 (D.c7 15 rfl)) ?_
      have ah:=ac n n0 Oa
      rw [if_neg Oa] at ah
      have an:gfn p (MX p qO) (2*i+1) n=p.D n-YO (MX p qO) i n:=congrFun (Zka p _ (i:=i) rfl) n
      have aj:=(Ub O h0 (show i<Zr p b qO by omega)).1.ia n n0 Oa
      have ai:=J.1.all n n0 Oa;unfold Prob.each at ai
      refine(zP)<|(zV (Zw (r:=fd n-((gfn p (MX p qO)) (2*i+1) n))))<|(zV (xix (kk:=n) Zb qb))<|zle (xso 15 pl_3 D (Zy _ _ _)) ?_;clear D;rintro w D
      refine zx10<|(zV (Zg (r:=n+1)))<|(zP)<|zln<|zlq ⟨(upd fd n (fd n-((gfn p (MX p qO)) (2*i+1) n))),n+1,rfl,Oa,Oa,?_,rfl,D⟩
      ·
       intro k Z Y;unfold Gw.upd;by_cases e:k=n
       · rw [if_pos e,if_pos Oa,e];omega
       · rw [if_neg e,ac k Z Y];by_cases e2:k<n
         · rw [if_pos e2,if_pos Oa]
         · rw [if_neg e2,if_neg Oa]
     refine zx8<|(zV (xany (v:= .agg #[.int Oh 0,Og,Og])))<|(zP)<|zlc (xc0 ZnL) (Zog w (D.holds _ (List.mem_of_getElem? (i:=2) rfl)) (fun k Z Y=>(D.db 3 rfl Z Y).one) Oa) ?_;rintro kp w ⟨_,rfl,ju,I⟩
     replace D:=(D.comp I).n17;clear I
     refine(zP)<|zlv (xany (v:= .agg #[V,.int Oh 1]) (hr:=by obtain⟨_,_,_,_,rfl,_⟩:=qb;kernel_rfl)) ?_
     refine zla (xli (n:=1) (len:=1) (pv:= [(0,.agg #[V,.int Oh 1])]) (cs:= [V,.int Oh 1]) (c:=Zd (fun _=>V) (fun _=>1)) Z4 YA D (hf:=by obtain⟨_,_,_,_,rfl,_⟩:=qb;kernel_rfl)) ?_;rintro v1 w ⟨D,ae⟩
     refine zla (xap 16 (r:=W+1) Z4 YA D (D.c7 17 rfl) (Ym _ _ _ _ _) (h1:=fun k _ _=>ZK (fun _=>qb.one) k)) ?_;rintro v2 w ⟨D,ab⟩
     replace D:=Sat.merge (l1:= [_,_,_]) (l2:= [_,_,_,_,_,_,_,_,_,_,_]) (l3:= [_,_]) D Oa
     have qG:=fun k (Z:0<=k) (Y:k<W+1)=>D.db 3 rfl Z Y
     refine zle (xsw 6 st_54 D) ?_;clear D;rintro w D
     refine(Om)<|zlt<|zrt<|ztr<|zbr<|ztr<|ztr<|zbr<|ztr<|X6 6 st_54 D ⟨_,rfl,?_⟩
     have ak:=bp.2 Od
     replace D:=D.pk [0,1,15,3,4]
     replace D:=D.gx 54 3
     exact⟨.nil,_,_,_,_,_,True,C+X,v2,(by rw [ZP trivial];rfl),(ZeW aa O h0 Oa xZ Od (by assumption) yk.n0 J.1.d (fun j j0 j1=>by rw [ac j j0 j1,if_pos Oa])).1,⟨by omega,fun _=>Oa⟩,slh_nil,slh_nil,ab,D.pk [0,1,5,2,3,4]⟩
    refine zsk<|ztn<|zrg<|(zV (xfb 1 fd_54_1))<|(zV (xlb 7 Wb D))<|(zV (xls 14 st_54 D))<|zla (xli (n:=1) (len:=1) (pv:= [(0,.agg #[.int Oh G.s,G.vK,G.vL])]) (cs:= [.int Oh G.s,G.vK,G.vL]) (c:=Wg (fun _=>G.s) (fun _=>G.vK) (fun _=>G.vL)) Xm Vb D (hf:=by have hz:=zZ;revert hz;generalize G.vK=z;rintro⟨_,_,_,_,rfl,_⟩;show _=_;have hz:=zX;revert hz;generalize G.vL=z;rintro⟨_,_,_,_,rfl,_⟩;show _=_;kernel_rfl)) ?_;rintro v1 w ⟨D,ae⟩
    refine zla (xap 8 (r:=i+1) Xm Vb D (D.c7 15 rfl) (ZcB _ _ _) (h1:=fun k _ _=>Zb4 (fun _=>zZ.one) (fun _=>zX.one) k)) ?_;rintro v2 w ⟨D,ab⟩
    replace D:=Sat.lp (l1:= [_,_,_,_,_,_,_,_,_]) (l2:= [_,_,_]) (l3:= [_,_]) D Oa (H:=fun z9=>(gsn kd i G z9).iv 54 3) (fun k Z Y=>by(try dsimp only);rw [Zp Y]) (by(try dsimp only);rw [YE])
    refine(zV (xfb 1 fd_54_1))<|zle (xsb 7 Wb D (hv:=ab.one)) ?_;clear D;rintro w D
    refine zx10<|(zV (Zg (r:=i+1)))<|(zP)<|zln<|zlq ⟨C+X,(gsn kd i G),v2,i+1,rfl,Oa,Oa,?_,?_,?_,rfl,D.pk [0,1,4,5,6,7,8,9,10,11]⟩
    ·
     exact ab
    ·
     exact aa.next O h0 Oa xZ Od (by assumption)
    ·
     have h9:=bp.2 Od;omega
   refine zx8<|(zV (xls 5 st_54 D))<|zle (xsw 4 st_54 D (hd:=(Za rfl (Za ad.one (Za rfl Zh))))) ?_;clear D;rintro w D
   refine(Om)<|zx1<|X6 4 st_54 D ⟨_,rfl,?_⟩
   obtain rfl:i=Zr p b qO:=Oa
   replace D:=D.pk [0,1,2,6,7]
   replace D:=D.cg 1 3 (ints (fun _=>0))
   replace D:=D.pk [0,1,2,3,5,4]
   replace D:=Sat.lu (l:= [_,_,_]) D qO
   replace D:=(D.cg 2 107 (Zd (fun _=>Og) (fun _=>0))).fa 3 (fun _=>Og) (fun _=>0) (fun _ _=>0)
   exact⟨(.mk qO wK (Zr p b qO) kd Og 0 (fun _=>0)),0,_,_,_,_,True,C,Og,(by rw [ZP trivial];rfl),((ZeV aa O ag).resolve_right (fun hh=>hh fun k=>⟨by show _<=(0:Int);omega,by show(0:Int)<=_;omega⟩)),⟨by omega,fun _=>Oa⟩,ad,slh_nil,slh_nil,D.pk [0,1,3,4,5,2]⟩
theorem ZkE:ZV Oj 115=some (.nilFunc,1,8):=Ob
theorem ZgM{vL vD:Value}{p:Prob}{b:Int}(w0:World)(h:PAt w0 vL vD p):
   Calls Oj 36 [.agg #[vL,vD,.int Oh p.b8,.int Oh p.bo,.int Oh b]].toArray w0 fun e w=>∃v,e= .returned v/\∃t u pv ln pt cnt e vV,v= .tuple #[.agg #[.int Oh (Tr.s t),t.vK,t.vL],vV,.int Oh e]/\RefR p b t u ln pt cnt e/\UR t/\Slh t.vK t.n/\Slh t.vL t.nl/\Slh vV u/\Sat w0 w [.sem (t.iv 54 3),.own vV 2 107 u (Zd pv cnt),.sem (Frame.rows 3 u pv ln pt)]:=by
 obtain⟨hm,ab,hd,hd1,hs,hk⟩:=h.Oo
 refine zenG Tryz.func36 Tryz.ntmps36 fun w D=> ?_
 refine zsr<|zla (xbx (cs:= [_,_,_,_,_]) D) ?_;rintro _ w ⟨g1,rfl,D⟩
 refine zla (xal (cs:= [_,_,_]) Vb D) ?_;rintro _ w ⟨g2,rfl,D⟩
 refine(Om)<|zx5<|(zV (xls 0 YJ D))<|zlc (xc0 Zdy) (Zau (p:=p) (b:=b) w (h.below D.below)) ?_;rintro _ w ⟨rfl,I⟩
 replace D:=D.cmp I;clear I
 refine(zP)<|zlt<|Ze ?_ ?_<;>intro hc
 ·
  refine zsr<|(zV (xany (v:= .agg #[.int Oh 0,Og,Og])))<|zle (xsw 1 st_54 D) ?_;clear D;rintro w D
  refine(Om)<|zx14<|X6 1 st_54 D ⟨_,rfl,?_⟩
  replace D:=D.nl
  replace D:=D.gx 54 3
  replace D:=(D.cg 2 107 (Zd (fun _=>Og) (fun _=>0))).fa 3 (fun _=>Og) (fun _=>0) (fun _ _=>0)
  exact⟨.nil,0,_,_,_,_,1,Og,rfl,.inl ⟨‹¬Yg p b›,Yw,rfl,rfl⟩,trivial,slh_nil,slh_nil,slh_nil,D⟩
 refine ZM<|zla (xal (cs:= [_]) Zm D) ?_;rintro _ w ⟨g3,rfl,D⟩
 have J:Yg p b:=Od;have ad:=J.2.1;have ac:=J.2.2
 refine zle (xsb 2 pl_3 D) ?_;clear D;rintro w D
 refine zlz<|zla (xal (cs:= [_]) ZkE D) ?_;rintro _ w ⟨g4,rfl,D⟩
 refine zlz<|(zV xmf)<|zle (xsb 3 Zca D) ?_;clear D;rintro w D
 refine zlz<|(zV (xlb 3 Zca D))<|(zV (xls 0 YJ D))<|zlc (xcc (vs:= [_]) ZjF) (Zmi _ (F:=Frame.gm [.blk g1 [vL,vD,.int Oh p.b8,.int Oh p.bo,.int Oh b],.blk g2 [.int Oh 0,Og,Og]]) (p:=p) (b:=b) (lf:=20000) w0 w (Sat.gg (l1:= [_,_]) (D.pk [2,3,0,1])) (fun w1 hb _=>h.below hb) J ⟨by omega,Oa⟩ (Nat.lt_succ_self _)) ?_;rintro _ w ⟨G,U,bN,c4,cZ,bs,xn,ae,cY,rfl,Y,bp,Z,zX,yk,D⟩
 replace D:=Sat.fx (l1:= [_,_,_,_,_]) (l3:= []) D
 replace D:=D.pk [0,1,3,4,5,6,2]
 have jB:=fun j (j0:0<=j) (j1:j<U)=>D.db 3 rfl j0 j1
 have fA:=Zjs Y;have fC:=yk.n0
 refine zs4 ?_
 refine zla (xal (cs:= [_,_,_]) Vb D) ?_;rintro _ w ⟨g5,rfl,D⟩
 refine zle (xsw 7 st_54 D (hd:=(Za rfl (Za Z.one (Za zX.one Zh))))) ?_;clear D;rintro w D
 refine(Om)<|zlt<|zsq<|zbk<|zsr<|(On)<|zlt<|Ze ?_ ?_<;>intro hc
 ·
  refine zsr<|(zV (xany (v:= .agg #[.int Oh 0,Og,Og])))<|zle (xsw 5 st_54 D) ?_;clear D;rintro w D
  refine(Om)<|Xt<|X6 5 st_54 D ⟨_,rfl,?_⟩
  replace D:=D.nl
  replace D:=D.gx 54 3
  replace D:=(D.cg 2 107 (Zd (fun _=>Og) (fun _=>0))).fa 3 (fun _=>Og) (fun _=>0) (fun _ _=>0)
  exact⟨.nil,0,_,_,_,_,9,Og,rfl,.inr (.inl ⟨J,ZeZ J.1 Y ‹¬xn›,Yw,rfl,rfl⟩),trivial,slh_nil,slh_nil,slh_nil,D⟩
 refine zsr<|(zV (xls 4 YJ D))<|(zV (xls 7 st_54 D))<|(zP)<|zlc (xc0 ZjE) (ZgO (p:=p) (b:=b) (u:=U) (n9:=G.n) (nl9:=G.nl) (s9:=G.s) w (h.below D.below) Z zX yk) ?_;rintro _ w ⟨rfl,I⟩
 replace D:=D.cmp I;clear I
 refine(zP)<|zlt<|Ze ?_ ?_<;>intro hc
 ·
  refine zsr<|(zV (xany (v:= .agg #[.int Oh 0,Og,Og])))<|zlv xmv ?_
  have X:=ZhJ Y Od Od
  refine zlc (xc0 Zdx) (Zaw (u:=U) (pv:=bN) (ln:=c4) (pt:=cZ) (cnt:=bs) w (⟨(D.c7 2 rfl),fun k W V=>D.fq 3 rfl W V,fun k W V=>D.gb 3 rfl W V⟩:VAt _ cY U bN c4 cZ bs) Oa (fun k W V=>by have h8:=(X.1.1.2.2 k W V).2.2.eq;have:=X.1.1.1.m2;omega) (fun k W V=>by have h8:=X.1.1.2.2 k W V;exact⟨h8.1,h8.2.1⟩)) ?_;rintro xi w ⟨_,qo,qV,qI,qF,qB,rfl,qQ,xg,yY,xf,qW,I⟩
  replace D:=(D.comp I).n10;clear I
  have yf:=fun k (W:0<=k) (V:k<qo)=>D.db 9 rfl W V
  refine zle (xsw 5 st_54 D) ?_;clear D;rintro w D
  refine(Om)<|Xt<|X6 5 st_54 D ⟨_,rfl,?_⟩
  have aa:=Zfb X Oa qQ Oa xg yY
  replace D:=D.pk [8,9]
  replace D:=D.gx 54 3
  exact⟨.nil,_,_,_,_,_,0,_,rfl,.inr (.inr (.inl ⟨J,rfl,Yw,aa⟩)),trivial,slh_nil,slh_nil,qW,D.pk [2,0,1]⟩
 refine zsr<|zlv (xls 7 st_54 D) ?_
 have O:=ZhH Y Od (by assumption)
 refine zlc (xc0 ZjD) (Kk (t:=G) w (Tr.i6 G O.2.2.2.1.2 (D.holds (.sem (Tr.iv 54 3 G)) (by repeat first|exact List.mem_cons_self .. |apply List.mem_cons_of_mem))).1 (Tr.i6 G O.2.2.2.1.2 (D.holds (.sem (Tr.iv 54 3 G)) (by repeat first|exact List.mem_cons_self .. |apply List.mem_cons_of_mem))).2) ?_;rintro _ w ⟨rfl,I⟩
 replace D:=D.cmp I;clear I
 refine(Om)<|zlt<|Ze ?_ ?_<;>intro hc
 ·
  refine zsr<|(zV (xany (v:= .agg #[.int Oh 0,Og,Og])))<|zle (xsw 5 st_54 D) ?_;clear D;rintro w D
  refine(Om)<|Xt<|X6 5 st_54 D ⟨_,rfl,?_⟩
  replace D:=D.nl
  replace D:=D.gx 54 3
  replace D:=(D.cg 2 107 (Zd (fun _=>Og) (fun _=>0))).fa 3 (fun _=>Og) (fun _=>0) (fun _ _=>0)
  exact⟨.nil,0,_,_,_,_,9,Og,rfl,.inr (.inl ⟨J,ZeY J.1 Y O.2.2.2 ‹¬Xe G›,Yw,rfl,rfl⟩),trivial,slh_nil,slh_nil,slh_nil,D⟩
 refine zsk<|zbn<|ztn<|zsr<|(zV (xls 7 st_54 D))<|zle (xsw 5 st_54 D (hd:=(Za rfl (Za Z.one (Za zX.one Zh))))) ?_;clear D;rintro w D
 refine(Om)<|zx1<|X6 5 st_54 D ⟨_,rfl,?_⟩
 replace D:=D.pk [6]
 replace D:=(D.cg 2 107 (Zd (fun _=>Og) (fun _=>0))).fa 3 (fun _=>Og) (fun _=>0) (fun _ _=>0)
 exact⟨G,0,_,_,_,_,0,Og,rfl,.inr (.inr (.inr ⟨J,rfl,rfl,Oc ‹¬¬Xe G›,O.2.2.2.1.2,O.2.1,O.2.2.1⟩)),O.2.2.2.1.2,Z,zX,slh_nil,D⟩
theorem ZnU:Zc Oj 36=true:=Ob
theorem ZfP:ZV Oj 63=some (.agg #[.int Oh 0,Og,.int Oh 0,Og,Og],5,88):=Ob
theorem XR:ZC Oj 63=some 5:=Ob
theorem ZbD{vL vD:Value}{p:Prob}(w0:World)(h:PAt w0 vL vD p):
   Calls Oj 30 [.agg #[vL,vD,.int Oh p.b8,.int Oh p.bo]].toArray w0 fun e w=>∃v,e= .returned v/\∃nb t u pv ln pt cnt e vV,v= .tuple #[.agg #[.int Oh nb,vV,.int Oh (Tr.s t),t.vK,t.vL],.int Oh e]/\SolR6 p nb t u ln pt cnt e/\UR t/\Slh t.vK t.n/\Slh t.vL t.nl/\Slh vV u/\Sat w0 w [.sem (t.iv 54 3),.own vV 2 107 u (Zd pv cnt),.sem (Frame.rows 3 u pv ln pt)]:=by
 obtain⟨hm,af,hd,hd1,hs,hk⟩:=h.Oo
 refine zenG Tryz.func30 Tryz.ntmps30 fun w D=> ?_
 refine zsr<|zla (xbx (cs:= [_,_,_,_]) D) ?_;rintro _ w ⟨g1,rfl,D⟩
 refine zla (xal (cs:= [_,_,_,_,_]) ZfP D) ?_;rintro _ w ⟨g2,rfl,D⟩
 refine(zP)<|zx5<|(zV (xls 0 st_32 D))<|zlc (xc0 XZ) (Yn (p:=p) w (h.below D.below)) ?_;rintro _ w ⟨rfl,F⟩
 replace D:=D.cmp F;clear F
 refine(zP)<|zlt<|Ze ?_ ?_<;>intro hc
 ·
  refine zsr<|(zV (xany (v:= .agg #[.int Oh 0,Og,.int Oh 0,Og,Og])))<|zle (xsw 1 XR D) ?_;clear D;rintro w D
  refine(zP)<|zx14<|ZS 1 XR D ⟨_,rfl,?_⟩
  replace D:=D.nl
  replace D:=D.gx 54 3
  replace D:=(D.cg 2 107 (Zd (fun _=>Og) (fun _=>0))).fa 3 (fun _=>Og) (fun _=>0) (fun _ _=>0)
  exact⟨0,.nil,0,_,_,_,_,1,Og,rfl,.inl ⟨‹¬p.Ok›,rfl,rfl,Yw,rfl⟩,trivial,slh_nil,slh_nil,slh_nil,D⟩
 refine ZM<|zlv (xls 0 st_32 D) ?_
 have J:p.Ok:=Od
 refine zlc (xc0 ZjG) (Zhd (p:=p) w (h.below D.below)) ?_;rintro _ w ⟨ag,ye,zg,zj,zA,zE,dB,rfl,qS,br,dv,xY,F⟩
 replace D:=(D.comp F).n4;clear F
 have co:=fun k (Y:0<=k) (X:k<ye)=>D.db 3 rfl Y X
 refine zs5 ?_
 refine zx5<|(Om)<|zlt<|Ze ?_ ?_<;>intro hc
 ·
  refine zsr<|(zV (xany (v:= .agg #[.int Oh 0,Og,.int Oh 0,Og,Og])))<|zle (xsw 1 XR D) ?_;clear D;rintro w D
  refine(zP)<|zx14<|ZS 1 XR D ⟨_,rfl,?_⟩
  replace D:=D.nl
  replace D:=D.gx 54 3
  replace D:=(D.cg 2 107 (Zd (fun _=>Og) (fun _=>0))).fa 3 (fun _=>Og) (fun _=>0) (fun _ _=>0)
  exact⟨0,.nil,0,_,_,_,_,9,Og,rfl,.inr (.inl ⟨J,by have h8:=(qS.np J).2;omega,rfl,rfl,Yw,rfl⟩),trivial,slh_nil,slh_nil,slh_nil,D⟩
 refine zsk<|ztn<|zbk ?_
 have aa:=qS.meets J Oa xY.n0
 have zl:=(qS.np J).1 Oa
 refine zlp (fun mm M w=>∃(O:Int) (wv:Int->Value) (lC:Oe) (gC:Of) (V:Oe) (wC:Value),mm=((brs O V).toNat)/\(PMt p O lC gC V)/\(brs O V<=1000)/\(Slh wC O)/\M= [(1,Oq g1),(2,Oq g2),(4,wC)]/\Sat w0 w [.blk g1 [vL,vD,.int Oh p.b8,.int Oh p.bo],.blk g2 [.int Oh 0,Og,.int Oh 0,Og,Og],.own wC 2 107 O (Zd wv V),.sem (Frame.rows 3 O wv lC gC)]) ⟨ye,zg,zj,zA,zE,ag,rfl,?_,?_,?_,rfl,D⟩ ?_
 ·
  exact aa.1
 ·
  exact Int.le_trans aa.2 zl
 ·
  exact xY
 clear D w
 rintro mm M w ⟨O,wv,lC,gC,V,wC,rfl,U,ab,G,rfl,D⟩
 have ae:=fun k (Y:0<=k) (X:k<O)=>D.db 3 rfl Y X
 have ad:=U.1.2.1
 refine zbk<|zsr<|(zP)<|zlc (xc0 Zby) (Uw (u:=O) (pv:=wv) (ln:=lC) (pt:=gC) (cnt:=V) w (⟨(D.c7 2 rfl),fun k Y X=>D.fq 3 rfl Y X,fun k Y X=>D.gb 3 rfl Y X⟩:VAt _ wC O wv lC gC V) Oa (fun k Y X=>by have h8:=U.1.2.2 k Y X;omega)) ?_;rintro _ w ⟨rfl,F⟩
 replace D:=D.cmp F;clear F
 have ac:=Zoj U;unfold brs at ac ab
 refine(zP)<|zx5<|(Om)<|zlt<|Ze ?_ ?_<;>intro hc
 ·
  refine zsr<|(zP)<|zlv (xany (v:= .agg #[.int Oh 0,wC,.int Oh 0,Og,Og]) (hr:=by obtain⟨_,_,_,_,rfl,_⟩:=G;kernel_rfl)) ?_
  refine zle (xsw 1 XR D (hd:=(Za rfl (Za G.one (Za rfl (Za rfl (Za rfl Zh))))))) ?_;clear D;rintro w D
  refine(zP)<|zlt<|zrt<|ztr<|zbr<|ztr<|zbr<|ZS 1 XR D ⟨_,rfl,?_⟩
  replace D:=D.pk [2,3]
  replace D:=D.gx 54 3
  exact⟨0,.nil,_,_,_,_,_,0,_,rfl,.inr (.inr ⟨J,rfl,U,by unfold brs;omega,Oa,trivial,.inl ⟨rfl,Yw⟩⟩),trivial,slh_nil,slh_nil,G,D.pk [2,0,1]⟩
 refine ZM<|zlv (xls 0 st_32 D) ?_
 have bA:Yg p ((psum (fun _=>1) V (O).toNat)-1):=⟨J,Oa,Oa⟩
 refine(zP)<|(zV (Zw (r:=(psum (fun _=>1) V (O).toNat)-1)))<|zlv (xany (v:= .agg #[vL,vD,.int Oh p.b8,.int Oh p.bo,.int Oh ((psum (fun _=>1) V (O).toNat)-1)]) (hr:=by obtain⟨_,_,_,_,rfl,_⟩:=h.L.cf;obtain⟨_,_,_,_,rfl,_⟩:=h.D.cf;kernel_rfl)) ?_
 refine zlc (xc0 ZnU) (ZgM (p:=p) (b:=((psum (fun _=>1) V (O).toNat)-1)) w (h.below D.below)) ?_;rintro _ w ⟨W,eY,e7,fk,e8,eH,ms,eU,rfl,yF,jF,y4,Z,fv,F⟩
 replace D:=(D.comp F).n7;clear F
 have kz:=fun j (j0:0<=j) (j1:j<eY)=>D.db 6 rfl j0 j1
 refine zs4 ?_
 refine zla (xal (cs:= [_,_,_]) Vb D) ?_;rintro _ w ⟨g3,rfl,D⟩
 refine zle (xsw 7 st_54 D (hd:=(Za rfl (Za y4.one (Za Z.one Zh))))) ?_;clear D;rintro w D
 refine(Om)<|zx5<|(Om)<|zlt<|Ze ?_ ?_<;>intro hc
 ·
  refine zsr<|(zV (xany (v:= .agg #[.int Oh 0,Og,.int Oh 0,Og,Og])))<|zle (xsw 1 XR D) ?_;clear D;rintro w D
  refine(zP)<|zlt<|zrt<|ztr<|zbr<|ztr<|zbr<|ZS 1 XR D ⟨_,rfl,?_⟩
  replace D:=D.nl
  replace D:=D.gx 54 3
  replace D:=(D.cg 2 107 (Zd (fun _=>Og) (fun _=>0))).fa 3 (fun _=>Og) (fun _=>0) (fun _ _=>0)
  exact⟨0,.nil,0,_,_,_,_,9,Og,rfl,.inr (.inl ⟨J,yF.err bA Oa,rfl,rfl,Yw,rfl⟩),trivial,slh_nil,slh_nil,slh_nil,D⟩
 refine YL<|(zV (xfb 1 fd_54_1))<|(zV (xlb 7 Wb D))<|(zV (xln Xm y4))<|(Om)<|zlb 44 ?_ ?_<;>intro hc
 ·
  iterate 4 refine zlo ?_
  refine(zP)<|zlt<|zct<|zsr ?_
  refine(Om)<|(zV (xls 7 st_54 D))<|zlv (xany (v:= .agg #[.int Oh (psum (fun _=>1) V (O).toNat),wC,.int Oh W.s,W.vK,W.vL]) (hr:=by obtain⟨_,_,_,_,rfl,_⟩:=G;have hz:=y4;revert hz;generalize W.vK=z;rintro⟨_,_,_,_,rfl,_⟩;show _=_;have hz:=Z;revert hz;generalize W.vL=z;rintro⟨_,_,_,_,rfl,_⟩;show _=_;kernel_rfl)) ?_
  refine zle (xsw 1 XR D (hd:=(Za rfl (Za G.one (Za rfl (Za y4.one (Za Z.one Zh))))))) ?_;clear D;rintro w D
  refine(zP)<|zlt<|zrt<|ztr<|zbr<|ztr<|zbr<|ZS 1 XR D ⟨_,rfl,?_⟩
  have I:=yF.tree Oa (by first|exact .inl Oa|exact .inr Oa)
  replace D:=D.pk [4,2,3]
  exact⟨_,W,_,_,_,_,_,0,_,rfl,.inr (.inr ⟨J,rfl,U,rfl,Oa,I.2.1,.inr ⟨by omega,I.1,I.2.2⟩⟩),I.2.1,y4,Z,G,D⟩
 refine(zV (xfb 2 fd_54_2))<|(zV (xlb 7 pl_22 D))<|(zV (xln Zb Z))<|(Om)<|zlt<|Ze ?_ ?_<;>intro hc
 ·
  refine zsr<|(Om)<|(zV (xls 7 st_54 D))<|zlv (xany (v:= .agg #[.int Oh (psum (fun _=>1) V (O).toNat),wC,.int Oh W.s,W.vK,W.vL]) (hr:=by obtain⟨_,_,_,_,rfl,_⟩:=G;have hz:=y4;revert hz;generalize W.vK=z;rintro⟨_,_,_,_,rfl,_⟩;show _=_;have hz:=Z;revert hz;generalize W.vL=z;rintro⟨_,_,_,_,rfl,_⟩;show _=_;kernel_rfl)) ?_
  refine zle (xsw 1 XR D (hd:=(Za rfl (Za G.one (Za rfl (Za y4.one (Za Z.one Zh))))))) ?_;clear D;rintro w D
  refine(zP)<|zlt<|zrt<|ztr<|zbr<|ztr<|zbr<|ZS 1 XR D ⟨_,rfl,?_⟩
  have I:=yF.tree Oa (by first|exact .inl Oa|exact .inr Oa)
  replace D:=D.pk [4,2,3]
  exact⟨_,W,_,_,_,_,_,0,_,rfl,.inr (.inr ⟨J,rfl,U,rfl,Oa,I.2.1,.inr ⟨by omega,I.1,I.2.2⟩⟩),I.2.1,y4,Z,G,D⟩
 refine zsk<|ztn<|zrg<|(Om)<|zln<|zbn<|zlq ⟨eY,e7,fk,e8,eH,eU,rfl,?_,?_,?_,rfl,D.pk [0,1,5,6]⟩ (hlt:=(by have h8:=(yF.kj Oa Oa Oa).2;unfold brs at h8⊢;omega))
 ·
  exact(yF.kj Oa Oa Oa).1
 ·
  have h8:=(yF.kj Oa Oa Oa).2;unfold brs at h8⊢;omega
 ·
  exact fv
theorem SolR6.u{p:Prob}{nb u e:Int}{t:Tr}{ln cnt:Oe}{pt:Of}(h:SolR6 p nb t u ln pt cnt e):u<=1000:=by
 rcases h with⟨_,_,_,_,h⟩|⟨_,_,_,_,_,h⟩|⟨_,_,h,_⟩
 · omega
 · omega
 · exact h.1.2.1
variable {e:Int} {cnt ln:Oe} {pt:Of}
theorem ZnW:Zc Oj 26=true:=Ob
theorem ZjJ:Zc Oj 30=true:=Ob
theorem SolR6.nv{p:Prob}{nb u:Int}{t:Tr}(h:SolR6 p nb t u ln pt cnt e)(D:p.Ok)(hn:ZO p<=6):e=0:=by
 rcases h with⟨h,_⟩|⟨_,h,_⟩|⟨_,h,_⟩
 · exact absurd D h
 · omega
 · exact h
theorem SolR6.bars{p:Prob}{nb u:Int}{t:Tr}(h:SolR6 p nb t u ln pt cnt e)(D:p.Ok)(I:e=0):∃L,LFit p L/\(∀j,0<=j->j<p.m->p.D j<=XX L j)/\(L.length:Int)=nb:=by
 rcases h with⟨h,_⟩|⟨_,_,h,_⟩|⟨_,_,h1,h2,_⟩
 · exact absurd D h
 · omega
 · obtain⟨L,G,F,g3⟩:=RL h1
   exact⟨L,G,F,g3.trans h2⟩
theorem SolR6.least{p:Prob}{nb u:Int}{t:Tr}(h:SolR6 p nb t u ln pt cnt e)(D:p.Ok)(G:e=0){L:List (Oe)}(F:LFit p L)(hc:∀j,0<=j->j<p.m->p.D j<=XX L j):nb<=L.length:=by
 rcases h with⟨h,_⟩|⟨_,_,h,_⟩|⟨_,_,_,_,_,_,⟨h1,_⟩|⟨_,_,h1⟩⟩
 · exact absurd D h
 · omega
 · omega
 · have:=Tw t h1 F hc;omega
def pX:Prob:=⟨2,fun k=> [6,4].getD k.toNat 0,2,fun k=> [2,2].getD k.toNat 0,10,0⟩
def lX:Oe:=fun k=> [1,1,0].getD k.toNat 0
theorem U0:pX.Ok:=⟨by decide,by decide,rfl,by decide,by decide,by decide,by decide,Gw.two (by unfold Prob.each;decide) (by unfold Prob.each;decide)⟩
theorem Zc0:ZO pX=4:=by decide
theorem Zjv:Ww pX 1 3 lX:=by
 have hc:Chk pX (3-1) (fun k=>lX (k+1)) (lX 0)=0:=Zgr U0 ⟨by decide,by decide,Gw.two (by decide) (by decide)⟩ rfl (by decide)
 refine⟨⟨U0,by decide,by decide⟩,by decide,hc,?_⟩
 rw [VQ hc];decide
def oX:Oe:=fun k=> [1,1].getD k.toNat 0
theorem Zj4:FitsP pX pX.m oX:=⟨U0,rfl,Gw.two (by decide) (by decide),by decide⟩
theorem ZjZ{nb u:Int}{t:Tr}(h:SolR6 pX nb t u ln pt cnt e):e=0/\nb=2/\Zhp pX nb u ln pt cnt t:=by
 have D:=h.nv U0 (by rw [Zc0];decide)
 obtain⟨L,J,I,g3⟩:=h.bars U0 D
 have h1:=Tw (.mk 0 Og 0 (fun _=> .nil) Og 3 lX) (X7 rfl Zjv) J I
 have G:=h.least U0 D (L:= [oX,oX]) (fun a F=>by
   simp only [List.mem_cons,List.not_mem_nil,or_false,or_self] at F
   rw [F];exact Zj4) (Gw.two (by decide) (by decide))
 have O:nb<=2:=G
 refine⟨D,Oa,?_⟩
 rcases h with⟨h,_⟩|⟨_,h,_⟩|⟨_,_,q1,q2,_,_,⟨q3,_⟩|⟨q3,q4,q5⟩⟩
 · exact absurd U0 h
 · rw [Zc0] at h;omega
 · omega
 · exact⟨q1,q2,.inr ⟨by omega,(WO ⟨U0,Oa,Oa⟩ q4 q5).1⟩⟩
theorem Rf(w0:World):
   Calls Oj 11 [].toArray w0 fun e w=>∃v,e= .returned v/\v= .bool true/\Sat w0 w []:=by
 refine zenG Tryz.func11 Tryz.ntmps11 fun w D=> ?_
 refine zsr<|(zP)<|zlz<|zla (xli (n:=2) (len:=2) (pv:= [(0,.int Oh 6),(1,.int Oh 4)]) (cs:= [.int Oh 6,.int Oh 4]) (c:=ints (fun k=> [6,4].getD k.toNat 0)) Zb Zm D) ?_;rintro Z w ⟨D,I⟩
 refine zla (xli (n:=2) (len:=2) (pv:= [(0,.int Oh 2),(1,.int Oh 2)]) (cs:= [.int Oh 2,.int Oh 2]) (c:=ints (fun k=> [2,2].getD k.toNat 0)) Zb Zm D) ?_;rintro Y w ⟨D,G⟩
 refine zlv (xany (v:= .agg #[Z,Y,.int Oh 10,.int Oh 0]) (hr:=by obtain⟨_,_,_,_,rfl,_⟩:=I;obtain⟨_,_,_,_,rfl,_⟩:=G;kernel_rfl)) ?_
 refine zla (xal (cs:= [_,_,_,_]) ZfQ D) ?_;rintro _ w ⟨g1,rfl,D⟩
 refine zle (xsw 2 st_32 D (hd:=(Za I.one (Za G.one (Za rfl (Za rfl Zh)))))) ?_;clear D;rintro w D
 refine zlz<|(zV (xls 2 st_32 D))<|zlc (xc0 ZjJ) (ZbD (p:=(⟨2,(fun k=> [6,4].getD k.toNat 0),2,(fun k=> [2,2].getD k.toNat 0),10,0⟩:Prob)) w (⟨(D.c7 0 rfl),(D.c7 1 rfl),(Zcf _ (by decide)),(Zcf _ (by decide)),(by(try dsimp only);omega),(by(try dsimp only);omega)⟩:PAt _ _ _ (⟨2,(fun k=> [6,4].getD k.toNat 0),2,(fun k=> [2,2].getD k.toNat 0),10,0⟩:Prob))) ?_;rintro _ w ⟨bj,J,W,bP,bW,bQ,aX,eE,de,rfl,X,aN,cA,cx,bZ,F⟩
 replace D:=(D.comp F).n6;clear F
 have fK:=fun j (j0:0<=j) (j1:j<W)=>D.db 5 rfl j0 j1
 have dS:=SolR6.u X
 refine(On)<|zla (xal (cs:= [_,_,_,_,_]) ZfP D) ?_;rintro _ w ⟨g2,rfl,D⟩
 refine zle (xsw 6 XR D (hd:=(Za rfl (Za bZ.one (Za rfl (Za cA.one (Za cx.one Zh))))))) ?_;clear D;rintro w D
 refine(zP)<|zlz<|zlv xmv ?_
 obtain⟨ab,aa,V⟩:=ZjZ X
 refine(zV (xkt YT))<|(zP)<|(zV (xfb 0 WK))<|(zV (xlb 6 pl_3 D))<|(On)<|zlb 19 ?_ ?_<;>intro hc
 ·
  refine(zV (xls 2 st_32 D))<|(zV (xls 6 XR D))<|zlc (xc0 ZnW) (ZiN (u:=W) (pv:=bP) (ln:=bW) (pt:=bQ) (cnt:=aX) (p:=(⟨2,(fun k=> [6,4].getD k.toNat 0),2,(fun k=> [2,2].getD k.toNat 0),10,0⟩:Prob)) (nb:=bj) (t:=J) w (⟨(D.c7 4 rfl),fun k U O=>D.fq 5 rfl U O,fun k U O=>D.gb 5 rfl U O⟩:VAt _ de W bP bW bQ aX) (⟨(D.c7 0 rfl),(D.c7 1 rfl),(Zcf _ (by decide)),(Zcf _ (by decide)),(by(try dsimp only);omega),(by(try dsimp only);omega)⟩:PAt _ _ _ (⟨2,(fun k=> [6,4].getD k.toNat 0),2,(fun k=> [2,2].getD k.toNat 0),10,0⟩:Prob)) (Tr.i6 J aN (D.holds (.sem (Tr.iv 54 3 J)) (by repeat first|exact List.mem_cons_self .. |apply List.mem_cons_of_mem))).1 (Tr.i6 J aN (D.holds (.sem (Tr.iv 54 3 J)) (by repeat first|exact List.mem_cons_self .. |apply List.mem_cons_of_mem))).2 Oa) ?_;rintro _ w ⟨rfl,F⟩
  replace D:=D.cmp F;clear F
  refine ZbV 22 (u:= .bool true) (ZP V) ?_
  refine(Om)<|(zV (xls 2 st_32 D))<|zlv (xany (v:= .agg #[Z,Y,.int Oh 10,.int Oh 0,.int Oh 1]) (hr:=by obtain⟨_,_,_,_,rfl,_⟩:=I;obtain⟨_,_,_,_,rfl,_⟩:=G;kernel_rfl)) ?_
  refine zla (xli (n:=3) (len:=3) (pv:= [(0,.int Oh 1),(1,.int Oh 1),(2,.int Oh 0)]) (cs:= [.int Oh 1,.int Oh 1,.int Oh 0]) (c:=ints (fun k=> [1,1,0].getD k.toNat 0)) Zb Zm D) ?_;rintro v3 w ⟨D,ac⟩
  refine zlc (xc0 ZjK) (ZgZ (p:=(⟨2,(fun k=> [6,4].getD k.toNat 0),2,(fun k=> [2,2].getD k.toNat 0),10,0⟩:Prob)) (b:=1) w (⟨(D.c7 0 rfl),(D.c7 1 rfl),(Zcf _ (by decide)),(Zcf _ (by decide)),(by(try dsimp only);omega),(by(try dsimp only);omega)⟩:PAt _ _ _ (⟨2,(fun k=> [6,4].getD k.toNat 0),2,(fun k=> [2,2].getD k.toNat 0),10,0⟩:Prob)) (⟨(D.c7 7 rfl),(Zcf _ (by decide))⟩:IAt _ _ 3 (fun k=> [1,1,0].getD k.toNat 0)) (Ent.holds.roomy (D.holds _ (List.mem_of_getElem? (i:=7) rfl)))) ?_;rintro _ w ⟨rfl,F⟩
  replace D:=D.cmp F;clear F
  refine ZbV 28 (u:= .bool true) (ZP Zjv) ?_
  refine(Om)<|zx1<|Oi ?_
  exact⟨rfl,D.nl⟩
 iterate 3 refine zlo ?_
 refine zs2 ?_
 iterate 4 refine zlo ?_
 refine(Om)<|zx1<|Oi ?_
 exfalso;omega
end Go.Proofs.YtkichmnjjblodaaGreat
namespace Go.Proofs.YtkichmnjjblodaaGreat
open Go Go.RowKit Go.Proofs.Gw
theorem Zgi:Zc Oj 11=true:=Ob
theorem ZnZ:Zc Oj 12=true:=Ob
theorem SolR6.nb{p:Prob}{nb u e:Int}{t:Tr}{ln cnt:Oe}{pt:Of}(h:SolR6 p nb t u ln pt cnt e):0<=nb/\nb<=1000:=by
 rcases h with⟨_,_,h,_⟩|⟨_,_,_,h,_⟩|⟨_,_,h1,h2,h3,_⟩
 · omega
 · omega
 · have:=Zoj h1;omega
theorem SolR6.lim{p:Prob}{nb u e:Int}{t:Tr}{ln cnt:Oe}{pt:Of}(h:SolR6 p nb t u ln pt cnt e)(D:p.Ok)(F:e≠0):e=9/\nb=0/\u=0:=by
 rcases h with⟨h,_⟩|⟨_,_,h1,h2,_,h3⟩|⟨_,h,_⟩
 · exact absurd D h
 · exact⟨h1,h2,h3⟩
 · exact absurd h F
theorem SolR6.kj{p:Prob}{nb u e v:Int}{t:Tr}{ln cnt ln2 qg:Oe}{pt pt2:Of}(h:SolR6 p nb t u ln pt cnt e)(D:p.Ok)(G:e=0)(F:PlanOk p v ln2 pt2 qg/\∀j,0<=j->j<p.m->p.D j<=Zo v pt2 qg j):nb<=psum (fun _=>1) qg v.toNat:=by
 obtain⟨L,J,I,g3⟩:=RL F
 rw [<-g3];exact h.least D G J I
variable {c i k:Int}
theorem TY:ZV Oj 170=some (.agg #[.int Oh 0,.int Oh 0,.int Oh 0],3,24):=Ob
theorem fd_170_0:Zv Oj 170 0=some 0:=Ob
theorem fd_170_1:Zv Oj 170 1=some 1:=Ob
theorem fd_170_2:Zv Oj 170 2=some 2:=Ob
theorem XT:ZJ Oj 168=some (170,3):=Ob
theorem UE:ZC Oj 170=some 3:=Ob
theorem Ze2{T:Oe}{s y v:Int}(F:0<=T c)(D:k*s<=c)(h:(k=0/\v=0)\/(1<=k/\v=R T s y (k-1).toNat c)):max v (k*y+T (c-k*s))=R T s y k.toNat c:=by
 rcases h with⟨rfl,rfl⟩|⟨h1,rfl⟩
 · rw [Int.zero_mul,Int.zero_mul,Int.sub_zero,Int.zero_add];show max 0 (T c)=T c;omega
 · rw [ZoH T s y h1 D];omega
theorem Ze3{T:Oe}{s y v M:Int}(G:1<=s)(O:0<=c)(U:0<=M)(I:k<=M+1)(D:¬(k<=M/\k*s<=c))(h:(k=0/\v=0)\/(1<=k/\v=R T s y (k-1).toNat c)):v=R T s y M.toNat c:=by
 rcases h with⟨rfl,_⟩|⟨h1,rfl⟩
 · exfalso;rw [Int.zero_mul] at D;omega
 · by_cases e:k<=M
   · have J:¬k*s<=c:=fun F=>D ⟨e,F⟩
     exact(Zhq T s y c (k-1).toNat (by rw [show((k-1).toNat:Int)+1=k by omega];omega) Oa M.toNat Oa).symm
   · rw [show k-1=M by omega]
def SkI(t:Its)(i c k n:Int):Prop:=(n=0/\∀j,0<=j->j<k->KI t (i+1) (c-j*t.S i)+j*t.V i≠KI t i c)\/
  (0<=n/\n<k/\n<=t.M i/\n*t.S i<=c/\KI t (i+1) (c-n*t.S i)+n*t.V i=KI t i c/\∀j,n<j->j<k->KI t (i+1) (c-j*t.S i)+j*t.V i≠KI t i c)
theorem SkI.start(t:Its)(i c:Int):SkI t i c 0 0:= .inl ⟨rfl,fun j a b=>Oa⟩
theorem SkI.yes{t:Its}(F:0<=k)(hM:k<=t.M i)(D:k*t.S i<=c)(G:k*t.V i+KI t (i+1) (c-k*t.S i)=KI t i c):SkI t i c (k+1) k:= .inr ⟨F,Oa,hM,D,Oa,fun j a b=>Oa⟩
theorem SkI.no{t:Its}{n:Int}(h:SkI t i c k n)(D:k*t.V i+KI t (i+1) (c-k*t.S i)≠KI t i c):SkI t i c (k+1) n:=by
 rcases h with⟨h1,h2⟩|⟨h1,h2,h3,h4,h5,h6⟩
 · refine .inl ⟨h1,fun j a b=> ?_⟩
   by_cases e:j=k
   · subst e;omega
   · exact h2 j a Oa
 · refine .inr ⟨h1,Oa,h3,h4,h5,fun j a b=> ?_⟩
   by_cases e:j=k
   · subst e;omega
   · exact h6 j a Oa
theorem SkI.fin{t:Its}{cap n:Int}(J:t.Ok cap)(I:0<=i)(G:i<t.n)(X:0<=c)(h:SkI t i c k n)(W:¬(k<=t.M i/\k*t.S i<=c)):
   0<=n/\n<=t.M i/\n*t.S i<=c/\KI t (i+1) (c-n*t.S i)+n*t.V i=KI t i c/\∀j,n<j->j<=t.M i->j*t.S i<=c->KI t (i+1) (c-j*t.S i)+j*t.V i≠KI t i c:=by
 have V:=J.all i I G
 unfold Its.each Yy at V
 have hlt:∀j,j<=t.M i->j*t.S i<=c->j<k:=fun j F D=>by
   rcases Int.lt_or_le j k with h1|h1
   · exact h1
   · exfalso
     have:=Int.mul_le_mul_of_nonneg_right h1 (show 0<=t.S i by omega)
     exact W ⟨by omega,Oa⟩
 rcases h with⟨h1,h2⟩|⟨h1,h2,h3,h4,h5,h6⟩
 · obtain⟨j,U,F,D,O⟩:=ZjP J I G X
   exact absurd O (h2 j U (hlt j F D))
 · exact⟨h1,h3,h4,h5,fun j a b d=>h6 j a (hlt j b d)⟩
theorem Zes{vI:Value}{t:Its}{cap:Int}(w0:World)(I:Row w0 vI 3 t.n (ZW t.S t.V t.M)):
   Calls Oj 146 [vI,.int Oh cap].toArray w0 fun e w=>∃v,e= .returned v/\v=B (t.Ok cap)/\Sat w0 w []:=by
 have hn:=I.cf.n0;have aa:=I.cf.n1
 refine zenG Tryz.func146 Tryz.ntmps146 fun w F=> ?_
 refine zsr<|(zP)<|zx5<|(zP)<|zx6<|zlp (fun Z M w=>∃(i:Int),Z=((t.n-i).toNat)/\(0<=i)/\(i<=t.n)/\(∀k,0<=k->k<i->t.each k)/\M= [(0,vI),(1,.int Oh cap),(5,.int Oh i)]/\Sat w0 w []) ⟨0,rfl,Oa,Oa,?_,rfl,F⟩ ?_
 ·
  intro k J h1;omega
 clear F w
 rintro Z M w ⟨i,rfl,J,h1,Y,rfl,F⟩
 refine zx11<|(Om)<|(zV (xln XT I.cf))<|(zP)<|zlt<|Ze ?_ ?_<;>intro hc
 ·
  refine zx3<|(Om)<|(zV (xix (kk:=3*i) XT I.cf))<|(zV (xlw (cs:= [.int Oh (t.S i),.int Oh (t.V i),.int Oh (t.M i)]) UE (I.below F.below) (XO (k:=3*i) (i:=i) t.S t.V t.M Oa)))<|zla (xal (cs:= [_,_,_]) TY F) ?_;rintro _ w ⟨g1,rfl,F⟩
  refine zle (xsw 0 UE F) ?_;clear F;rintro w F
  refine zlz<|(zV (xfb 0 fd_170_0))<|(zV (xlb 0 pl_3 F))<|(Om)<|zlb 20 ?_ ?_<;>intro hc;rotate_left
  refine(zV (xfb 0 fd_170_0))<|(zV (xlb 0 pl_3 F))<|(On)<|zlb 25 ?_ ?_<;>intro hc;rotate_left
  refine(zV (xfb 1 fd_170_1))<|(zV (xlb 0 pl_3 F))<|(On)<|zlb 30 ?_ ?_<;>intro hc;rotate_left
  refine(zV (xfb 1 fd_170_1))<|(zV (xlb 0 pl_3 F))<|(On)<|zlb 35 ?_ ?_<;>intro hc;rotate_left
  refine(zV (xfb 2 fd_170_2))<|(zV (xlb 0 pl_3 F))<|(On)<|zlb 40 ?_ ?_<;>intro hc;rotate_left
  refine(zV (xfb 2 fd_170_2))<|(zV (xlb 0 pl_3 F))<|(Om)<|zlt<|Ze ?_ ?_<;>intro hc
  ·
   refine zsr<|(zP)<|zx2<|Oi ?_
   exact⟨false_B (by intro D;have W:=D.n;have V:=D.c0;have U:=D.c1;first|omega|(have G:=D.all i J Oa;unfold Its.each Yy at G;omega)),F.nl⟩
  refine zx4<|(zP)<|(zV (Zg (r:=i+1)))<|(zP)<|zln<|zlq ⟨i+1,rfl,Oa,Oa,?_,rfl,F.nl⟩
  ·
   intro k X ab;rcases Int.lt_or_eq_of_le (show k<=i by omega) with O|O;exact Y k X O;rw [O];unfold Its.each Yy;omega
  all_goals
   refine zOps ?_
   refine zlt<|zct<|zsr ?_
   refine zOps ?_
   refine zx2<|Oi ?_
   exact⟨false_B (by intro D;have W:=D.n;have V:=D.c0;have U:=D.c1;first|omega|(have G:=D.all i J Oa;unfold Its.each Yy at G;omega)),F.nl⟩
 refine zx8<|(zP)<|(zV (xln XT I.cf))<|(Om)<|zlb 48 ?_ ?_<;>intro hc
 ·
  refine zs4 ?_
  refine zlb 52 ?_ ?_<;>intro hc
  ·
   refine zs4 ?_
   refine zx1<|Oi ?_
   exact⟨Zn (by exact⟨fun hx=>⟨by omega,Oa,Oa,fun k k0 k1=>Y k k0 Oa⟩,fun D=>D.c1⟩),F⟩
  refine(zO)<|(zO)<|(Om)<|zx1<|Oi ?_
  exact⟨false_B (by intro D;have W:=D.n;have V:=D.c0;have U:=D.c1;first|omega|(have G:=D.all i J Oa;unfold Its.each Yy at G;omega)),F⟩
 refine(zO)<|(zO)<|(Om)<|(zO)<|zlo ?_
 refine(Om)<|zx1<|Oi ?_
 exact⟨false_B (by intro D;have W:=D.n;have V:=D.c0;have U:=D.c1;first|omega|(have G:=D.all i J Oa;unfold Its.each Yy at G;omega)),F⟩
end Go.Proofs.YtkichmnjjblodaaGreat
