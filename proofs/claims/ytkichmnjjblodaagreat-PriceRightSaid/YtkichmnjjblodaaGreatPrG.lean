import Derived.Test.YtkichmnjjblodaaGreatPrF
import Derived.ProofKit
import Derived.OpenShut
import Derived.ChangeOld
import Derived.SizedLaws
import Derived.Lib.SmallJoins
import Derived.Deep.Slices
set_option linter.unusedVariables false
set_option linter.unusedSimpArgs false
set_option maxRecDepth 20000
set_option maxHeartbeats 4000000
namespace Go.Proofs.YtkichmnjjblodaaGreat
open Go Go.RowKit Go.Proofs.Gw
variable {b:Int} {vD:Value}
theorem ZmY:Zc Tryz.prog 50=true:=by kernel_rfl
theorem ZmX:Zc Tryz.prog 51=true:=by kernel_rfl
theorem Zi1:Zc Tryz.prog 68=true:=by kernel_rfl
theorem Zj2:ZW Tryz.prog 137=some (.nilFunc,1,8):=by kernel_rfl
noncomputable def chkE(t:Tr)(p:Prob)(b:Int):Int:= @ite _ (ZG p b/\Yc t) (Classical.propDecidable _) (match wrT t p b with|none=>0|some _=>21) 1
noncomputable def Zb9(t:Tr)(p:Prob)(b:Int):List Int:= @ite _ (ZG p b/\Yc t) (Classical.propDecidable _) ((wrT t p b).getD []) []
theorem KQ{t:Tr}{p:Prob}(h:¬(ZG p b/\Yc t)):chkE t p b=1/\Zb9 t p b= []:=⟨if_neg h,if_neg h⟩
theorem Zc6{t:Tr}{p:Prob}(h1:ZG p b)(h2:Yc t)(h:wrT t p b≠none):chkE t p b=21/\Zb9 t p b=(wrT t p b).getD []:=by
  refine⟨?_,if_pos ⟨h1,h2⟩⟩
  obtain⟨l,hl⟩:=Option.ne_none_iff_exists'.1 h
  unfold chkE;rw [if_pos ⟨h1,h2⟩,hl]
theorem Xj{t:Tr}{p:Prob}(h1:ZG p b)(h2:Yc t)(h:wrT t p b=none):chkE t p b=0/\Zb9 t p b= []:=by
  refine⟨?_,?_⟩
  · unfold chkE;rw [if_pos ⟨h1,h2⟩,h]
  · unfold Zb9;rw [if_pos ⟨h1,h2⟩,h];rfl
theorem Zji{P:Program}{L:List (Nat×Value)}{w:World}{n:Nat}{fn:Func}{R:Ending->World->Prop}{T:TypeId}{s t:Nat}{a1:Addr}{v1 v2:Value}(t1:ZM P T=true)(c1:w.cell? a1=some v1)(h:R (.returned (.tuple #[v1,v2])) w)
    (hr:fn.results= #[.cell s T,.tmp t]:=by exact rfl) (h1:lk L s=some (.pointer (some a1)):=by exact rfl) (h2:lk L t=some v2:=by exact rfl):Ge n [] (bodyPost P fn R) .ret L w:=fun a hF=>by
  refine⟨hF.defers,_,?_,h⟩
  obtain⟨⟨_,_,q1⟩,_⟩:=WK (w:=w) t1
  have e1:=hF.get s _ h1
  have e2:=hF.get t _ h2
  rw [Array.getD_eq_getD_getElem?] at e1 e2
  simp [results,hr,e1,e2,asAddr,loadVar,q1,c1]
theorem ZlF{t:Tr}{vL:Value}{p:Prob}(w0:World)(h:PAt w0 vL vD p)(hb:ZG p b)(hK:KAt w0 t)(hV:LvAt w0 t):
    Calls Tryz.prog 50 [.agg #[vL,vD,.int .i64 p.stock,.int .i64 p.kerf,.int .i64 b],.agg #[.int .i64 t.s,t.vK,t.vL],.func (.func 13) #[] #[],.func (.func 16) #[] #[]].toArray w0 fun e w=>∃v,e= .returned v/\∃r q f,v= .tuple #[r,.int .i64 (chkE t p b)]/\Slh r q/\IsL q f (Zb9 t p b)/\Sat w0 w [.sem (Frame.dq 3 r q f)]:=by
  have hn:=hK.row.slh.n0;have hn1:=hK.row.slh.n1;have hln:=hV.leaf.row.slh.n0;have xU:=hV.leaf.row.slh.n1
  have hm:=h.L.slh.n0;have hm1:=h.L.slh.n1;have hd:=h.D.slh.n0;have hd1:=h.D.slh.n1;have hs:=h.is;have hk:=h.ik
  have hb1:=hb.2
  refine zenG Tryz.func50 Tryz.ntmps50 fun w hS=> ?_
  refine zsr<|zla (xbx (cs:= [_,_,_,_,_]) hS) ?_;rintro _ w ⟨g1,rfl,hS⟩
  refine zla (xbx (cs:= [_,_,_]) hS) ?_;rintro _ w ⟨g2,rfl,hS⟩
  refine zla (xbx (cs:= [_]) hS) ?_;rintro _ w ⟨g3,rfl,hS⟩
  refine zla (xbx (cs:= [_]) hS) ?_;rintro _ w ⟨g4,rfl,hS⟩
  refine zla (xal (cs:= [_]) Ya hS) ?_;rintro _ w ⟨g5,rfl,hS⟩
  refine(zP)<|zx5<|(zV (xls 1 st_54 hS))<|zlc (xc0 Zi1) (RQ (t:=t) w (KAt.below hS.below (hK)) (LvAt.below hS.below (hV))) ?_;rintro _ w ⟨rfl,hS'⟩
  replace hS:=hS.cmp hS';clear hS'
  refine(zP)<|zlt<|Zf ?_ ?_<;>intro hc
  ·
   refine zsr<|zle (xsb 4 pl_22 hS) ?_;clear hS;rintro w hS
   refine(zP)<|zx14<|Zji pl_22 (hS.cellN 4 rfl rfl) ⟨_,rfl,?_⟩
   obtain⟨h8,h9⟩:=KQ (t:=t) (p:=p) (b:=b) (fun hh=>‹¬Yc t› hh.2)
   exact⟨_,0,fun _=>0,by rw [h8],slh_nil,by rw [h9];exact IsL.nil,(hS.dqnil 3 (fun _=>0)).sub (.cons _ (.cons _ (.cons _ (.cons _ (.cons _ (.cons_cons _ .slnil))))))⟩
  refine ZT<|zla (xal (cs:= [_]) Zj2 hS) ?_;rintro _ w ⟨g6,rfl,hS⟩
  refine zlz<|(zV xmf)<|zle (xsb 5 ZbK hS) ?_;clear hS;rintro w hS
  refine zx5<|zlv (xlb 5 ZbK hS) ?_
  replace hS:=hS.dqnil 3 (fun _=>0)
  refine(zV (xls 0 Yw hS))<|(zV (xls 1 st_54 hS))<|zlc (xcc (vs:= [_,_]) ZiZ) (Znr t (F:=Frame.bun [.blk g1 [vL,vD,.int .i64 p.stock,.int .i64 p.kerf,.int .i64 b],.blk g2 [.int .i64 t.s,t.vK,t.vL]]) (pre:= []) (p:=p) (b:=b) w0 w (Sat.bundle (l1:= [_,_,_,_,_]) (hS.pk [3,2,4,5,6,0,1])) (fun w1 hb _=>h.below hb) hK hV slh_nil IsL.nil (by omega)) ?_;rintro _ w ⟨dt,yg,eR,rfl,xw,xg,hS⟩
  replace hS:=Sat.unbundle (l1:= [_,_,_,_,_]) (l3:= []) hS
  refine zlt<|Zf ?_ ?_<;>intro hc
  ·
   refine zsr<|(zV (xlb 2 pl_22 hS))<|zle (xsb 2 pl_22 hS (hv:=xw.one)) ?_;clear hS;rintro w hS
   refine(zP)<|zx14<|Zji pl_22 (hS.cellN 2 rfl rfl) ⟨_,rfl,?_⟩
   obtain⟨h8,h9⟩:=Zc6 hb (Classical.not_not.1 ‹¬¬Yc t›) ‹wrT t p b≠none›
   exact⟨_,_,_,by rw [h8],xw,by rw [h9];exact xg,hS.pk [4]⟩
  refine ZT<|zle (xsb 2 pl_22 hS) ?_;clear hS;rintro w hS
  refine(zP)<|zx1<|Zji pl_22 (hS.cellN 2 rfl rfl) ⟨_,rfl,?_⟩
  obtain⟨h8,h9⟩:=Xj hb (Classical.not_not.1 ‹¬¬Yc t›) (Classical.byContradiction ‹¬(wrT t p b≠none)›)
  exact⟨_,0,fun _=>0,by rw [h8],slh_nil,by rw [h9];exact IsL.nil,(hS.dqnil 3 (fun _=>0)).sub (.cons _ (.cons _ (.cons _ (.cons _ (.cons _ (.cons _ (.cons _ (.cons_cons _ .slnil))))))))⟩
theorem Znv{t:Tr}{vL:Value}{p:Prob}(w0:World)(h:PAt w0 vL vD p)(hK:KAt w0 t)(hV:LvAt w0 t):
    Calls Tryz.prog 21 [.agg #[vL,vD,.int .i64 p.stock,.int .i64 p.kerf,.int .i64 b],.agg #[.int .i64 t.s,t.vK,t.vL]].toArray w0 fun e w=>∃v,e= .returned v/\∃r q f,v= .tuple #[r,.int .i64 (chkE t p b)]/\Slh r q/\IsL q f (Zb9 t p b)/\Sat w0 w [.sem (Frame.dq 3 r q f)]:=by
  have hn:=hK.row.slh.n0;have hn1:=hK.row.slh.n1;have hln:=hV.leaf.row.slh.n0;have xU:=hV.leaf.row.slh.n1
  have hm:=h.L.slh.n0;have hm1:=h.L.slh.n1;have hd:=h.D.slh.n0;have hd1:=h.D.slh.n1;have hs:=h.is;have hk:=h.ik
  refine zenG Tryz.func21 Tryz.ntmps21 fun w hS=> ?_
  refine zsr<|zla (xbx (cs:= [_,_,_,_,_]) hS) ?_;rintro _ w ⟨g1,rfl,hS⟩
  refine zla (xbx (cs:= [_,_,_]) hS) ?_;rintro _ w ⟨g2,rfl,hS⟩
  refine(zP)<|(zP)<|zx5<|(zV (xls 0 Yw hS))<|zlc (xc0 Zc5) (KY (p:=p) (b:=b) w (h.below hS.below)) ?_;rintro _ w ⟨rfl,hS'⟩
  replace hS:=hS.cmp hS';clear hS'
  refine(zP)<|zlt<|Zf ?_ ?_<;>intro hc
  ·
   refine zsr<|(zP)<|(zP)<|zx14<|zf2 ⟨_,rfl,?_⟩
   obtain⟨h8,h9⟩:=KQ (t:=t) (p:=p) (b:=b) (fun hh=>‹¬ZG p b› hh.1)
   exact⟨_,0,fun _=>0,by rw [h8],slh_nil,by rw [h9];exact IsL.nil,(hS.dqnil 3 (fun _=>0)).sub (.cons _ (.cons _ (.cons_cons _ .slnil)))⟩
  refine ZT<|(zV (xls 0 Yw hS))<|(zV (xls 1 st_54 hS))<|zlc (xc0 ZmY) (ZlF (t:=t) (p:=p) (b:=b) w (h.below hS.below) (Classical.not_not.1 ‹¬¬ZG p b›) (KAt.below hS.below (hK)) (LvAt.below hS.below (hV))) ?_;rintro _ w ⟨rk1,k1,fk1,rfl,cI,cS,hS'⟩
  replace hS:=(hS.comp hS').n3;clear hS'
  refine zs4 ?_
  refine zx1<|zf2 ⟨_,rfl,?_⟩
  exact⟨_,_,_,rfl,cI,cS,hS.pk [2]⟩
theorem ZlB{t:Tr}{vL:Value}{p:Prob}(w0:World)(h:PAt w0 vL vD p)(hK:KAt w0 t)(hV:LvAt w0 t):
    Calls Tryz.prog 23 [.agg #[vL,vD,.int .i64 p.stock,.int .i64 p.kerf,.int .i64 b],.agg #[.int .i64 t.s,t.vK,t.vL]].toArray w0 fun e w=>∃v,e= .returned v/\∃r q f,v= .tuple #[r,.int .i64 (chkE t p b)]/\Slh r q/\IsL q f (Zb9 t p b)/\Sat w0 w [.own r 1 3 q (ints f)]:=by
  have hn:=hK.row.slh.n0;have hn1:=hK.row.slh.n1;have hln:=hV.leaf.row.slh.n0;have xU:=hV.leaf.row.slh.n1
  have hm:=h.L.slh.n0;have hm1:=h.L.slh.n1;have hd:=h.D.slh.n0;have hd1:=h.D.slh.n1;have hs:=h.is;have hk:=h.ik
  refine zenG Tryz.func23 Tryz.ntmps23 fun w hS=> ?_
  refine zsr<|zla (xbx (cs:= [_,_,_,_,_]) hS) ?_;rintro _ w ⟨g1,rfl,hS⟩
  refine zla (xbx (cs:= [_,_,_]) hS) ?_;rintro _ w ⟨g2,rfl,hS⟩
  refine(zP)<|(zP)<|zx5<|(zV (xls 0 Th hS))<|zlc (xc0 ZfA) (KV (p:=p) (b:=b) w (h.below hS.below)) ?_;rintro _ w ⟨rfl,hS'⟩
  replace hS:=hS.cmp hS';clear hS'
  refine(zP)<|(zP)<|zlb 11 ?_ ?_<;>intro hc
  ·
   iterate 3 refine zlo ?_
   refine(zP)<|zlt<|zct<|zsr ?_
   refine(zP)<|(zP)<|zx14<|zf2 ⟨_,rfl,?_⟩
   obtain⟨h8,h9⟩:=KQ (t:=t) (p:=p) (b:=b) (by rintro⟨q1,q2⟩;first|exact absurd q1 ‹¬ZG p b›|exact absurd q2 ‹¬Yc t›)
   exact⟨_,0,fun _=>0,by rw [h8],slh_nil,by rw [h9];exact IsL.nil,(hS.addnil 1 3 (ints fun _=>0)).sub (.cons _ (.cons _ (.cons_cons _ .slnil)))⟩
  refine(zV (xls 1 st_45 hS))<|zlc (xc0 ZmX) (Zcg (t:=t) w (KAt.below hS.below (hK)) (LvAt.below hS.below (hV))) ?_;rintro _ w ⟨rfl,hS'⟩
  replace hS:=hS.cmp hS';clear hS'
  refine(zP)<|(zP)<|zlt<|Zf ?_ ?_<;>intro hc
  ·
   refine zsr<|(zP)<|(zP)<|zx14<|zf2 ⟨_,rfl,?_⟩
   obtain⟨h8,h9⟩:=KQ (t:=t) (p:=p) (b:=b) (by rintro⟨q1,q2⟩;first|exact absurd q1 ‹¬ZG p b›|exact absurd q2 ‹¬Yc t›)
   exact⟨_,0,fun _=>0,by rw [h8],slh_nil,by rw [h9];exact IsL.nil,(hS.addnil 1 3 (ints fun _=>0)).sub (.cons _ (.cons _ (.cons_cons _ .slnil)))⟩
  refine ZT<|(zV (xls 0 Th hS))<|(zV (xls 1 st_45 hS))<|zlc (xc0 Zi5) (Zh0 t (p:=p) (b:=b) w (h.below hS.below) (KAt.below hS.below (hK)) (LvAt.below hS.below (hV))) ?_;rintro _ w ⟨rq1,q1,fq1,rfl,d7,z8,hS'⟩
  replace hS:=(hS.comp hS').n3;clear hS'
  have fQ:=Zml z8
  refine zs5 ?_
  refine zx5<|(zP)<|zlt<|Zf ?_ ?_<;>intro hc
  ·
   refine zsr<|(zP)<|(zP)<|(zP)<|zx14<|zf2 ⟨_,rfl,?_⟩
   obtain⟨h8,h9⟩:=Zc6 (Classical.not_not.1 ‹¬¬ZG p b›) (Classical.not_not.1 ‹¬¬Yc t›) ‹wrT t p b≠none›
   exact⟨_,_,_,by rw [h8],d7,by rw [h9];exact z8,hS.pk [2]⟩
  refine ZT<|(zP)<|(zP)<|zx1<|zf2 ⟨_,rfl,?_⟩
  obtain⟨h8,h9⟩:=Xj (Classical.not_not.1 ‹¬¬ZG p b›) (Classical.not_not.1 ‹¬¬Yc t›) (Classical.byContradiction ‹¬(wrT t p b≠none)›)
  exact⟨_,0,fun _=>0,by rw [h8],slh_nil,by rw [h9];exact IsL.nil,(hS.addnil 1 3 (ints fun _=>0)).sub (.cons _ (.cons _ (.cons _ (.cons_cons _ .slnil))))⟩
end Go.Proofs.YtkichmnjjblodaaGreat
namespace Go.Proofs.YtkichmnjjblodaaGreat
open Go Go.RowKit Go.Proofs.Gw
variable {cnt ln:Int->Int} {pt:Int->Int->Int} {pv:Int->Value} {vD vV:Value}
theorem ZfX{u:Int}{vL:Value}{p:Prob}(w0:World)(hV:VAt w0 vV u pv ln pt cnt)(h:PAt w0 vL vD p):
    Calls Tryz.prog 89 [.agg #[vL,vD,.int .i64 p.stock,.int .i64 p.kerf],vV].toArray w0 fun e w=>∃v,e= .returned v/\v=B (PlanOk p u ln pt cnt)/\Sat w0 w []:=by
  have hm:=h.L.slh.n0;have hm1:=h.L.slh.n1;have hd:=h.D.slh.n0;have hd1:=h.D.slh.n1;have hs:=h.is;have hk:=h.ik
  have hu:=hV.row.slh.n0;have hu1:=hV.row.slh.n1
  refine zenG Tryz.func89 Tryz.ntmps89 fun w hS=> ?_
  refine zsr<|zla (xbx (cs:= [_,_,_,_]) hS) ?_;rintro _ w ⟨g1,rfl,hS⟩
  refine(zP)<|zx5<|(zV (xls 0 Z5 hS))<|zlc (xc0 UN) (YE (p:=p) w (h.below hS.below)) ?_;rintro _ w ⟨rfl,hS'⟩
  replace hS:=hS.cmp hS';clear hS'
  refine(zP)<|(zP)<|zlb 9 ?_ ?_<;>intro hc
  ·
   iterate 3 refine zlo ?_
   refine(zP)<|zlt<|zct<|zsr ?_
   refine(zP)<|zx14<|zf1 ⟨_,rfl,?_⟩
   refine⟨Ze (fun hh=> ?_),hS.nl⟩
   first
   |exact absurd hh.1 ‹¬p.Ok›
   |(have:=hh.2.1;omega)
   |(have h9:=hh.2.2 i h0 (by omega);first|exact absurd h9.2.2 ‹_›|omega)
  refine(zP)<|(zV (xln Xq hV.row.slh))<|(zP)<|(zP)<|zlt<|Zf ?_ ?_<;>intro hc
  ·
   refine zsr<|(zP)<|zx14<|zf1 ⟨_,rfl,?_⟩
   refine⟨Ze (fun hh=> ?_),hS.nl⟩
   first
   |exact absurd hh.1 ‹¬p.Ok›
   |(have:=hh.2.1;omega)
   |(have h9:=hh.2.2 i h0 (by omega);first|exact absurd h9.2.2 ‹_›|omega)
  refine YL<|(zP)<|zx6 ?_
  have xz:p.Ok:=by first|assumption|exact Classical.not_not.1 ‹_›
  refine zlp (fun mm M w=>∃(i:Int),mm=((u-i).toNat)/\(0<=i)/\(i<=u)/\(∀k,0<=k->k<i->1<=cnt k/\cnt k<=1000/\FitsP p (ln k) (pt k))/\M= [(1,vV),(2,.pointer (some ⟨g1,0,none⟩)),(5,.int .i64 i)]/\Sat w0 w [.blk g1 [vL,vD,.int .i64 p.stock,.int .i64 p.kerf]]) ⟨0,rfl,(by omega),(by omega),?_,rfl,hS⟩ ?_
  ·
   intro k h0 h1;omega
  clear hS w
  rintro mm M w ⟨i,rfl,h0,h1,qa,rfl,hS⟩
  refine zx11<|(zP)<|(zP)<|(zV (xln Xq hV.row.slh))<|(zP)<|zlt<|Zf ?_ ?_<;>intro hc
  ·
   refine zsk<|ztn<|zsq<|zbk<|zsq<|zdst [0] [0] 1000 mx_ hS ?_;clear hS;intro w hS
   refine(zDl 0 (fun w hS=>(xls 0 Z5 hS)))<|(zDw 1 xmv)<|(zDw 2 xmv)<|(zDw 3 (xix (kk:=2*i) Xq hV.row.slh))<|(zDw 4 (xfc (kk:=2*i) TE hV.row.slh))<|(zDl 5 (fun w hS=>(xlr (u:=(pv i)) pl_22 (hV.row.below hS.below) (e:=(UT pv cnt (by omega))))))<|zdc 6 (xc0 ZiW) (Zgz (p:=p) w (h.below hS.below) ((hV.p i (by omega) (by omega)).below hS.below)) ?_;rintro _ w ⟨rfl,hS'⟩
   replace hS:=hS.cmp hS';clear hS'
   refine⟨⟨fun _=>hS,hS⟩,?_⟩
   refine(zDw 7 Yy)<|(zDw 8 xmv)<|zdb 28 ?_ ?_<;>intro hc
   ·
    refine(zDo 9)<|(zDo 10)<|(zDo 11)<|(zDo 12)<|(zDo 13)<|(zDo 14)<|(zDw 15 xpt)<|(zDw 16 xmv)<|(zDo 17)<|(zDo 18)<|(zDo 19)<|(zDo 20)<|(zDo 21)<|(zDo 22)<|zDrv 23 xpt ?_
    refine zdd<|ztn<|zct<|zsr ?_
    refine(zP)<|zx2<|zf1 ⟨_,rfl,?_⟩
    refine⟨Ze (fun hh=> ?_),hS.nl⟩
    first
    |exact absurd hh.1 ‹¬p.Ok›
    |(have:=hh.2.1;omega)
    |(have h9:=hh.2.2 i h0 (by omega);first|exact absurd h9.2.2 ‹_›|omega)
   refine(zDw 9 xmv)<|(zDw 10 xmv)<|(zDw 11 (xix (kk:=2*i) Xq hV.row.slh))<|(zDw 12 (xfc (kk:=2*i+1) WN hV.row.slh))<|(zDl 13 (fun w hS=>(xlr (u:= .int .i64 (cnt i)) pl_3 (hV.row.below hS.below) (e:=(Wm pv cnt (by omega))))))<|(zDw 14 Z0)<|(zDw 15 xpf)<|(zDw 16 xmv)<|zdb 36 ?_ ?_<;>intro hc
   ·
    refine(zDo 17)<|(zDo 18)<|(zDo 19)<|(zDo 20)<|(zDo 21)<|(zDo 22)<|(zDw 23 xpt)<|zdd<|ztn<|zct<|zsr ?_
    refine(zP)<|zx2<|zf1 ⟨_,rfl,?_⟩
    refine⟨Ze (fun hh=> ?_),hS.nl⟩
    first
    |exact absurd hh.1 ‹¬p.Ok›
    |(have:=hh.2.1;omega)
    |(have h9:=hh.2.2 i h0 (by omega);first|exact absurd h9.2.2 ‹_›|omega)
   refine(zDw 17 xmv)<|(zDw 18 xmv)<|(zDw 19 (xix (kk:=2*i) Xq hV.row.slh))<|(zDw 20 (xfc (kk:=2*i+1) WN hV.row.slh))<|(zDl 21 (fun w hS=>(xlr (u:= .int .i64 (cnt i)) pl_3 (hV.row.below hS.below) (e:=(Wm pv cnt (by omega))))))<|(zDw 22 Yr)<|(zDw 23 xpf)<|zdd<|ztn ?_
   refine Zf ?_ ?_<;>intro hc
   ·
    refine zsr<|(zP)<|zx2<|zf1 ⟨_,rfl,?_⟩
    refine⟨Ze (fun hh=> ?_),hS.nl⟩
    first
    |exact absurd hh.1 ‹¬p.Ok›
    |(have:=hh.2.1;omega)
    |(have h9:=hh.2.2 i h0 (by omega);first|exact absurd h9.2.2 ‹_›|omega)
   refine zx4<|(zP)<|(zV (Zh (r:=i+1)))<|(zP)<|zln<|zlq ⟨i+1,rfl,(by omega),(by omega),?_,rfl,hS⟩
   ·
    intro k h0' h1';rcases Int.lt_or_eq_of_le (show k<=i by omega) with hk|hk;exact qa k h0' hk;rw [hk];exact⟨by omega,by omega,by first|assumption|exact Classical.not_not.1 ‹_›⟩
  refine zx8<|(zP)<|zx1<|zf1 ⟨_,rfl,?_⟩
  exact⟨Z7 ⟨xz,by omega,fun k k0 k1=>qa k k0 (by omega)⟩,hS.nl⟩
theorem Zh2{u:Int}{vL:Value}{p:Prob}(w0:World)(hV:VAt w0 vV u pv ln pt cnt)(h:PAt w0 vL vD p):
    Calls Tryz.prog 58 [.agg #[vL,vD,.int .i64 p.stock,.int .i64 p.kerf],vV].toArray w0 fun e w=>∃v,e= .returned v/\∃r n f e,v= .tuple #[r,.int .i64 e]/\((¬PlanOk p u ln pt cnt/\n=0/\e=1)\/(PlanOk p u ln pt cnt/\n=p.m/\f=Zp u pt cnt/\e=0))/\Slh r n/\Sat w0 w [.own r 1 3 n (ints f)]:=by
  have hm:=h.L.slh.n0;have hm1:=h.L.slh.n1;have hd:=h.D.slh.n0;have hd1:=h.D.slh.n1;have hs:=h.is;have hk:=h.ik
  have hu:=hV.row.slh.n0;have hu1:=hV.row.slh.n1
  refine zenG Tryz.func58 Tryz.ntmps58 fun w hS=> ?_
  refine zsr<|zla (xbx (cs:= [_,_,_,_]) hS) ?_;rintro _ w ⟨g1,rfl,hS⟩
  refine(zP)<|(zP)<|zx5<|(zV (xls 0 Z5 hS))<|(zP)<|zlc (xc0 ZmM) (ZfX (u:=u) (pv:=pv) (ln:=ln) (pt:=pt) (cnt:=cnt) (p:=p) w (hV.below hS.below) (h.below hS.below)) ?_;rintro _ w ⟨rfl,hS'⟩
  replace hS:=hS.cmp hS';clear hS'
  refine(zP)<|zlt<|Zf ?_ ?_<;>intro hc
  ·
   refine zsr<|(zP)<|(zP)<|zx14<|zf2 ⟨_,rfl,?_⟩
   exact⟨_,0,fun _=>0,1,rfl,.inl ⟨‹¬PlanOk p u ln pt cnt›,rfl,rfl⟩,slh_nil,(hS.sub (.cons _ .slnil)).addnil 1 3 (ints fun _=>0)⟩
  refine ZT<|zlv (xfb 0 fd_24_0) ?_
  have qx:PlanOk p u ln pt cnt:=by first|assumption|exact Classical.not_not.1 ‹_›
  have zY:=qx.1.m1;have qI:=qx.1.m2;have hu3:=qx.2.1
  refine(zV (xlb 0 pl_22 hS))<|(zV (xln Zb h.L.slh))<|zla (xmk Zb Zt hS) ?_;rintro v1 w ⟨hS,hv1⟩
  refine(zP)<|zx5<|(zP)<|zx6<|zlp (fun mm M w=>∃(f:Int->Int) (i:Int),mm=((u-i).toNat)/\(0<=i)/\(i<=u)/\(∀k,0<=k->k<p.m->f k=Zp i pt cnt k)/\M= [(1,vV),(4,.slice none 0 0),(5,.int .i64 0),(6,v1),(7,.int .i64 i)]/\Sat w0 w [.blk g1 [vL,vD,.int .i64 p.stock,.int .i64 p.kerf],.own v1 1 3 p.m (ints f)]) ⟨(fun _=>0),0,rfl,(by omega),(by omega),?_,rfl,hS⟩ ?_
  ·
   intro k _ _;rfl
  clear hS w
  rintro mm M w ⟨f,i,rfl,h0,h1,hf,rfl,hS⟩
  refine zx11<|(zP)<|(zP)<|(zV (xln Xq hV.row.slh))<|(zP)<|zlt<|Zf ?_ ?_<;>intro hc
  ·
   refine zx3<|(zP)<|zx6<|zlp (fun mm M w=>∃(f2:Int->Int) (j:Int),mm=((p.m-j).toNat)/\(0<=j)/\(j<=p.m)/\(∀k,0<=k->k<p.m->f2 k=(if k<j then Zp (i+1) pt cnt k else Zp i pt cnt k))/\M= [(1,vV),(4,.slice none 0 0),(5,.int .i64 0),(6,v1),(7,.int .i64 i),(8,.int .i64 j)]/\Sat w0 w [.blk g1 [vL,vD,.int .i64 p.stock,.int .i64 p.kerf],.own v1 1 3 p.m (ints f2)]) ⟨f,0,rfl,(by omega),(by omega),?_,rfl,hS⟩ ?_
   ·
    intro k k0 k1;rw [if_neg (by omega)];exact hf k k0 k1
   clear hS w
   rintro mm M w ⟨f2,j,rfl,j0,j1,hf2,rfl,hS⟩
   refine zx11<|(zP)<|(zP)<|(zV (xln Zb hv1))<|(zP)<|zlt<|Zf ?_ ?_<;>intro hc
   ·
    refine zx29<|zdst [0,1] [0] 20 mx_ hS ?_;clear hS;intro w hS
    refine(zDw 0 xmv)<|(zDw 1 xmv)<|(zDw 2 (xix (kk:=j) Zb hv1))<|zdl 3 (fun w hS=>(xlr (u:= .int .i64 (f2 j)) pl_3 (hS.rowN 1 rfl))) ?_
    obtain⟨hq1,hq2,hq3⟩:=qx.2.2 i h0 (by omega)
    have hq4:=hq3.eq
    have hpj:=hq3.all j j0 (by omega)
    have hmr:=Xx qx.2.2 h0 (by omega) (j:=j) j0 (by omega)
    have hfj:=hf2 j j0 (by omega)
    rw [if_neg (by omega)] at hfj
    have hmj:=We hpj.1 hpj.2 (show 0<=cnt i by omega) hq2
    refine(zDw 4 xmv)<|(zDw 5 xmv)<|(zDw 6 (xix (kk:=2*i) Xq hV.row.slh))<|(zDw 7 (xfc (kk:=2*i) TE hV.row.slh))<|(zDl 8 (fun w hS=>(xlr (u:=(pv i)) pl_22 (hV.row.below hS.below) (e:=(UT pv cnt (by omega))))))<|(zDw 9 xmv)<|(zDw 10 (xix (kk:=j) Zb (hV.p i (by omega) (by omega)).slh))<|(zDl 11 (fun w hS=>(xlr (u:= .int .i64 ((pt i) j)) pl_3 ((hV.p i (by omega) (by omega)).below hS.below))))<|(zDw 12 xmv)<|(zDw 13 xmv)<|(zDw 14 (xix (kk:=2*i) Xq hV.row.slh))<|(zDw 15 (xfc (kk:=2*i+1) WN hV.row.slh))<|(zDl 16 (fun w hS=>(xlr (u:= .int .i64 (cnt i)) pl_3 (hV.row.below hS.below) (e:=(Wm pv cnt (by omega))))))<|(zDw 17 (Z2 (r:=(((pt i) j)*(cnt i))) (e:=rfl)))<|zdv 18 (fun _=>(Zh (r:=f2 j+(((pt i) j)*(cnt i))))) ?_
    refine(zDw 19 (xix (kk:=j) Zb hv1))<|zde 20 (xso 1 pl_3 hS (Zx _ _ _)) ?_;clear hS;rintro w hS
    refine⟨⟨fun h=>absurd h (by decide),hS.pk [0]⟩,?_⟩
    refine zdd<|zbn<|ztn<|zrg ?_
    refine(zP)<|(zV (Zh (r:=j+1)))<|(zP)<|zln<|zlq ⟨(upd f2 j (f2 j+(((pt i) j)*(cnt i)))),j+1,rfl,(by omega),(by omega),?_,rfl,hS⟩
    ·
     intro k k0 k1;unfold upd;by_cases e:k=j
     · rw [if_pos e,if_pos (by omega),e,Xh h0];omega
     · rw [if_neg e,hf2 k k0 k1];by_cases e2:k<j
       · rw [if_pos e2,if_pos (by omega)]
       · rw [if_neg e2,if_neg (by omega)]
   refine zx21<|(zP)<|(zV (Zh (r:=i+1)))<|(zP)<|zln<|zlq ⟨f2,i+1,rfl,(by omega),(by omega),?_,rfl,hS⟩
   ·
    intro k k0 k1;rw [hf2 k k0 k1,if_pos (by omega)]
  refine zx8<|(zP)<|(zP)<|(zP)<|zx1<|zf2 ⟨_,rfl,?_⟩
  have hiu:i=u:=by omega
  rw [hiu] at hf
  replace hS:=hS.recont 1 rfl (d:=ints (Zp u pt cnt)) (fun k k0 k1=>congrArg (Value.int .i64) (hf k k0 (by omega)))
  exact⟨_,_,_,0,rfl,.inr ⟨qx,rfl,rfl,rfl⟩,hv1,hS.pk [1]⟩
theorem Zbj{u:Int}{vL:Value}{p:Prob}(w0:World)(hV:VAt w0 vV u pv ln pt cnt)(h:PAt w0 vL vD p):
    Calls Tryz.prog 33 [.agg #[vL,vD,.int .i64 p.stock,.int .i64 p.kerf],vV].toArray w0 fun e w=>∃v,e= .returned v/\v=B (PlanOk p u ln pt cnt/\∀j,0<=j->j<p.m->p.D j<=Zp u pt cnt j)/\Sat w0 w []:=by
  have hm:=h.L.slh.n0;have hm1:=h.L.slh.n1;have hd:=h.D.slh.n0;have hd1:=h.D.slh.n1;have hs:=h.is;have hk:=h.ik
  refine zenG Tryz.func33 Tryz.ntmps33 fun w hS=> ?_
  refine zsr<|zla (xbx (cs:= [_,_,_,_]) hS) ?_;rintro _ w ⟨g1,rfl,hS⟩
  refine(zP)<|zlz<|(zV (xls 0 Z5 hS))<|(zP)<|zlc (xc0 ZmW) (Zh2 (u:=u) (pv:=pv) (ln:=ln) (pt:=pt) (cnt:=cnt) (p:=p) w (hV.below hS.below) (h.below hS.below)) ?_;rintro _ w ⟨qw,qg,qc,yE,rfl,qz,qo,hS'⟩
  replace hS:=(hS.comp hS').n2;clear hS'
  refine zs5 ?_
  refine zx5<|(zP)<|(zP)<|zlt<|Zf ?_ ?_<;>intro hc
  ·
   refine zsr<|(zP)<|zx14<|zf1 ⟨_,rfl,?_⟩
   refine⟨Ze ?_,hS.nl⟩
   first
   |(intro hh;have h9:=hh.2 i h0 (by omega);rw [<-hA3] at h9;omega)
   |(rcases qz with⟨q1,_⟩|⟨_,_,_,q4⟩;exact fun hh=>q1 hh.1;omega)
  refine YL<|(zP)<|zx6 ?_
  obtain⟨hA1,hA2,hA3⟩:PlanOk p u ln pt cnt/\qg=p.m/\qc=Zp u pt cnt:=by rcases qz with⟨_,_,q3⟩|⟨q1,q2,q3,_⟩;omega;exact⟨q1,q2,q3⟩
  have hpd:=hA1.1.d
  refine zlp (fun mm M w=>∃(i:Int),mm=((qg-i).toNat)/\(0<=i)/\(i<=qg)/\(∀k,0<=k->k<i->p.D k<=qc k)/\M= [(2,.pointer (some ⟨g1,0,none⟩)),(5,qw),(7,.int .i64 i)]/\Sat w0 w [.blk g1 [vL,vD,.int .i64 p.stock,.int .i64 p.kerf],.own qw 1 3 qg (ints qc)]) ⟨0,rfl,(by omega),(by omega),?_,rfl,hS⟩ ?_
  ·
   intro k h0 h1;omega
  clear hS w
  rintro mm M w ⟨i,rfl,h0,h1,qa,rfl,hS⟩
  refine zx11<|(zP)<|(zP)<|(zV (xln Zb qo))<|(zP)<|zlt<|Zf ?_ ?_<;>intro hc
  ·
   refine zsk<|ztn<|zsq<|zbk<|zsq<|zdst [0,1] [0,1] 1000 mx_ hS ?_;clear hS;intro w hS
   refine(zDw 0 xmv)<|(zDw 1 xmv)<|(zDw 2 (xix (kk:=i) Zb qo))<|(zDl 3 (fun w hS=>(xlr (u:= .int .i64 (qc i)) pl_3 (hS.rowN 1 rfl))))<|(zDw 4 (xfb 1 fd_24_1))<|(zDl 5 (fun w hS=>(xlb 0 pl_22 hS)))<|(zDw 6 xmv)<|(zDw 7 (xix (kk:=i) Zb h.D.slh))<|zdla 8 (fun w hS=>(xlr (u:= .int .i64 (p.D i)) pl_3 (h.D.below hS.below))) ?_
   have hbv:=h.iD i
   refine(zDw 9 Z0)<|zdd<|ztn ?_
   refine Zf ?_ ?_<;>intro hc
   ·
    refine zsr<|(zP)<|zx2<|zf1 ⟨_,rfl,?_⟩
    refine⟨Ze ?_,hS.nl⟩
    first
    |(intro hh;have h9:=hh.2 i h0 (by omega);rw [<-hA3] at h9;omega)
    |(rcases qz with⟨q1,_⟩|⟨_,_,_,q4⟩;exact fun hh=>q1 hh.1;omega)
   refine zx4<|(zP)<|(zV (Zh (r:=i+1)))<|(zP)<|zln<|zlq ⟨i+1,rfl,(by omega),(by omega),?_,rfl,hS⟩
   ·
    intro k h0' h1';rcases Int.lt_or_eq_of_le (show k<=i by omega) with hk|hk;exact qa k h0' hk;rw [hk];omega
  refine zx8<|(zP)<|zx1<|zf1 ⟨_,rfl,?_⟩
  refine⟨Z7 ⟨hA1,fun j j0 j1=> ?_⟩,hS.nl⟩
  have:=qa j j0 (by omega);rw [hA3] at this;exact this
theorem Zc9{u:Int}(w0:World)(hV:VAt w0 vV u pv ln pt cnt)(hu6:u<=1000000)(hbc:∀k,0<=k->k<u->0<=cnt k/\cnt k<=1000000000):
    Calls Tryz.prog 34 [vV].toArray w0 fun e w=>∃v,e= .returned v/\v= .int .i64 (psum (fun _=>1) cnt u.toNat)/\Sat w0 w []:=by
  have hn:=hV.row.slh.n0;have hn1:=hV.row.slh.n1
  refine zenG Tryz.func34 Tryz.ntmps34 fun w hS=> ?_
  refine zsr<|(zP)<|zlz<|(zP)<|zx5<|(zP)<|zx6<|zlp (fun mm M w=>∃(s:Int) (i:Int),mm=((u-i).toNat)/\(0<=i)/\(i<=u)/\(s=psum (fun _=>1) cnt i.toNat)/\(0<=s/\s<=1000000000*i)/\M= [(0,vV),(2,.int .i64 0),(3,.int .i64 s),(4,.int .i64 i)]/\Sat w0 w []) ⟨0,0,rfl,(by omega),(by omega),?_,(by omega),rfl,hS⟩ ?_
  ·
   rfl
  clear hS w
  rintro mm M w ⟨s,i,rfl,h0,h1,hs9,hsb,rfl,hS⟩
  refine zx11<|(zP)<|(zP)<|(zV (xln Xq hV.row.slh))<|(zP)<|zlt<|Zf ?_ ?_<;>intro hc
  ·
   refine zsk<|ztn<|zsq<|zbk<|zrg<|(zP)<|(zP)<|(zP)<|(zV (xix (kk:=2*i) Xq hV.row.slh))<|(zV (xfc (kk:=2*i+1) WN hV.row.slh))<|zlv (xlr (u:= .int .i64 (cnt i)) pl_3 (hV.row.below hS.below) (e:=(Wm pv cnt (by omega)))) ?_
   have hci:=hbc i h0 (by omega)
   refine(zV (Zh (r:=s+(cnt i))))<|(zP)<|zx10<|(zP)<|(zV (Zh (r:=i+1)))<|(zP)<|zln<|zlq ⟨s+(cnt i),i+1,rfl,(by omega),(by omega),?_,(by omega),rfl,hS⟩
   ·
    rw [YG _ _ h0,<-hs9];omega
  refine zx8<|(zP)<|(zP)<|zx1<|zf1 ⟨_,rfl,?_⟩
  obtain rfl:i=u:=by omega
  exact⟨congrArg (Value.int .i64) hs9,hS⟩
end Go.Proofs.YtkichmnjjblodaaGreat
namespace Go.Proofs.YtkichmnjjblodaaGreat
open Go Go.RowKit Go.Proofs.Gw
variable {cnt ln:Int->Int} {pt:Int->Int->Int}
theorem Zna:Zc Tryz.prog 21=true:=by kernel_rfl
theorem Zm9:Zc Tryz.prog 23=true:=by kernel_rfl
theorem Zja:Zc Tryz.prog 33=true:=by kernel_rfl
theorem Zi9:Zc Tryz.prog 34=true:=by kernel_rfl
theorem Zm3:Zc Tryz.prog 39=true:=by kernel_rfl
theorem ZmR:Zc Tryz.prog 70=true:=by kernel_rfl
theorem Kz:Zr Tryz.prog 58 0=some 0:=by kernel_rfl
theorem ZcR:Zr Tryz.prog 58 1=some 1:=by kernel_rfl
theorem fd_58_2:Zr Tryz.prog 58 2=some 2:=by kernel_rfl
theorem fd_63_0:Zr Tryz.prog 63 0=some 0:=by kernel_rfl
theorem VZ:Zr Tryz.prog 63 1=some 1:=by kernel_rfl
theorem Ky:Zr Tryz.prog 63 2=some 2:=by kernel_rfl
theorem ZiP:ZM Tryz.prog 46=true:=by kernel_rfl
theorem Znt{v:Value}{n:Int}{f:Int->Int}(w0:World)(hR:Row w0 v 1 n (ints f)):
    Calls Tryz.prog 69 [v,.slice none 0 0].toArray w0 fun e w=>∃v,e= .returned v/\v=B (n=0)/\Sat w0 w []:=by
  have hn:=hR.slh.n0
  refine zenG Tryz.func69 Tryz.ntmps69 fun w hS=> ?_
  refine zsr<|(zP)<|zx5<|(zP)<|(zV (xln Zb hR.slh))<|(zP)<|(zV (xln Zb slh_nil))<|(zP)<|zlt<|Zf ?_ ?_<;>intro hc
  ·
   refine zsr<|(zP)<|zx14<|zf1 ⟨_,rfl,?_⟩
   exact⟨Ze (by omega),hS⟩
  refine YL<|(zP)<|(zV (xln Zb hR.slh))<|(zP)<|zx6<|zlp (fun mm M w=>∃(i:Int),mm=((n-i).toNat)/\(0<=i)/\(i<=n)/\M= [(0,v),(1,.slice none 0 0),(12,.int .i64 n),(13,.int .i64 i)]/\Sat w0 w []) ⟨0,rfl,(by omega),(by omega),rfl,hS⟩ ?_
  clear hS w
  rintro mm M w ⟨i,rfl,h0,h1,rfl,hS⟩
  refine zsr<|(zV (xkf Z0))<|zx7<|zcf<|zxt<|ztx<|ztx<|zbh<|ztn<|zsr ?_
  refine(zP)<|zx1<|zf1 ⟨_,rfl,?_⟩
  exact⟨Z7 (by omega),hS⟩
theorem ZlY{t:Tr}(w0:World)(hK:KAt w0 t)(hV:LvAt w0 t):
    Calls Tryz.prog 70 [t.vK,.slice none 0 0,.func (.func 39) #[] #[]].toArray w0 fun e w=>∃v,e= .returned v/\v=B (t.n=0)/\Sat w0 w []:=by
  have hn:=hK.row.slh.n0;have hn1:=hK.row.slh.n1;have hln:=hV.leaf.row.slh.n0;have xU:=hV.leaf.row.slh.n1
  refine zenG Tryz.func70 Tryz.ntmps70 fun w hS=> ?_
  refine zsr<|(zP)<|zx5<|(zP)<|(zV (xln YM (hK).row.slh))<|(zP)<|(zV (xln YM slh_nil))<|(zP)<|zlt<|Zf ?_ ?_<;>intro hc
  ·
   refine zsr<|(zP)<|zx14<|zf1 ⟨_,rfl,?_⟩
   exact⟨Ze (by omega),hS⟩
  refine YL<|(zP)<|(zV (xln YM (hK).row.slh))<|(zP)<|zx6<|zlp (fun mm M w=>∃(i:Int),mm=((t.n-i).toNat)/\(0<=i)/\(i<=t.n)/\M= [(1,.slice none 0 0),(2,.func (.func 39) #[] #[]),(15,t.vK),(16,.int .i64 t.n),(17,.int .i64 i)]/\Sat w0 w []) ⟨0,rfl,(by omega),(by omega),rfl,hS⟩ ?_
  clear hS w
  rintro mm M w ⟨i,rfl,h0,h1,rfl,hS⟩
  refine zsr<|(zV (xkf Z0))<|zx7<|zcf<|zxt<|ztx<|ztx<|zbh<|ztn<|zsr ?_
  refine(zP)<|zx1<|zf1 ⟨_,rfl,?_⟩
  exact⟨Z7 (by omega),hS⟩
def Ub(t:Tr):Prop:=t.s=0/\t.nl=0/\t.n=0
noncomputable def Vy(p:Prob)(nb u:Int)(ln:Int->Int)(pt:Int->Int->Int)(cnt:Int->Int)(t:Tr):Prop:=(PlanOk p u ln pt cnt/\∀j,0<=j->j<p.m->p.D j<=Zp u pt cnt j)/\psum (fun _=>1) cnt u.toNat=nb/\((nb=0/\Ub t)\/(nb≠0/\chkE t p (nb-1)=0))
theorem ZeD{t u:Tr}(h:Sim t u)(p:Prob)(b:Int):Go.Proofs.YtkichmnjjblodaaGreat.chkE u p b=Go.Proofs.YtkichmnjjblodaaGreat.chkE t p b:=by
  unfold Go.Proofs.YtkichmnjjblodaaGreat.chkE;rw [Sim.wr t h];congr 1;rw [h.valid]
theorem ZeC{t u:Tr}(h:Sim t u):Ub u↔Ub t:=by obtain⟨h1,h2,_,h4,_⟩:=h.of;unfold Ub;rw [h1,h2,h4]
theorem ZdA{t u:Tr}(h:Sim t u){p:Prob}{nb n:Int}:Vy p nb n ln pt cnt u↔Vy p nb n ln pt cnt t:=by unfold Vy;rw [ZeC h,ZeD h]
theorem Zf6{t:Tr}(w0:World)(hK:KAt w0 t)(hV:LvAt w0 t):
    Calls Tryz.prog 39 [.agg #[.int .i64 t.s,t.vK,t.vL],.agg #[.int .i64 0,.slice none 0 0,.slice none 0 0]].toArray w0 fun e w=>∃v,e= .returned v/\v=B (Ub t)/\Sat w0 w []:=by
  have hn:=hK.row.slh.n0;have hn1:=hK.row.slh.n1;have hln:=hV.leaf.row.slh.n0;have xU:=hV.leaf.row.slh.n1
  refine zenG Tryz.func39 Tryz.ntmps39 fun w hS=> ?_
  refine zsr<|zla (xbx (cs:= [_,_,_]) hS) ?_;rintro _ w ⟨g1,rfl,hS⟩
  refine zla (xbx (cs:= [_,_,_]) hS) ?_;rintro _ w ⟨g2,rfl,hS⟩
  refine(zP)<|zlz<|(zV (xfb 0 fd_54_0))<|(zV (xlb 0 pl_3 hS))<|(zV (xfb 0 fd_54_0))<|(zV (xlb 1 pl_3 hS))<|(zP)<|(zP)<|zlb 10 ?_ ?_<;>intro hc
  ·
   refine(zV (xfb 2 fd_54_2))<|(zV (xlb 0 pl_22 hS))<|(zV (xfb 2 fd_54_2))<|(zV (xlb 1 pl_22 hS))<|zlc (xc0 Zi0) (Znt (n:=t.nl) (f:=t.l) w ((hV).leaf.row.below hS.below)) ?_;rintro _ w ⟨rfl,hS'⟩
   replace hS:=hS.cmp hS';clear hS'
   refine(zP)<|(zP)<|zlb 17 ?_ ?_<;>intro hc
   ·
    refine(zV (xfb 1 fd_54_1))<|(zV (xlb 0 XF hS))<|(zV (xfb 1 fd_54_1))<|(zV (xlb 1 XF hS))<|zlc (xc0 ZmR) (ZlY (t:=t) w (KAt.below hS.below (hK)) (LvAt.below hS.below (hV))) ?_;rintro _ w ⟨rfl,hS'⟩
    replace hS:=hS.cmp hS';clear hS'
    refine(zP)<|(zP)<|zx1<|zf1 ⟨_,rfl,?_⟩
    exact⟨Zk ⟨fun hh=>⟨by omega,by first|assumption|omega,hh⟩,fun hh=>hh.2.2⟩,hS.nl⟩
   iterate 5 refine zlo ?_
   refine(zP)<|(zP)<|zx1<|zf1 ⟨_,rfl,?_⟩
   exact⟨Ze (by rintro⟨h1,h2,h3⟩;first|omega|contradiction),hS.nl⟩
  iterate 5 refine zlo ?_
  refine zs2 ?_
  iterate 5 refine zlo ?_
  refine(zP)<|(zP)<|zx1<|zf1 ⟨_,rfl,?_⟩
  exact⟨Ze (by rintro⟨h1,h2,h3⟩;first|omega|contradiction),hS.nl⟩
theorem Ui{p:Prob}{u:Int}(h:PlanOk p u ln pt cnt):0<=psum (fun _=>1) cnt u.toNat/\psum (fun _=>1) cnt u.toNat<=1000000:=by
  have h1:∀n:Nat,(n:Int)<=u->0<=psum (fun _=>1) cnt n/\psum (fun _=>1) cnt n<=1000*n:=fun n=>by
    induction n with
    |zero=>intro _;simp [psum]
    | succ n ih=>
      intro hn
      have h2:=ih (by omega)
      have h3:=h.2.2 n (by omega) (by omega)
      simp only [psum];omega
  have h4:=h.2.1
  by_cases hu:0<=u
  · have h5:=h1 u.toNat (by omega);omega
  · rw [show u.toNat=0 by omega];simp [psum]
theorem Zie{vV:Value}{u:Int}{pv:Int->Value}{vL vD:Value}{p:Prob}{nb:Int}{t:Tr}(w0:World)(hV:VAt w0 vV u pv ln pt cnt)(h:PAt w0 vL vD p)(hK:KAt w0 t)(hT:LvAt w0 t)(hu5:u<=1000):
    Calls Tryz.prog 26 [.agg #[vL,vD,.int .i64 p.stock,.int .i64 p.kerf],.agg #[.int .i64 nb,vV,.int .i64 t.s,t.vK,t.vL]].toArray w0 fun e w=>∃v,e= .returned v/\v=B (Vy p nb u ln pt cnt t)/\Sat w0 w []:=by
  have hm:=h.L.slh.n0;have hm1:=h.L.slh.n1;have hd:=h.D.slh.n0;have hd1:=h.D.slh.n1;have hs:=h.is;have hk:=h.ik
  have hn:=hK.row.slh.n0;have hn1:=hK.row.slh.n1;have hln:=hT.leaf.row.slh.n0;have xU:=hT.leaf.row.slh.n1
  have hu:=hV.row.slh.n0;have hu1:=hV.row.slh.n1
  refine zenG Tryz.func26 Tryz.ntmps26 fun w hS=> ?_
  refine zsr<|zla (xbx (cs:= [_,_,_,_]) hS) ?_;rintro _ w ⟨g1,rfl,hS⟩
  refine zla (xbx (cs:= [_,_,_,_,_]) hS) ?_;rintro _ w ⟨g2,rfl,hS⟩
  refine(zP)<|zlt<|zsq<|zsq<|zdst [0,1] [0,1] 1000 mx_ hS ?_;clear hS;intro w hS
  refine(zDl 0 (fun w hS=>(xls 0 st_32 hS)))<|(zDw 1 (xfb 1 VZ))<|(zDl 2 (fun w hS=>(xlb 1 pl_60 hS)))<|zdc 3 (xc0 Zfz) (TP (u:=u) (pv:=pv) (ln:=ln) (pt:=pt) (cnt:=cnt) (p:=p) w (hV.below hS.below) (h.below hS.below)) ?_;rintro _ w ⟨rfl,hS'⟩
  replace hS:=hS.cmp hS';clear hS'
  refine⟨⟨fun _=>hS,hS⟩,?_⟩
  refine(zDw 4 Yy)<|(zDw 5 xmv)<|zdb 12 ?_ ?_<;>intro hc
  ·
   refine(zDo 6)<|(zDo 7)<|(zDo 9)<|(zDo 10)<|(zDo 8)<|(zDo 11)<|(zDw 12 xpt)<|zdd<|ztn<|zct<|zsr ?_
   refine(zP)<|zx14<|zf1 ⟨_,rfl,?_⟩
   exact⟨Ze (by rintro⟨h1,h2,h3⟩;first|omega|exact absurd h1 ‹¬(PlanOk p u ln pt cnt/\∀j,0<=j->j<p.m->p.D j<=Zp u pt cnt j)›|exact absurd h1.1.1 ‹¬p.Ok›|(rcases h3 with⟨h4,h5,h6,h7⟩|⟨h4,_⟩<;>omega)),hS.nl⟩
  refine(zDw 6 (xfb 1 VZ))<|(zDl 7 (fun w hS=>(xlb 1 pl_60 hS)))<|zDrv 9 (xfb 0 fd_63_0) ?_
  have hbr:=Ui (show PlanOk p u ln pt cnt/\∀j,0<=j->j<p.m->p.D j<=Zp u pt cnt j by first|assumption|exact Classical.not_not.1 ‹_›).1
  refine(zDl 10 (fun w hS=>(xlb 1 pl_3 hS)))<|zdc 8 (xc0 Zbg) (V6 (u:=u) (pv:=pv) (ln:=ln) (pt:=pt) (cnt:=cnt) w (hV.below hS.below) (by omega) (fun k k0 k1=>by have h9:=(show PlanOk p u ln pt cnt/\∀j,0<=j->j<p.m->p.D j<=Zp u pt cnt j by first|assumption|exact Classical.not_not.1 ‹_›).1.2.2 k k0 k1;omega)) ?_;rintro _ w ⟨rfl,hS'⟩
  replace hS:=hS.cmp hS';clear hS'
  refine⟨⟨fun _=>hS,hS⟩,?_⟩
  refine(zDw 11 YY)<|(zDw 12 xpf)<|zdd<|ztn ?_
  refine Zf ?_ ?_<;>intro hc
  ·
   refine zsr<|(zP)<|zx14<|zf1 ⟨_,rfl,?_⟩
   exact⟨Ze (by rintro⟨h1,h2,h3⟩;first|omega|exact absurd h1 ‹¬(PlanOk p u ln pt cnt/\∀j,0<=j->j<p.m->p.D j<=Zp u pt cnt j)›|exact absurd h1.1.1 ‹¬p.Ok›|(rcases h3 with⟨h4,h5,h6,h7⟩|⟨h4,_⟩<;>omega)),hS.nl⟩
  refine YL<|(zV (xfb 0 fd_63_0))<|(zV (xlb 1 pl_3 hS))<|(zP)<|zlt<|Zf ?_ ?_<;>intro hc
  ·
   refine zsr<|(zV (xfb 2 Ky))<|(zV (xlp 1 (ds:= [.int .i64 t.s,t.vK,t.vL]) st_54 hS))<|(zV (xany (v:= .agg #[.int .i64 0,.slice none 0 0,.slice none 0 0])))<|zlc (xc0 Zm3) (Zf6 (t:=t) w (KAt.below hS.below (hK)) (LvAt.below hS.below (hT))) ?_;rintro _ w ⟨rfl,hS'⟩
   replace hS:=hS.cmp hS';clear hS'
   refine(zP)<|zx14<|zf1 ⟨_,rfl,?_⟩
   have hme:PlanOk p u ln pt cnt/\∀j,0<=j->j<p.m->p.D j<=Zp u pt cnt j:=by first|assumption|exact Classical.not_not.1 ‹_›
   first
   |exact⟨Zk ⟨fun hh=>⟨hme,by omega,.inl ⟨by omega,by first|exact hh|exact⟨by omega,by omega,by omega⟩⟩⟩,fun hh=>by rcases hh.2.2 with⟨h4,h5⟩|⟨h4,h5⟩;(first|exact h5|exact h5.1|(obtain⟨h6,h7,h8⟩:=h5;omega));omega⟩,hS.nl⟩
   |exact⟨Zk ⟨fun hh=>⟨hme,by omega,.inr ⟨by omega,hh⟩⟩,fun hh=>by rcases hh.2.2 with⟨h4,h5⟩|⟨h4,h5⟩;omega;exact h5⟩,hS.nl⟩
  refine ZT<|(zV (xls 0 st_32 hS))<|(zV (xfb 0 fd_63_0))<|(zV (xlb 1 pl_3 hS))<|(zV (Zq (r:=nb-1)))<|zlv (xany (v:= .agg #[vL,vD,.int .i64 p.stock,.int .i64 p.kerf,.int .i64 (nb-1)]) (hr:=by obtain⟨_,_,_,_,rfl,_⟩:=h.L.slh;obtain⟨_,_,_,_,rfl,_⟩:=h.D.slh;kernel_rfl)) ?_
  refine(zV (xfb 2 Ky))<|(zV (xlp 1 (ds:= [.int .i64 t.s,t.vK,t.vL]) st_54 hS))<|zlc (xc0 Zna) (Znv (t:=t) (p:=p) (b:=(nb-1)) w (h.below hS.below) (KAt.below hS.below (hK)) (LvAt.below hS.below (hT))) ?_;rintro _ w ⟨rk1,k1,fk1,rfl,cI,cS,hS'⟩
  replace hS:=(hS.comp hS').n3;clear hS'
  refine zs5 ?_
  refine zlz<|(zP)<|(zP)<|(zP)<|zx1<|zf1 ⟨_,rfl,?_⟩
  have hme:PlanOk p u ln pt cnt/\∀j,0<=j->j<p.m->p.D j<=Zp u pt cnt j:=by first|assumption|exact Classical.not_not.1 ‹_›
  first
  |exact⟨Zk ⟨fun hh=>⟨hme,by omega,.inl ⟨by omega,by first|exact hh|exact⟨by omega,by omega,by omega⟩⟩⟩,fun hh=>by rcases hh.2.2 with⟨h4,h5⟩|⟨h4,h5⟩;(first|exact h5|exact h5.1|(obtain⟨h6,h7,h8⟩:=h5;omega));omega⟩,hS.nl⟩
  |exact⟨Zk ⟨fun hh=>⟨hme,by omega,.inr ⟨by omega,hh⟩⟩,fun hh=>by rcases hh.2.2 with⟨h4,h5⟩|⟨h4,h5⟩;omega;exact h5⟩,hS.nl⟩
theorem Zf8{vV:Value}{u:Int}{pv:Int->Value}{vL vD:Value}{p:Prob}{nb:Int}{t:Tr}(w0:World)(hV:VAt w0 vV u pv ln pt cnt)(h:PAt w0 vL vD p)(hK:KAt w0 t)(hT:LvAt w0 t)(hu5:u<=1000):
    Calls Tryz.prog 27 [.agg #[vL,vD,.int .i64 p.stock,.int .i64 p.kerf],.agg #[.int .i64 nb,vV,.int .i64 t.s,t.vK,t.vL]].toArray w0 fun e w=>∃v,e= .returned v/\v=B (Vy p nb u ln pt cnt t)/\Sat w0 w []:=by
  have hm:=h.L.slh.n0;have hm1:=h.L.slh.n1;have hd:=h.D.slh.n0;have hd1:=h.D.slh.n1;have hs:=h.is;have hk:=h.ik
  have hn:=hK.row.slh.n0;have hn1:=hK.row.slh.n1;have hln:=hT.leaf.row.slh.n0;have xU:=hT.leaf.row.slh.n1
  have hu:=hV.row.slh.n0;have hu1:=hV.row.slh.n1
  refine zenG Tryz.func27 Tryz.ntmps27 fun w hS=> ?_
  refine zsr<|zla (xbx (cs:= [_,_,_,_]) hS) ?_;rintro _ w ⟨g1,rfl,hS⟩
  refine zla (xbx (cs:= [_,_,_,_,_]) hS) ?_;rintro _ w ⟨g2,rfl,hS⟩
  refine(zP)<|zlt<|zsq<|zsq<|zdst [0,1] [0,1] 1000 mx_ hS ?_;clear hS;intro w hS
  refine(zDl 0 (fun w hS=>(xls 0 Z5 hS)))<|zdc 1 (xc0 UN) (YE (p:=p) w (h.below hS.below)) ?_;rintro _ w ⟨rfl,hS'⟩
  replace hS:=hS.cmp hS';clear hS'
  refine⟨⟨fun _=>hS,hS⟩,?_⟩
  refine(zDw 2 Yy)<|(zDw 3 xmv)<|zdb 10 ?_ ?_<;>intro hc
  ·
   refine(zDo 4)<|(zDo 5)<|(zDo 6)<|(zDo 7)<|(zDo 8)<|(zDw 9 xpt)<|(zDw 10 xmv)<|(zDo 11)<|(zDo 12)<|(zDo 14)<|(zDo 15)<|(zDo 13)<|(zDo 16)<|(zDw 17 xpt)<|zdd<|ztn<|zct<|zsr ?_
   refine(zP)<|zx14<|zf1 ⟨_,rfl,?_⟩
   exact⟨Ze (by rintro⟨h1,h2,h3⟩;first|omega|exact absurd h1 ‹¬(PlanOk p u ln pt cnt/\∀j,0<=j->j<p.m->p.D j<=Zp u pt cnt j)›|exact absurd h1.1.1 ‹¬p.Ok›|(rcases h3 with⟨h4,h5,h6,h7⟩|⟨h4,_⟩<;>omega)),hS.nl⟩
  refine(zDl 4 (fun w hS=>(xls 0 Z5 hS)))<|(zDw 5 (xfb 1 ZcR))<|(zDl 6 (fun w hS=>(xlb 1 ZiP hS)))<|zdc 7 (xc0 Zja) (Zbj (u:=u) (pv:=pv) (ln:=ln) (pt:=pt) (cnt:=cnt) (p:=p) w (hV.below hS.below) (h.below hS.below)) ?_;rintro _ w ⟨rfl,hS'⟩
  replace hS:=hS.cmp hS';clear hS'
  refine⟨⟨fun _=>hS,hS⟩,?_⟩
  refine(zDw 8 Yy)<|(zDw 9 xpf)<|(zDw 10 xmv)<|zdb 17 ?_ ?_<;>intro hc
  ·
   refine(zDo 11)<|(zDo 12)<|(zDo 14)<|(zDo 15)<|(zDo 13)<|(zDo 16)<|(zDw 17 xpt)<|zdd<|ztn<|zct<|zsr ?_
   refine(zP)<|zx14<|zf1 ⟨_,rfl,?_⟩
   exact⟨Ze (by rintro⟨h1,h2,h3⟩;first|omega|exact absurd h1 ‹¬(PlanOk p u ln pt cnt/\∀j,0<=j->j<p.m->p.D j<=Zp u pt cnt j)›|exact absurd h1.1.1 ‹¬p.Ok›|(rcases h3 with⟨h4,h5,h6,h7⟩|⟨h4,_⟩<;>omega)),hS.nl⟩
  refine(zDw 11 (xfb 1 ZcR))<|(zDl 12 (fun w hS=>(xlb 1 ZiP hS)))<|zDrv 14 (xfb 0 Kz) ?_
  have hbr:=Ui (show PlanOk p u ln pt cnt/\∀j,0<=j->j<p.m->p.D j<=Zp u pt cnt j by first|assumption|exact Classical.not_not.1 ‹_›).1
  refine(zDl 15 (fun w hS=>(xlb 1 pl_3 hS)))<|zdc 13 (xc0 Zi9) (Zc9 (u:=u) (pv:=pv) (ln:=ln) (pt:=pt) (cnt:=cnt) w (hV.below hS.below) (by omega) (fun k k0 k1=>by have h9:=(show PlanOk p u ln pt cnt/\∀j,0<=j->j<p.m->p.D j<=Zp u pt cnt j by first|assumption|exact Classical.not_not.1 ‹_›).1.2.2 k k0 k1;omega)) ?_;rintro _ w ⟨rfl,hS'⟩
  replace hS:=hS.cmp hS';clear hS'
  refine⟨⟨fun _=>hS,hS⟩,?_⟩
  refine(zDw 16 YY)<|(zDw 17 xpf)<|zdd<|ztn ?_
  refine Zf ?_ ?_<;>intro hc
  ·
   refine zsr<|(zP)<|zx14<|zf1 ⟨_,rfl,?_⟩
   exact⟨Ze (by rintro⟨h1,h2,h3⟩;first|omega|exact absurd h1 ‹¬(PlanOk p u ln pt cnt/\∀j,0<=j->j<p.m->p.D j<=Zp u pt cnt j)›|exact absurd h1.1.1 ‹¬p.Ok›|(rcases h3 with⟨h4,h5,h6,h7⟩|⟨h4,_⟩<;>omega)),hS.nl⟩
  refine YL<|(zV (xfb 0 Kz))<|(zV (xlb 1 pl_3 hS))<|(zP)<|zlt<|Zf ?_ ?_<;>intro hc
  ·
   refine zsr<|(zV (xfb 2 fd_58_2))<|(zV (xfb 3 fd_45_1))<|(zV (xlb 1 YT hS))<|(zV (xln YS (hK).row.slh))<|(zP)<|(zP)<|zlb 33 ?_ ?_<;>intro hc
   ·
    refine(zV (xfb 2 fd_58_2))<|(zV (xfb 4 fd_45_2))<|(zV (xlb 1 pl_22 hS))<|(zV (xln Zb (hT).leaf.row.slh))<|(zP)<|(zP)<|(zP)<|zlb 40 ?_ ?_<;>intro hc
    ·
     refine(zV (xfb 2 fd_58_2))<|(zV (xfb 2 fd_45_0))<|(zV (xlb 1 pl_3 hS))<|(zP)<|(zP)<|(zP)<|zx14<|zf1 ⟨_,rfl,?_⟩
     have hme:PlanOk p u ln pt cnt/\∀j,0<=j->j<p.m->p.D j<=Zp u pt cnt j:=by first|assumption|exact Classical.not_not.1 ‹_›
     first
     |exact⟨Zk ⟨fun hh=>⟨hme,by omega,.inl ⟨by omega,by first|exact hh|exact⟨by omega,by omega,by omega⟩⟩⟩,fun hh=>by rcases hh.2.2 with⟨h4,h5⟩|⟨h4,h5⟩;(first|exact h5|exact h5.1|(obtain⟨h6,h7,h8⟩:=h5;omega));omega⟩,hS.nl⟩
     |exact⟨Zk ⟨fun hh=>⟨hme,by omega,.inr ⟨by omega,hh⟩⟩,fun hh=>by rcases hh.2.2 with⟨h4,h5⟩|⟨h4,h5⟩;omega;exact h5⟩,hS.nl⟩
    iterate 4 refine zlo ?_
    refine(zP)<|(zP)<|zx14<|zf1 ⟨_,rfl,?_⟩
    exact⟨Ze (by rintro⟨h1,h2,h3⟩;first|omega|exact absurd h1 ‹¬(PlanOk p u ln pt cnt/\∀j,0<=j->j<p.m->p.D j<=Zp u pt cnt j)›|exact absurd h1.1.1 ‹¬p.Ok›|(rcases h3 with⟨h4,h5,h6,h7⟩|⟨h4,_⟩<;>omega)),hS.nl⟩
   iterate 5 refine zlo ?_
   refine zs2 ?_
   iterate 4 refine zlo ?_
   refine(zP)<|(zP)<|zx14<|zf1 ⟨_,rfl,?_⟩
   exact⟨Ze (by rintro⟨h1,h2,h3⟩;first|omega|exact absurd h1 ‹¬(PlanOk p u ln pt cnt/\∀j,0<=j->j<p.m->p.D j<=Zp u pt cnt j)›|exact absurd h1.1.1 ‹¬p.Ok›|(rcases h3 with⟨h4,h5,h6,h7⟩|⟨h4,_⟩<;>omega)),hS.nl⟩
  refine ZT<|(zV (xls 0 Z5 hS))<|(zV (xfb 0 Kz))<|(zV (xlb 1 pl_3 hS))<|(zV (Zq (r:=nb-1)))<|zlv (xany (v:= .agg #[vL,vD,.int .i64 p.stock,.int .i64 p.kerf,.int .i64 (nb-1)]) (hr:=by obtain⟨_,_,_,_,rfl,_⟩:=h.L.slh;obtain⟨_,_,_,_,rfl,_⟩:=h.D.slh;kernel_rfl)) ?_
  refine(zV (xfb 2 fd_58_2))<|(zV (xlp 1 (ds:= [.int .i64 t.s,t.vK,t.vL]) st_45 hS))<|zlc (xc0 Zm9) (ZlB (t:=t) (p:=p) (b:=(nb-1)) w (h.below hS.below) (KAt.below hS.below (hK)) (LvAt.below hS.below (hT))) ?_;rintro _ w ⟨rk1,k1,fk1,rfl,cI,cS,hS'⟩
  replace hS:=(hS.comp hS').n3;clear hS'
  refine zs5 ?_
  refine zlz<|(zP)<|(zP)<|(zP)<|zx1<|zf1 ⟨_,rfl,?_⟩
  have hme:PlanOk p u ln pt cnt/\∀j,0<=j->j<p.m->p.D j<=Zp u pt cnt j:=by first|assumption|exact Classical.not_not.1 ‹_›
  first
  |exact⟨Zk ⟨fun hh=>⟨hme,by omega,.inl ⟨by omega,by first|exact hh|exact⟨by omega,by omega,by omega⟩⟩⟩,fun hh=>by rcases hh.2.2 with⟨h4,h5⟩|⟨h4,h5⟩;(first|exact h5|exact h5.1|(obtain⟨h6,h7,h8⟩:=h5;omega));omega⟩,hS.nl⟩
  |exact⟨Zk ⟨fun hh=>⟨hme,by omega,.inr ⟨by omega,hh⟩⟩,fun hh=>by rcases hh.2.2 with⟨h4,h5⟩|⟨h4,h5⟩;omega;exact h5⟩,hS.nl⟩
end Go.Proofs.YtkichmnjjblodaaGreat
namespace Go.Proofs.Gw
open Go Go.RowKit
variable {w:Int} {x:Int->Int} {L:List (Int->Int)}
def XI(L:List (Int->Int))(j:Int):Int:=match L with
  | []=>0
  |a::L=>a j+XI L j
def LFit(p:Prob)(L:List (Int->Int)):Prop:=∀a∈L,FitsP p p.m a
theorem Tw(L M:List (Int->Int))(j:Int):XI (L++M) j=XI L j+XI M j:=by
  induction L with
  |nil=>simp [XI]
  |cons a L ih=>simp only [List.cons_append,XI,ih];omega
theorem LFit.nn{p:Prob}(h:LFit p L){j:Int}(j0:0<=j)(j1:j<p.m):0<=XI L j:=by
  induction L with
  |nil=>exact Int.le_refl _
  | cons a L ih=>
    have h1:=(h a (List.mem_cons_self ..)).all j j0 j1
    have h2:=ih fun b hb=>h b (List.mem_cons_of_mem _ hb)
    simp only [XI];omega
theorem ZeP{j:Int}(h:1<=XI L j):∃L1 a L2,L=L1++a::L2/\1<=a j:=by
  induction L with
  |nil=>simp [XI] at h
  | cons a L ih=>
    by_cases e:1<=a j
    · exact⟨[],a,L,rfl,e⟩
    · simp only [XI] at h
      obtain⟨L1,b,L2,rfl,h2⟩:=ih (by omega)
      exact⟨a::L1,b,L2,rfl,h2⟩
theorem Vo(f:Int->Int):∀n:Nat,Zd f (n+1)=f 0+Zd (fun i=>f (i+1)) n
  |0=>by simp [Zd]
  | n+1=>by
    have h:=Vo f n
    show Zd f (n+1)+f ((n+1:Nat):Int)=f 0+(Zd (fun i=>f (i+1)) n+f ((n:Int)+1))
    rw [h,show((n+1:Nat):Int)=(n:Int)+1 by omega];omega
def ZbO(L:List (Int->Int))(i:Int):Int->Int:=L.getD i.toNat (fun _=>0)
theorem RA(k:Int):∀L:List (Int->Int),X8 (ZbO L) (fun _=>1) L.length k=XI L k
  | []=>rfl
  | a ::L=>by
    unfold X8
    rw [List.length_cons,Vo]
    have e:Zd (fun i=>ZbO (a::L) (i+1) k*1) L.length=Zd (fun i=>ZbO L i k*1) L.length:=Zj fun i i0 i1=>by
      unfold ZbO;rw [show(i+1).toNat=i.toNat+1 by omega];rfl
    have h:=RA k L
    unfold X8 at h
    rw [e,h]
    show(a k)*1+_=_
    simp [XI]
theorem ZeJ{i:Int}(i0:0<=i)(i1:i<L.length):ZbO L i∈L:=by
  unfold ZbO
  rw [List.getD_eq_getElem?_getD,List.getElem?_eq_getElem (by omega)]
  exact List.getElem_mem _
theorem ZgK {p:Prob} {n b:Int} {y:Int->Int} {q:Int} (h:Chk p n y q=0) (hb:b<=1000) (hbn:b<YX p n y q) (hL:LFit p L) (hc:∀j,0<=j->j<p.m->p.D j<=XI L j):b<L.length:=by
  by_cases hl:1000<L.length
  · omega
  · have hM:MeetsP p L.length (fun _=>p.m) (ZbO L) (fun _=>1):=
      ⟨⟨(Xj h).1,by omega,fun i i0 i1=>⟨hL _ (ZeJ i0 i1),by omega,by omega⟩⟩,fun k k0 k1=>by
        rw [show((L.length:Int)).toNat=L.length by omega,RA];exact hc k k0 k1⟩
    have h1:=Zdx h (by omega) hM
    rw [show((L.length:Int)).toNat=L.length by omega,WH] at h1
    omega
def rep(c:Nat)(a:Int->Int):List (Int->Int):=List.replicate c a
theorem ZaV(a:Int->Int)(j:Int):∀c:Nat,XI (rep c a) j=a j*c
  |0=>by simp [rep,XI]
  | c+1=>by
    have h:=ZaV a j c
    show a j+XI (rep c a) j=_
    rw [h,Int.natCast_add,Int.mul_add];simp;omega
theorem Rn {p:Prob} {len:Int->Int} {pt:Int->Int->Int} {cnt:Int->Int}:∀n:Nat,(∀i,0<=i->i<(n:Int)->FitsP p (len i) (pt i)/\0<=cnt i)->∃L,LFit p L/\(∀j,XI L j=X8 pt cnt n j)/\(L.length:Int)=Zd cnt n
  |0,_=>⟨[],fun a ha=>absurd ha (by simp),fun _=>rfl,rfl⟩
  | n + 1,h=>by
    obtain⟨L,h1,h2,h3⟩:=Rn n fun i i0 i1=>h i i0 (by omega)
    obtain⟨h4,h5⟩:=h n (by omega) (by omega)
    refine⟨L++rep (cnt n).toNat (pt n),fun a ha=> ?_,fun j=> ?_,?_⟩
    · rcases List.mem_append.1 ha with ha|ha
      · exact h1 a ha
      · rw [(List.mem_replicate.1 ha).2]
        have:=h4;rw [this.eq] at this;exact this
    · rw [Tw,h2,ZaV,Int.toNat_of_nonneg h5];rfl
    · rw [List.length_append,Int.natCast_add,h3];unfold rep;rw [List.length_replicate,Int.toNat_of_nonneg h5];rfl
theorem T8{p:Prob}(hp:p.Ok){x:Int->Int}(hx:∀i,0<=i->i<p.m->0<=x i):∀(k:Nat) {i:Int},0<=i->i+k<=p.m->ZC p x i.toNat<=ZC p x (i+k).toNat
  |0,i,_,_=>by simp
  | k+1,i,i0,h=>by
    have h1:=T8 hp hx k i0 (by omega)
    have h2:ZC p x (i+k+1).toNat=ZC p x (i+k).toNat+x (i+k)*(p.L (i+k)+p.kerf):=ZH _ (by omega)
    have h3:=hp.all (i+k) (by omega) (by omega)
    unfold Prob.each at h3
    have h4:=hp.k1
    have h5:0<=x (i+k)*(p.L (i+k)+p.kerf):=Int.mul_nonneg (hx _ (by omega) (by omega)) (by omega)
    rw [show i+((k+1:Nat):Int)=i+k+1 by omega,h2];omega
theorem ZcV {p:Prob} (hp:p.Ok) {w:Int} {x:Int->Int} (hx:MPat p w x):∀(j:Nat) {i l:Int} {a:Int->Int},(p.m-i).toNat=j->0<=i->i<=p.m->Pfx p i a l->(∀k,k<i->x k=a k)->(i<=w->w<p.m->1<=x w)->x∈exI p w i a l
  | 0,i,l,a,hj,h0,h1,h,he,hw=>by
    have hi:i=p.m:=by omega
    have e:x=a:=funext fun k=>by
      by_cases hk:k<i
      · exact he k hk
      · rw [h.zero k (by omega),hx.zero k (by omega)]
    subst e
    rw [W9 hi (by have:=h.left;rw [hi] at this;rw [this];exact hx.maxi)]
    exact List.mem_singleton.2 rfl
  | j + 1,i,l,a,hj,h0,h1,h,he,hw=>by
    rw [XK h0 (by omega)]
    have hr:=hx.rng i h0 (by omega)
    have hs:=hp.all i h0 (by omega)
    unfold Prob.each at hs
    have hk:=hp.k1
    have hu:ZC p x (i+1).toNat=ZC p x i.toNat+x i*(p.L i+p.kerf):=ZH _ h0
    have hm:=T8 hp (fun k k0 k1=>(hx.rng k k0 k1).1) (p.m-(i+1)).toNat (i:=i+1) (by omega) (by omega)
    rw [show i+1+((p.m-(i+1)).toNat:Int)=p.m by omega] at hm
    have ha:ZC p x i.toNat=ZC p a i.toNat:=Zj fun k k0 k1=>by rw [he k (by omega)]
    have hl:=h.left
    have hxu:=hx.used
    have hle:x i*(p.L i+p.kerf)<=l:=by omega
    have h2:x i<=most p i l:=by
      unfold most
      have:x i<=l.tdiv (p.L i+p.kerf):=by
        rw [Int.tdiv_eq_ediv_of_nonneg h.l0]
        exact(Int.le_ediv_iff_mul_le (by omega)).2 hle
      omega
    have hls:least w i<=x i:=by
      unfold least
      by_cases e:w=i
      · rw [if_pos e,<-e];exact hw (by omega) (by omega)
      · rw [if_neg e];exact hr.1
    refine Zfu hls (by omega) (ZcV hp hx j (by omega) (by omega) (by omega) (h.step hp h0 (by omega) hr.1 h2) (fun k hk=> ?_) fun q1 q2=>hw (by omega) q2)
    by_cases e:k=i
    · rw [e,Zw]
    · rw [upd_ne _ _ e];exact he k (by omega)
theorem Zme{p:Prob}(hp:p.Ok)(hx:MPat p w x)(hw:0<=w->w<p.m->1<=x w):x∈MX p w:=
  ZcV hp hx _ rfl (Int.le_refl 0) (by have:=hp.m1;omega) (Pfx.start hp) (fun k hk=>by rw [hx.zero k (by omega)]) hw
theorem U7{p:Prob}{f:Int->Int}{i:Int}(h0:0<=i):∀{n:Nat},i<(n:Int)->ZC p (upd f i (f i+1)) n=ZC p f n+(p.L i+p.kerf)
  |0,h=>by omega
  | n +1,h=>by
    show Zd _ (n+1)=Zd _ (n+1)+_
    simp only [Zd]
    by_cases e:i=n
    · subst e
      have:Zd (fun j=>upd f (n:Int) (f n+1) j*(p.L j+p.kerf)) n=Zd (fun j=>f j*(p.L j+p.kerf)) n:=Zj fun j j0 j1=>by rw [upd_ne _ _ (by omega)]
      rw [this,Zw,Int.add_mul,Int.one_mul];omega
    · have ih:=U7 (p:=p) (f:=f) h0 (n:=n) (by omega)
      unfold ZC at ih
      rw [ih,upd_ne _ _ (fun h=>e h.symm)];omega
theorem ZdN {p:Prob} (hp:p.Ok):∀(c:Nat) {x:Int->Int},(p.stock+p.kerf-ZC p x p.m.toNat).toNat=c->(∀k,0<=k->k<p.m->0<=x k/\x k<=p.D k)->(∀k,k<0\/p.m<=k->x k=0)->ZC p x p.m.toNat<=p.stock+p.kerf->(∃i,0<=i/\i<p.m/\0<x i)->∃z,MPat p w z/\∀k,x k<=z k:=by
  intro c
  induction c using Nat.strongRecOn with
  | _ c ih=>
    intro x hc hr hz hu hp0
    by_cases hm:∀i,0<=i->i<p.m->x i<p.D i->p.stock+p.kerf-ZC p x p.m.toNat<p.L i+p.kerf
    · exact⟨x,⟨hr,hz,hu,hp0,hm⟩,fun k=>Int.le_refl _⟩
    · obtain⟨i,hi⟩:=Classical.not_forall.1 hm
      obtain⟨i0,hi⟩:=Classical.not_forall.1 hi
      obtain⟨i1,hi⟩:=Classical.not_forall.1 hi
      obtain⟨i2,i3⟩:=Classical.not_forall.1 hi
      have he:=U7 (p:=p) (f:=x) i0 (n:=p.m.toNat) (by omega)
      have hs:=hp.all i i0 i1
      unfold Prob.each at hs
      have hk:=hp.k1
      obtain⟨z,h1,h2⟩:=ih _ (by omega) (x:=upd x i (x i+1)) rfl (fun k k0 k1=>by
          by_cases e:k=i
          · rw [e,Zw];have:=hr i i0 i1;omega
          · rw [upd_ne _ _ e];exact hr k k0 k1) (fun k hk=>by rw [upd_ne _ _ (by omega)];exact hz k hk) (by omega)
        ⟨i,i0,i1,by rw [Zw];have:=hr i i0 i1;omega⟩
      refine⟨z,h1,fun k=> ?_⟩
      have h3:=h2 k
      by_cases e:k=i
      · rw [e,Zw] at h3;rw [e];omega
      · rw [upd_ne _ _ e] at h3;exact h3
theorem RU{p:Prob}{a:Int->Int}(ha:FitsP p p.m a)(w0:0<=w)(w1:w<p.m)(hw:1<=a w)(hd:1<=p.D w):∃i,0<=i/\i<((MX p w).length:Int)/\∀j,0<=j->j<p.m->min (a j) (p.D j)<=YA (MX p w) i j:=by
  have hp:=ha.ok
  obtain⟨x,hx,hx0⟩:∃x:Int->Int,(∀j,0<=j->j<p.m->x j=min (a j) (p.D j))/\∀j,j<0\/p.m<=j->x j=0:=
    ⟨fun j=>if 0<=j/\j<p.m then min (a j) (p.D j) else 0,fun j j0 j1=>if_pos ⟨j0,j1⟩,fun j hj=>if_neg (by omega)⟩
  have hu:ZC p x p.m.toNat<=p.stock+p.kerf:=by
    refine Int.le_trans (Z8 fun j j0 j1=> ?_) ha.used
    rw [hx j j0 (by omega)]
    have h2:=hp.all j j0 (by omega)
    unfold Prob.each at h2
    have hk:=hp.k1
    exact Int.mul_le_mul_of_nonneg_right (by omega) (by omega)
  obtain⟨z,h1,h2⟩:=ZdN hp (w:=w) _ rfl (fun k k0 k1=>by
      rw [hx k k0 k1]
      have h2:=hp.all k k0 k1
      unfold Prob.each at h2
      have:=ha.all k k0 k1
      omega) hx0 hu ⟨w,w0,w1,by rw [hx w w0 w1];omega⟩
  have h3:z∈MX p w:=Zme hp h1 fun _ _=>by
    have:=h2 w;rw [hx w w0 w1] at this;omega
  obtain⟨n,hn,e⟩:=List.mem_iff_getElem.1 h3
  refine⟨n,by omega,by omega,fun j j0 j1=> ?_⟩
  have h4:=h2 j
  rw [hx j j0 j1] at h4
  unfold YA
  rw [show((n:Int)).toNat=n by omega,List.getD_eq_getElem?_getD,List.getElem?_eq_getElem hn,Option.getD_some,e]
  exact h4
end Go.Proofs.Gw
namespace Go.Proofs.Gw
open Go Go.RowKit
def BFit(p:Prob)(n:Int)(bs:Int->Int->Int):Prop:=∀k,0<=k->k<n->(∀j,0<=j->j<p.m->0<=bs k j/\bs k j<=2000)/\ZC p (bs k) p.m.toNat<=p.stock+p.kerf
def Prob.less1(p:Prob)(i:Int):Prob:=p.with (upd p.D i (p.D i-1))
theorem Rg{f:Int->Int}:∀{n:Nat},1<=Zd f n->∃k,0<=k/\k<(n:Int)/\1<=f k
  |0,h=>by simp [Zd] at h
  | n +1,h=>by
    by_cases e:1<=f n
    · exact⟨n,by omega,by omega,e⟩
    · simp only [Zd] at h
      obtain⟨k,h0,h1,h2⟩:=Rg (f:=f) (n:=n) (by omega)
      exact⟨k,h0,by omega,h2⟩
theorem ZgZ{p:Prob}{x y:Int->Int}(h:∀j,0<=j->j<p.m->x j=y j):ZC p x p.m.toNat=ZC p y p.m.toNat:=Zj fun j j0 j1=>by
  rw [h j j0 (by omega)]
theorem RH{p:Prob}(hp:p.Ok){a:Int->Int}(h:∀j,0<=j->j<p.m->0<=a j)(hu:ZC p a p.m.toNat<=p.stock+p.kerf):FitsP p p.m a:=by
  refine⟨hp,rfl,fun j j0 j1=>⟨h j j0 j1,?_⟩,hu⟩
  have h1:=Xw (f:=fun i=>a i*(p.L i+p.kerf)) (n:=p.m.toNat) j0 (by omega) (fun i i0 i1=>by
    have h2:=hp.all i i0 (by omega)
    unfold Prob.each at h2
    exact Int.mul_nonneg (h i i0 (by omega)) (by have:=hp.k1;omega))
  have h2:=hp.all j j0 j1
  unfold Prob.each at h2
  have hk:=hp.k1;have hs:=hp.s2
  apply Classical.byContradiction;intro hn
  have h3:2001*(p.L j+p.kerf)<=a j*(p.L j+p.kerf):=Int.mul_le_mul_of_nonneg_right (by omega) (by omega)
  unfold ZC at hu
  omega
def ZN(p:Prob):Int:=Zd p.D p.m.toNat
theorem Wd{p:Prob}(hp:p.Ok):0<=ZN p/\ZN p<=20000:=by
  have h:=WI (f:=p.D) (A:=1000) (n:=p.m.toNat) (fun i i0 i1=>by
    have he:=hp.all i i0 (by omega)
    unfold Prob.each at he
    omega)
  have:=hp.m2
  unfold ZN;omega
theorem BFit.less{p:Prob}{n i:Int}{bs:Int->Int->Int}(h:BFit p n bs):BFit (p.less1 i) n bs:=h
theorem BFit.zero{p:Prob}(hp:p.Ok)(n:Int):BFit p n (fun _ _=>0):=fun k k0 k1=>⟨fun j j0 j1=>⟨Int.le_refl _,by show(0:Int)<=2000;omega⟩,by
  have e:ZC p (fun _=>0) p.m.toNat=0:=by
    unfold ZC
    rw [Zj (g:=fun _=>0) fun i i0 i1=>by simp]
    exact ZU _
  have:=hp.s1;have:=hp.k1
  dsimp only
  rw [e];omega⟩
end Go.Proofs.Gw
namespace Go.Proofs.YtkichmnjjblodaaGreat
open Go Go.RowKit Go.Proofs.Gw
theorem Zd4{vV:Value}{u:Int}{pv:Int->Value}{ln:Int->Int}{pt:Int->Int->Int}{cnt:Int->Int}(w0:World)(hV:VAt w0 vV u pv ln pt cnt):
    Calls Tryz.prog 20 [vV].toArray w0 fun e w=>∃v,e= .returned v/\v=B (ShortP u ln cnt)/\Sat w0 w []:=by
  have hu:=hV.row.slh.n0;have hu1:=hV.row.slh.n1
  refine zenG Tryz.func20 Tryz.ntmps20 fun w hS=> ?_
  refine zsr<|(zP)<|zx5<|(zP)<|zx6<|zlp (fun mm M w=>∃(i:Int),mm=((u-i).toNat)/\(0<=i)/\(i<=u)/\(∀k,0<=k->k<i->ln k<=25/\cnt k<=40)/\M= [(0,vV),(3,.int .i64 i)]/\Sat w0 w []) ⟨0,rfl,(by omega),(by omega),?_,rfl,hS⟩ ?_
  ·
   intro k h0 h1;omega
  clear hS w
  rintro mm M w ⟨i,rfl,h0,h1,qa,rfl,hS⟩
  refine zx11<|(zP)<|(zP)<|(zV (xln Xq hV.row.slh))<|(zP)<|zlt<|Zf ?_ ?_<;>intro hc
  ·
   refine zx3<|(zP)<|(zP)<|(zV (xix (kk:=2*i) Xq hV.row.slh))<|(zV (xfc (kk:=2*i) TE hV.row.slh))<|(zV (xlr (u:=(pv i)) pl_22 (hV.row.below hS.below) (e:=(UT pv cnt (by omega)))))<|(zV (xln Zb (hV.p i (by omega) (by omega)).slh))<|(zP)<|(zP)<|zlb 17 ?_ ?_<;>intro hc
   ·
    iterate 6 refine zlo ?_
    refine(zP)<|zlt<|zct<|zsr ?_
    refine(zP)<|zx2<|zf1 ⟨_,rfl,?_⟩
    exact⟨Ze (by intro hk;have:=hk.all i (by omega) (by omega);omega),hS⟩
   refine(zP)<|(zP)<|(zV (xix (kk:=2*i) Xq hV.row.slh))<|(zV (xfc (kk:=2*i+1) WN hV.row.slh))<|(zV (xlr (u:= .int .i64 (cnt i)) pl_3 (hV.row.below hS.below) (e:=(Wm pv cnt (by omega)))))<|(zP)<|(zP)<|zlt<|Zf ?_ ?_<;>intro hc
   ·
    refine zsr<|(zP)<|zx2<|zf1 ⟨_,rfl,?_⟩
    exact⟨Ze (by intro hk;have:=hk.all i (by omega) (by omega);omega),hS⟩
   refine zx4<|(zP)<|(zV (Zh (r:=i+1)))<|(zP)<|zln<|zlq ⟨i+1,rfl,(by omega),(by omega),?_,rfl,hS⟩
   ·
    intro k h0' h1';rcases Int.lt_or_eq_of_le (show k<=i by omega) with hk|hk;exact qa k h0' hk;rw [hk];omega
  refine zx8<|(zP)<|(zV (xln Xq hV.row.slh))<|(zP)<|(zP)<|zx1<|zf1 ⟨_,rfl,?_⟩
  exact⟨Zk (by exact⟨fun h5=>⟨fun k k0 k1=>qa k k0 (by omega),h5⟩,fun h5=>h5.few⟩),hS⟩
end Go.Proofs.YtkichmnjjblodaaGreat
namespace Go.Proofs.YtkichmnjjblodaaGreat
open Go Go.RowKit Go.Proofs.Gw
theorem ZaO{p:Prob}{b wi i:Int}(hs:ZD p b wi)(i0:0<=i)(i1:i<Zl p b wi):(ZV p wi i).Ok:=by
  obtain⟨h1,_⟩:=VR hs i0 i1
  refine Zht hs.1.1 fun k k0 k1=> ?_
  have h2:=h1.rng k k0 (by rw [<-hs.1.1.d];exact k1)
  omega
theorem U9:∀(t:Tr) {p:Prob} {b:Int},wrT t p b=none->∀{L:List (Int->Int)},LFit p L->(∀j,0<=j->j<p.m->p.D j<=XI L j)->b<L.length:=Tr.ind fun t ih p b h L hL hc=>by
  by_cases h0:t.n=0
  · by_cases hl:XP p b t.nl t.l
    · obtain⟨h1,h2,h3,h4⟩:=hl
      exact ZgK h3 h1.2.2 h4 hL hc
    · rw [Wj h0 hl] at h;cases h
  · by_cases hs:ZD p b t.s/\Zl p b t.s=t.n
    · rw [Wk h0 hs.1 hs.2] at h
      have hn:Zl p b t.s=(MX p t.s).length:=Yi hs.1
      obtain⟨hpo,hb1,⟨s0,s1⟩,hd,_⟩:=hs.1
      have hp:=hpo.1
      have he:=hp.all t.s s0 s1
      unfold Prob.each at he
      obtain⟨L1,a,L2,rfl,ha⟩:=ZeP (j:=t.s) (Int.le_trans (by omega) (hc t.s s0 s1))
      obtain⟨i,i0,i1,hi⟩:=RU (hL a (by simp)) s0 s1 ha (by omega)
      have hk:Tz t p b i=none:=ZcO h i i0 (by omega)
      have hok:=ZaO hs.1 i0 (by omega)
      have hL2:LFit p (L1++L2):=fun x hx=>hL x (by rcases List.mem_append.1 hx with hx|hx<;>simp [hx])
      have h5:=ih i i0 (by omega) hk (L:=L1++L2) (fun x hx=>by
          obtain⟨_,g2,g3,g4⟩:=hL2 x hx
          exact⟨hok,rfl,g3,g4⟩) (fun j j0 j1=>by
          have g1:=hc j j0 j1
          have g2:=hi j j0 j1
          have g3:=hL2.nn j0 j1
          rw [Tw,XI] at g1
          rw [Tw] at g3⊢
          show p.D j-YA (MX p t.s) i j<=_
          omega)
      rw [List.length_append] at h5⊢
      rw [List.length_cons]
      omega
    · rw [WF h0 hs] at h;cases h
theorem W0(f d:Int->Int):∀n:Nat,psum f d n=Zd (fun k=>f k*d k) n
  |0=>rfl
  | n+1=>by
    have:=W0 f d n
    simp only [psum,Zd,this]
theorem Ro{p:Prob}{u:Int}{ln cnt:Int->Int}{pt:Int->Int->Int}(h:PlanOk p u ln pt cnt/\∀j,0<=j->j<p.m->p.D j<=Zp u pt cnt j):∃L,LFit p L/\(∀j,0<=j->j<p.m->p.D j<=XI L j)/\(L.length:Int)=psum (fun _=>1) cnt u.toNat:=by
  obtain⟨⟨_,h1,h2⟩,h3⟩:=h
  obtain⟨L,g1,g2,g3⟩:=Rn (p:=p) (len:=ln) (pt:=pt) (cnt:=cnt) u.toNat fun i i0 i1=>by
    have:=h2 i i0 (by omega)
    exact⟨this.2.2,by omega⟩
  refine⟨L,g1,fun j j0 j1=> ?_,?_⟩
  · have:=h3 j j0 j1
    unfold Zp at this
    rw [g2];unfold X8
    rw [W0] at this;exact this
  · rw [g3,W0];exact Zj fun i _ _=>by rw [Int.one_mul]
end Go.Proofs.YtkichmnjjblodaaGreat
namespace Go.Proofs.Gw
open Go Go.RowKit
variable {w:Int}
def TpN(f:Int->Int):Nat->Int->Int
  |0=>f
  |d+1=>fun s=>TpN f d s+TpN f d (s+1)
theorem TT{f:Int->Int}(h:∀s,0<=f s):∀(d:Nat) (s:Int),0<=TpN f d s
  |0,s=>h s
  | d+1,s=>by
    have:=TT h d s;have:=TT h d (s+1)
    simp only [TpN];omega
theorem U3(f:Int->Int)(a:Nat):∀(b:Nat),TpN (TpN f a) b=TpN f (a+b)
  |0=>rfl
  | b+1=>by
    funext s
    have:=U3 f a b
    show TpN (TpN f a) b s+TpN (TpN f a) b (s+1)=TpN f (a+b) s+TpN f (a+b) (s+1)
    rw [this]
theorem Zad{f:Int->Int}(h:∀s,0<=f s)(s:Int):∀d:Nat,Zd (fun k=>f (s+k)) (d+1)<=TpN f d s
  |0=>by simp [Zd,TpN]
  | d +1=>by
    have h1:=Zad h s d
    have h2:f (s+1+d)<=TpN f d (s+1):=by
      have:=Zad h (s+1) d
      have h3:Zd (fun k=>f (s+1+k)) (d+1)=Zd (fun k=>f (s+1+k)) d+f (s+1+d):=rfl
      have h4:0<=Zd (fun k=>f (s+1+k)) d:=Z3 fun i _ _=>h _
      omega
    have h5:Zd (fun k=>f (s+k)) (d+1+1)=Zd (fun k=>f (s+k)) (d+1)+f (s+((d+1:Nat):Int)):=rfl
    have e:s+((d+1:Nat):Int)=s+1+d:=by omega
    rw [h5,e]
    simp only [TpN];omega
def YU{α:Type}(f:α->Int)(l:List α):Int:=(l.map f).sum
theorem ZdP{α:Type}(f:α->Int)(l m:List α):YU f (l++m)=YU f l+YU f m:=by simp [YU]
theorem ZaU{α:Type}(f:α->Int)(F:Int->List α)(lo:Int):∀c:Nat,YU f (dn F lo c)=Zd (fun k=>YU f (F (lo+k))) c
  |0=>rfl
  | c+1=>by
    have:=ZaU f F lo c
    show YU f (F (lo+c)++dn F lo c)=Zd _ c+_
    rw [ZdP,this];exact Int.add_comm _ _
def tl(p:Prob)(i:Int):Nat:=(ZN p-Zd p.D i.toNat).toNat
theorem WX{p:Prob}(hp:p.Ok):∀(c:Nat) {i:Int},0<=i->i+c<=p.m->Zd p.D i.toNat<=Zd p.D (i+c).toNat
  |0,i,_,_=>by simp
  | c+1,i,i0,h=>by
    have h1:=WX hp c i0 (by omega)
    have h2:=ZH p.D (i:=i+c) (by omega)
    have he:=hp.all (i+c) (by omega) (by omega)
    unfold Prob.each at he
    rw [show i+((c+1:Nat):Int)=i+c+1 by omega,h2];omega
theorem Zg2{p:Prob}(hp:p.Ok){i:Int}(i0:0<=i)(i1:i<p.m):tl p i=tl p (i+1)+(p.D i).toNat:=by
  have h2:=ZH p.D i0
  have h3:=WX hp (p.m-(i+1)).toNat (i:=i+1) (by omega) (by omega)
  rw [show i+1+((p.m-(i+1)).toNat:Int)=p.m by omega] at h3
  have he:=hp.all i i0 i1
  unfold Prob.each at he
  unfold tl ZN;omega
theorem Zjl(p:Prob):tl p p.m=0:=by unfold tl ZN;omega
theorem Zg1(p:Prob):(tl p 0:Nat)=(ZN p).toNat:=by unfold tl;simp [Zd]
theorem Va {p:Prob} (hp:p.Ok) {w:Int} {f:Int->Int} (hf:∀s,0<=f s):∀(j:Nat) {i l:Int} {a:Int->Int},(p.m-i).toNat=j->0<=i->i<=p.m->0<=l->
    (w<i->YU (fun x=>f (Zd x p.m.toNat)) (exI p w i a l)<=TpN f (tl p i) (Zd a i.toNat))/\
    (i<=w->w<p.m->1<=p.D w->YU (fun x=>f (Zd x p.m.toNat)) (exI p w i a l)<=TpN f (tl p i-1) (Zd a i.toNat+1))
  | 0,i,l,a,hj,h0,h1,hl=>by
    obtain rfl:i=p.m:=by omega
    refine⟨fun _=> ?_,fun g1 g2=>by omega⟩
    rw [Zjl]
    by_cases hm:Zaf p a l
    · rw [W9 rfl hm];simp [YU,TpN]
    · rw [Uq rfl hm];simpa [YU,TpN] using hf _
  | j + 1,i,l,a,hj,h0,h1,hl=>by
    have he:=hp.all i h0 (by omega)
    unfold Prob.each at he
    have hk1:=hp.k1
    have dR:=Zg2 hp h0 (show i<p.m by omega)
    rw [XK h0 (by omega),ZaU]
    have gY:most p i l<=p.D i:=by unfold most;omega
    have xa:∀k,0<=k->k<=most p i l->0<=l-k*(p.L i+p.kerf):=fun k k0 k1=>by
      have:=(XG hp h0 (by omega) hl k0 k1).2.2;omega
    have bt:∀k,Zd (upd a i k) (i+1).toNat=Zd a i.toNat+k:=fun k=>by
      rw [ZH _ h0,Zw]
      rw [Zj (g:=a) fun q q0 q1=>by rw [upd_ne _ _ (by omega)]]
    have zn:∀(g:Int->Int) (c:Nat) (d:Nat) (s:Int),(∀s,0<=g s)->(c:Int)<=d+1->Zd (fun k=>g (s+k)) c<=TpN g d s:=fun g c d s hg hc=>by
      refine Int.le_trans ?_ (Zad hg s d)
      have:∀n:Nat,c<=n->Zd (fun k=>g (s+k)) c<=Zd (fun k=>g (s+k)) n:=fun n=>by
        induction n with
        |zero=>intro h;rw [show c=0 by omega];exact Int.le_refl _
        | succ n ih=>
          intro h
          by_cases e:c=n+1
          · rw [e];exact Int.le_refl _
          · have:=ih (by omega);have:=hg (s+n);simp only [Zd];omega
      exact this (d+1) (by omega)
    refine⟨fun hw=> ?_,fun hw hwm hD=> ?_⟩
    · have hls:least w i=0:=by unfold least;rw [if_neg (by omega)]
      rw [hls,Int.sub_zero]
      have h5:Zd (fun k=>YU (fun x=>f (Zd x p.m.toNat)) (kid p w i a l (0+k))) (most p i l+1).toNat<=Zd (fun k=>TpN f (tl p (i+1)) (Zd a i.toNat+k)) (most p i l+1).toNat:=Z8 fun k k0 k1=>by
        have:=(Va hp (w:=w) hf j (i:=i+1) (l:=l-(0+k)*(p.L i+p.kerf)) (a:=upd a i (0+k)) (by omega) (by omega) (by omega) (xa (0+k) (by omega) (by omega))).1 (by omega)
        rw [bt,Int.zero_add] at this
        unfold kid;rw [Int.zero_add];exact this
      refine Int.le_trans h5 (Int.le_trans (zn _ _ (p.D i).toNat _ (TT hf _) (by omega)) ?_)
      rw [U3,<-dR];exact Int.le_refl _
    · by_cases e:w=i
      · subst e
        have hls:least w w=1:=by unfold least;rw [if_pos rfl]
        rw [hls]
        have h5:Zd (fun k=>YU (fun x=>f (Zd x p.m.toNat)) (kid p w w a l (1+k))) (most p w l+1-1).toNat<=Zd (fun k=>TpN f (tl p (w+1)) (Zd a w.toNat+1+k)) (most p w l+1-1).toNat:=Z8 fun k k0 k1=>by
          have:=(Va hp (w:=w) hf j (i:=w+1) (l:=l-(1+k)*(p.L w+p.kerf)) (a:=upd a w (1+k)) (by omega) (by omega) (by omega) (xa (1+k) (by omega) (by omega))).1 (by omega)
          rw [bt,show Zd a w.toNat+(1+k)=Zd a w.toNat+1+k by omega] at this
          unfold kid;exact this
        refine Int.le_trans h5 (Int.le_trans (zn _ _ ((p.D w).toNat-1) _ (TT hf _) (by omega)) ?_)
        rw [U3,show tl p (w+1)+((p.D w).toNat-1)=tl p w-1 by omega];exact Int.le_refl _
      · have hls:least w i=0:=by unfold least;rw [if_neg e]
        rw [hls,Int.sub_zero]
        have hw1:1<=tl p (i+1):=by
          have h7:=WX hp (w-(i+1)).toNat (i:=i+1) (by omega) (by omega)
          rw [show i+1+((w-(i+1)).toNat:Int)=w by omega] at h7
          have h8:=ZH p.D (i:=w) (by omega)
          have h9:=WX hp (p.m-(w+1)).toNat (i:=w+1) (by omega) (by omega)
          rw [show w+1+((p.m-(w+1)).toNat:Int)=p.m by omega] at h9
          unfold tl ZN;omega
        have h5:Zd (fun k=>YU (fun x=>f (Zd x p.m.toNat)) (kid p w i a l (0+k))) (most p i l+1).toNat<=Zd (fun k=>TpN f (tl p (i+1)-1) (Zd a i.toNat+1+k)) (most p i l+1).toNat:=Z8 fun k k0 k1=>by
          have:=(Va hp (w:=w) hf j (i:=i+1) (l:=l-(0+k)*(p.L i+p.kerf)) (a:=upd a i (0+k)) (by omega) (by omega) (by omega) (xa (0+k) (by omega) (by omega))).2 (by omega) hwm hD
          rw [bt,Int.zero_add,show Zd a i.toNat+k+1=Zd a i.toNat+1+k by omega] at this
          unfold kid;rw [Int.zero_add];exact this
        refine Int.le_trans h5 (Int.le_trans (zn _ _ (p.D i).toNat _ (TT hf _) (by omega)) ?_)
        rw [U3,show tl p (i+1)-1+(p.D i).toNat=tl p i-1 by omega];exact Int.le_refl _
theorem Zbw{p:Prob}(hp:p.Ok)(w0:0<=w)(w1:w<p.m)(hD:1<=p.D w){f:Int->Int}(hf:∀s,0<=f s):YU (fun x=>f (Zd x p.m.toNat)) (MX p w)<=TpN f ((ZN p).toNat-1) 1:=by
  have:=(Va hp hf _ (w:=w) (a:=fun _=>0) rfl (Int.le_refl 0) (by have:=hp.m1;omega) (show 0<=p.stock+p.kerf by have:=hp.s1;have:=hp.k1;omega)).2 w0 w1 hD
  rw [Zg1] at this
  simpa [MX,Zd] using this
def Gn(n:Int):Int:=if n<0 then 0 else [1,2,4,10,30,104,406].getD n.toNat 0
theorem Zjh(n:Int):0<=Gn n:=by
  unfold Gn;split
  · omega
  · rw [List.getD_eq_getElem?_getD]
    cases h: [(1:Int),2,4,10,30,104,406][n.toNat]? with
    |none=>simp
    | some x=>
      have:=List.mem_of_getElem? h
      simp at this;simp;omega
theorem six{P:Int->Prop}(h1:P 1)(h2:P 2)(h3:P 3)(h4:P 4)(h5:P 5)(h6:P 6):∀n:Int,1<=n->n<=6->P n:=fun n a b=>by
  have:n=1\/n=2\/n=3\/n=4\/n=5\/n=6:=by omega
  rcases this with rfl|rfl|rfl|rfl|rfl|rfl<;>assumption
theorem ZnE:∀n:Int,1<=n->n<=6->1+TpN (fun s=>Gn (n-s)) (n.toNat-1) 1<=Gn n:=six (by decide) (by decide) (by decide) (by decide) (by decide) (by decide)
theorem Zah:∀n:Int,0<=n->n<=6->1<=Gn n/\Gn n<=406:=fun n a b=>by
  by_cases e:n=0
  · subst e;decide
  · exact six (P:=fun n=>1<=Gn n/\Gn n<=406) (by decide) (by decide) (by decide) (by decide) (by decide) (by decide) n (by omega) b
theorem Zhl:∀n:Int,1<=n->n<=6->TpN (fun _=>1) (n.toNat-1) 1<=100:=six (by decide) (by decide) (by decide) (by decide) (by decide) (by decide)
theorem Rz{α:Type}:∀l:List α,YU (fun _=>(1:Int)) l=l.length
  | []=>rfl
  |a::l=>by have:=Rz l;simp only [YU,List.map_cons,List.sum_cons,List.length_cons] at*;omega
theorem ZgT{p:Prob}(hp:p.Ok)(w0:0<=w)(w1:w<p.m)(hD:1<=p.D w)(hn:ZN p<=6):((MX p w).length:Int)<=100/\1<=ZN p:=by
  have h1:1<=ZN p:=by
    have:=Xw (f:=p.D) (n:=p.m.toNat) w0 (by omega) (fun i i0 i1=>by
      have he:=hp.all i i0 (by omega)
      unfold Prob.each at he;omega)
    unfold ZN;omega
  refine⟨?_,h1⟩
  have h2:=Zbw hp w0 w1 hD (f:=fun _=>1) (fun _=>by omega)
  rw [Rz] at h2
  exact Int.le_trans h2 (Zhl _ h1 hn)
theorem Ry(f:(Int->Int)->Int):∀l:List (Int->Int),Zd (fun k=>f (YA l k)) l.length=YU f l
  | []=>rfl
  | a ::l=>by
    rw [List.length_cons,Vo]
    have e:Zd (fun i=>f (YA (a::l) (i+1))) l.length=Zd (fun i=>f (YA l i)) l.length:=Zj fun i i0 i1=>by
      unfold YA;rw [show(i+1).toNat=i.toNat+1 by omega];rfl
    rw [e,Ry f l];simp [YU,YA]
end Go.Proofs.Gw
namespace Go.Proofs.Gw
open Go Go.RowKit
variable {w:World}
def Tr.fr2(E T:TypeId):Tr->Frame| .nil=>Frame.bun []| .mk s vK n kid vL nl l=>Frame.bun [.own vK 3 E n (Ym kid),.own vL 1 T nl (ints l),.sem (Frame.all n fun i=>(kid i).fr2 E T)]
def UA:Tr->Prop
  | .nil=>True
  | .mk s vK n kid vL nl l=>((-9223372036854775808<=s/\s<=9223372036854775807)/\56*n<=140737488351232/\∀k,-9223372036854775808<=l k/\l k<=9223372036854775807)/\∀i,0<=i->i<n->UA (kid i)
theorem Tr.fr2_at{E T:TypeId}:∀t:Tr,UA t->(t.fr2 E T).holds w->KAt w t/\LvAt w t:=Tr.ind fun t ih hr hf=>by
  cases t with
  |nil=>exact⟨trivial,trivial⟩
  | mk s vK n kid vL nl l=>
    have hf':(Frame.bun [.own vK 3 E n (Ym kid),.own vL 1 T nl (ints l),.sem (Frame.all n fun i=>(kid i).fr2 E T)]).holds w:=hf
    have g1:=hf'.1 _ (List.mem_cons_self ..)
    have g2:=hf'.1 _ (List.mem_cons_of_mem _ (List.mem_cons_self ..))
    have g3:=hf'.1 (.sem _) (List.mem_cons_of_mem _ (List.mem_cons_of_mem _ (List.mem_cons_self ..)))
    have hr':((-9223372036854775808<=s/\s<=9223372036854775807)/\56*n<=140737488351232/\∀k,-9223372036854775808<=l k/\l k<=9223372036854775807)/\∀i,0<=i->i<n->UA (kid i):=hr
    obtain⟨⟨r1,r2,r3⟩,r4⟩:=hr'
    refine⟨⟨⟨g1.row,r2⟩,fun i i0 i1=>(ih i i0 i1 (r4 i i0 i1) (g3.1 i i0 i1)).1⟩,⟨⟨g2.row,r3⟩,Ent.holds.roomy g2,r1⟩,fun i i0 i1=>(ih i i0 i1 (r4 i i0 i1) (g3.1 i i0 i1)).2⟩
theorem Sat.tree2{w0:World}{l:List Ent}{E T:TypeId}{v vL:Value}{n nl:Int}{kid:Int->Tr}{f:Int->Int}(h:Sat w0 w (l++ [.own v 3 E n (Ym kid),.own vL 1 T nl (ints f),.sem (Frame.all n fun i=>(kid i).fr2 E T)]))(s:Int):Sat w0 w (l++ [.sem ((Tr.mk s v n kid vL nl f).fr2 E T)]):=by
  exact h.bundle (l2:= [.own v 3 E n (Ym kid),.own vL 1 T nl (ints f),.sem (Frame.all n fun i=>(kid i).fr2 E T)])
theorem Sat.tree0{w0:World}{l:List Ent}(h:Sat w0 w l)(E T:TypeId):Sat w0 w (l++ [.sem (Tr.nil.fr2 E T)]):=by
  refine h.comp (m:= [.sem (Tr.nil.fr2 E T)]) ⟨Below.refl _ _,?_,?_,List.pairwise_singleton _ _⟩
  · intro e he;obtain rfl:=List.mem_singleton.1 he;exact⟨fun e he=>(by cases he),List.Pairwise.nil⟩
  · intro e he g hg;obtain rfl:=List.mem_singleton.1 he;obtain⟨e,he,_⟩:=hg;cases he
end Go.Proofs.Gw
namespace Go.Proofs.YtkichmnjjblodaaGreat
open Go Go.RowKit Go.Proofs.Gw
variable {C b c e i lf m wi:Int} {cnt ln ln2 qe:Int->Int} {pt pt2:Int->Int->Int}
def PMt(p:Prob)(u:Int)(ln:Int->Int)(pt:Int->Int->Int)(cnt:Int->Int):Prop:=PlanOk p u ln pt cnt/\∀j,0<=j->j<p.m->p.D j<=Zp u pt cnt j
def brs(u:Int)(cnt:Int->Int):Int:=psum (fun _=>1) cnt u.toNat
def R0(p:Prob):Prop:=p.Ok/\∀j,0<=j->j<p.m->p.D j<=0
theorem Vm(p:Prob):psum (fun _=>1) p.D p.m.toNat=ZN p:=by
  rw [W0];exact Zj fun i _ _=>by rw [Int.one_mul]
theorem ZaR{p:Prob}(hp:p.Ok)(h:1<=ZN p):∃w,0<=w/\w<p.m/\1<=p.D w:=by
  obtain⟨k,k0,k1,k2⟩:=Rg (f:=p.D) (n:=p.m.toNat) h
  exact⟨k,k0,by omega,k2⟩
theorem BestR.tot{p:Prob}{out:Us}(h:BestR p out e)(hok:p.Ok):(e=0->ZN p<=1000)/\(ZN p<=1000->e=0):=by
  have hc:∀{l:Us} {e:Int},FFitR p l e->(e=0->ZN p<=1000)/\(ZN p<=1000->e=0):=fun {l e} hf=>by
    have h1:=hf.1
    unfold ChkR at h1
    rw [Vm] at h1
    rcases h1 with⟨g,_⟩|⟨_,g1,g2⟩|⟨_,g1,g2⟩
    · exact absurd hok g
    · exact⟨fun _=>by omega,fun _=>by omega⟩
    · exact⟨fun _=>by omega,fun _=>by omega⟩
  rcases h with⟨h1,h2,_⟩|⟨h1,l,h2,_⟩
  · exact hc h2
  · have:=hc h2;exact⟨fun _=>this.1 rfl,fun _=>h1⟩
theorem BestR.meets {p:Prob} {n:Int} (h:BestR p (plL n ln pt cnt) e) (hok:p.Ok) (he:e=0) (n0:0<=n):PMt p n ln pt cnt/\brs n cnt<=ZN p:=by
  have ht:=(BestR.tot h hok).1 he
  have hx:ExU p (plL n ln pt cnt):=by
    rcases h with⟨h1,_⟩|⟨_,l,h2,u,ml,mf,s,ec,u0,hc,h3⟩
    · exact absurd he h1
    · have hl:=h2.ex hok rfl
      rcases h3 with⟨_,h4⟩|⟨_,h3⟩
      · rw [h4];exact hl
      · rcases h3 with⟨h4,_⟩|⟨h4,_⟩|⟨_,x,f,y,g,hx,hy,h5⟩
        · omega
        · omega
        · rw [h5];exact VP (VP hl hx.ex) hy.ex
  obtain⟨⟨g1,g2,g3⟩,g4⟩:=hx.sound hok (by rw [Vm];exact ht) n0
  refine⟨⟨⟨g1,g2,fun k k0 k1=>⟨(g3 k k0 k1).2.1,(g3 k k0 k1).2.2,(g3 k k0 k1).1⟩⟩,fun j j0 j1=> ?_⟩,?_⟩
  · have:=g4 j j0 j1
    rw [Ku] at this
    unfold Zp;omega
  · have h5:=hx.few
    rw [Vm,Z6 _ n0] at h5
    exact h5
def Zmh(p:Prob)(b u:Int)(ln:Int->Int)(pt:Int->Int->Int)(cnt:Int->Int)(ok:Prop):Prop:=(ok->PMt p u ln pt cnt/\brs u cnt<=b)/\(ZN p<=b->ok)
theorem RY{p:Prob}{y z:Int->Int}:∀(j:Nat),(∀i,0<=i->i<(j:Int)->y i=z i)->Tab p y j=Tab p z j
  |0,_=>rfl
  | j+1,h=>by
    funext c
    have:=RY (p:=p) j fun i i0 i1=>h i i0 (by omega)
    simp only [Tab]
    rw [this,h j (by omega) (by omega)]
theorem ZdZ{p:Prob}{n q:Int}{y z:Int->Int}(hn:n=p.m->∀i,0<=i->i<p.m->y i=z i)(h:Chk p n y q=0):Chk p n z q=0/\YX p n z q=YX p n y q:=by
  obtain⟨hp,hf,he,hw⟩:=Gw.Xj h
  have hyz:=hn he
  have hm:=hp.m1
  have h1:Chk p n z q=0:=by
    refine ZfT hp ⟨hf.1,hf.2.1,fun k k0 k1=>by rw [<-hyz k k0 (by omega)];exact hf.2.2 k k0 k1⟩ he ?_
    unfold WS at hw⊢
    rw [<-RY (y:=y) p.m.toNat fun i i0 i1=>hyz i i0 (by omega)]
    omega
  refine⟨h1,?_⟩
  rw [Vw h1,Vw h]
  unfold Bnd
  rw [Ua,Ua,Zj (f:=fun i=>p.D i*z i) (g:=fun i=>p.D i*y i) fun i i0 i1=>by rw [hyz i i0 (by omega)]]
def lfn(m q:Int)(y:Int->Int):Int->Int:=fun k=>if 0<=k/\k<=m then consf q y k else 0
def LfR(p:Prob)(b n:Int)(l:Int->Int)(ok:Prop):Prop:=(ok->XP p b n l/\n<=40/\∀k,Zo (l k))/\(b=0->1<=ZN p->ok)
def Zdn(p:Prob)(c:Ct)(m:Int):Prop:=m<0\/(Chk p c.n c.y c.q=0/\m=YX p c.n c.y c.q)
theorem Vt{p:Prob}{b c b':Ct}{m':Int}(h:Zdn p b m)(ho:(b',m')=WL p (b,m) c e):Zdn p b' m'/\m<=m'/\(e=0->Chk p c.n c.y c.q=0->YX p c.n c.y c.q<=m'):=by
  by_cases hc:e=0/\Chk p c.n c.y c.q=0/\m<YX p c.n c.y c.q
  · rw [<-Ru hc.1 hc.2.1 hc.2.2] at ho
    obtain⟨rfl,rfl⟩:=Prod.mk.inj ho
    exact⟨.inr ⟨hc.2.1,rfl⟩,by omega,fun _ _=>Int.le_refl _⟩
  · rw [<-VS hc] at ho
    obtain⟨rfl,rfl⟩:=Prod.mk.inj ho
    refine⟨h,Int.le_refl _,fun h1 h2=> ?_⟩
    apply Classical.byContradiction;intro h3
    exact hc ⟨h1,h2,by omega⟩
theorem Rx{p:Prob}(hp:p.Ok):∀(j:Nat),(j:Int)<=p.m->∀c,0<=c->Tab p (fun k=>p.L k+p.kerf) j c<=c
  |0,_,c,hc=>hc
  | j+1,hj,c,hc=>by
    have h2:=hp.all j (by omega) (by omega)
    unfold Prob.each at h2
    have hk:=hp.k1
    simp only [Tab]
    obtain⟨n,h3,h4,h5⟩:=Zcm (Tab p (fun k=>p.L k+p.kerf) j) (p.L j+p.kerf) (p.L j+p.kerf) (p.D j).toNat c hc
    rw [h5]
    have:=Rx hp j (by omega) (c-n*(p.L j+p.kerf)) (by omega)
    omega
theorem ZcE{p:Prob}(hp:p.Ok):Chk p (VU p).n (VU p).y (VU p).q=0:=by
  have h1:=hp.s1;have h2:=hp.s2;have h3:=hp.k1;have h4:=hp.k2;have hm:=hp.m1
  refine ZfT hp ⟨by show 1<=p.stock+p.kerf;omega,by show p.stock+p.kerf<=_;omega,fun k k0 k1=> ?_⟩ rfl ?_
  · have he:=hp.all k k0 k1
    unfold Prob.each at he
    show 0<=p.L k+p.kerf/\p.L k+p.kerf<=_
    omega
  · have:=Rx hp p.m.toNat (by omega) (p.stock+p.kerf) (by omega)
    show¬p.stock+p.kerf<WS p fun k=>p.L k+p.kerf
    unfold WS;omega
theorem Zhp{p:Prob}(hp:p.Ok)(h:1<=ZN p):1<=YX p (VU p).n (VU p).y (VU p).q:=by
  rw [Vw (ZcE hp)]
  obtain⟨w,w0,w1,w2⟩:=ZaR hp h
  have h1:=hp.s1;have h3:=hp.k1
  have h5:1<=Tot p.D (VU p).y p.m.toNat:=by
    rw [Ua]
    have:=Xw (f:=fun i=>p.D i*(p.L i+p.kerf)) (n:=p.m.toNat) w0 (by omega) fun i i0 i1=>by
      have he:=hp.all i i0 (by omega);unfold Prob.each at he
      exact Int.mul_nonneg (by omega) (by omega)
    have he:=hp.all w w0 w1
    unfold Prob.each at he
    have h6:1*1<=p.D w*(p.L w+p.kerf):=Int.mul_le_mul w2 (by omega) (by omega) (by omega)
    show 1<=Zd (fun i=>p.D i*(p.L i+p.kerf)) p.m.toNat
    omega
  show 1<=(Tot p.D (VU p).y p.m.toNat+(p.stock+p.kerf)-1).tdiv (p.stock+p.kerf)
  rw [Int.tdiv_eq_ediv_of_nonneg (by omega)]
  exact(Int.le_ediv_iff_mul_le (by omega)).2 (by omega)
theorem DBestR.good{p:Prob}{c:Ct}(h:DBestR p c m e)(hp:p.Ok):e=0/\Zdn p c m/\(1<=ZN p->1<=m):=by
  rcases h with⟨g,_⟩|⟨_,he,c1,e1,c2,e2,c3,e3,h1,h2,h3,h4⟩
  · exact absurd hp g
  · refine⟨he,?_⟩
    obtain⟨b1,m1,ho1⟩:∃b m,(b,m)=WL p (Ct.zer,-1) c1 e1:=⟨_,_,rfl⟩
    rw [<-ho1] at h4
    obtain⟨b2,m2,ho2⟩:∃b m,(b,m)=WL p (b1,m1) c2 e2:=⟨_,_,rfl⟩
    rw [<-ho2] at h4
    have g1:=Vt (.inl (by omega)) ho1
    have g2:=Vt g1.1 ho2
    have g3:=Vt g2.1 h4
    refine⟨g3.1,fun hn=> ?_⟩
    rcases h2 with⟨g,_⟩|⟨_,rfl,rfl⟩
    · exact absurd hp g
    · have:=g2.2.2 rfl (ZcE hp)
      have:=Zhp hp hn
      omega
theorem Zhu {p:Prob} {n:Int} {c:Ct} (hpo:ZG p b) (h:Zdn p c m) (hb:b<m) (hn:n=c.n+1):XP p b n (lfn c.n c.q c.y)/\n<=40/\∀k,Zo (lfn c.n c.q c.y k):=by
  have hb0:=hpo.2.1
  rcases h with h|⟨h1,h2⟩
  · omega
  · obtain⟨hp,hf,he,_⟩:=Gw.Xj h1
    have hm1:=hp.m1;have hm2:=hp.m2
    have e0:lfn c.n c.q c.y 0=c.q:=by unfold lfn consf;rw [if_pos ⟨by omega,by omega⟩,if_pos (by omega)]
    have e1:∀k,0<=k->k<c.n->lfn c.n c.q c.y (k+1)=c.y k:=fun k k0 k1=>by
      unfold lfn consf;rw [if_pos ⟨by omega,by omega⟩,if_neg (by omega),show k+1-1=k by omega]
    have h3:=ZdZ (z:=fun k=>lfn c.n c.q c.y (k+1)) (fun _ i i0 i1=>(e1 i i0 (by omega)).symm) h1
    refine⟨⟨hpo,by omega,?_,?_⟩,by omega,fun k=> ?_⟩
    · rw [e0,show n-1=c.n by omega];exact h3.1
    · rw [e0,show n-1=c.n by omega,h3.2];omega
    · unfold Zo
      by_cases hk:0<=k/\k<=c.n
      · by_cases hk0:k=0
        · rw [hk0,e0];have:=hf.1;have:=hf.2.1;omega
        · have:=e1 (k-1) (by omega) (by omega)
          rw [show k-1+1=k by omega] at this
          rw [this];have:=hf.2.2 (k-1) (by omega) (by omega);omega
      · unfold lfn;rw [if_neg hk];omega
def WT(p:Prob)(b c:Int)(t:Tr)(u:Int)(ln:Int->Int)(pt:Int->Int->Int)(cnt:Int->Int)(ok:Prop)(lf:Int):Prop:=
  1<=c/\(ZN p<=6->c<=Gn (ZN p))/\(¬ok->Ub t/\u=0/\(ZN p<=6->lf<0))/\
  (ok->(Ub t/\PMt p u ln pt cnt/\brs u cnt<=b)\/(u=0/\wrT t p b=none/\(0<t.n\/0<t.nl)/\(t.ok/\UA t)/\(ZN p<=6->t.nodes=c/\t.depth<=ZN p+1)))
theorem Yn:Ub Tr.nil:=⟨rfl,rfl,rfl⟩
theorem UU{p:Prob}(hp:p.Ok):ZN p<=6->1<=Gn (ZN p):=fun h=>(Zah _ (Wd hp).1 h).1
theorem Zg8{p:Prob}(hp:p.Ok)(h:lf<0):WT p b 1 .nil 0 ln pt cnt False lf:=
  ⟨Int.le_refl _,UU hp,fun _=>⟨Yn,rfl,fun _=>h⟩,fun h=>h.elim⟩
theorem Zha{p:Prob}{u:Int}{ok:Prop}(hp:p.Ok)(h:Zmh p b u ln pt cnt ok)(ho:ok):WT p b 1 .nil u ln pt cnt True lf:=
  ⟨Int.le_refl _,UU hp,fun h=>absurd trivial h,fun _=> .inl ⟨Yn,h.1 ho⟩⟩
theorem Zez{x:Int}(h:Zo x): -9223372036854775808<=x/\x<=9223372036854775807:=by unfold Zo at h;omega
theorem Zeu{p:Prob}{nl:Int}{l:Int->Int}{vK vL:Value}{kid:Int->Tr}{ok:Prop}(hp:p.Ok)(h:LfR p b nl l ok)(ho:ok):WT p b 1 (.mk 0 vK 0 kid vL nl l) 0 ln pt cnt True lf:=by
  obtain⟨h1,h2,h3⟩:=h.1 ho
  refine⟨Int.le_refl _,UU hp,fun h=>absurd trivial h,fun _=> .inr ⟨rfl,Xl rfl h1,.inr ?_,⟨⟨⟨by show Zo 0;unfold Zo;omega,by show(0:Int)<=100;omega,h2,.inl rfl,fun _=>rfl,fun k _ _=>h3 k⟩,fun i i0 i1=>by omega⟩,⟨⟨by omega,by omega,fun k=>Zez (h3 k)⟩,fun i i0 i1=>by omega⟩⟩,fun hn=> ?_⟩⟩
  · have:=h1.2.1;show 0<nl;omega
  · have:=(Wd hp).1
    refine⟨rfl,?_⟩
    show IntKind.i64.wrap (0+1)<=_
    have:IntKind.i64.wrap (0+1)=1:=by decide
    omega
theorem Zax{p:Prob}{u2 nl:Int}{l:Int->Int}{ok1 ok2:Prop}(hpo:ZG p b)(h1:Zmh p b u2 ln2 pt2 qe ok1)(n1:¬ok1)(h2:LfR p b nl l ok2)(n2:¬ok2)(h3:∀wi,ZD p b wi->100<Zl p b wi):WT p b 1 .nil 0 ln pt cnt False lf:=by
  have hp:=hpo.1
  refine⟨Int.le_refl _,UU hp,fun _=>⟨Yn,rfl,fun hn=> ?_⟩,fun h=>h.elim⟩
  exfalso
  have h4:¬ZN p<=b:=fun h=>n1 (h1.2 h)
  have hb0:=hpo.2.1
  have h5:b≠0:=fun h=>n2 (h2.2 h (by omega))
  obtain⟨w,w0,w1,w2⟩:=ZaR hp (by omega)
  have h6:=(ZgT hp w0 w1 w2 hn).1
  have h7:ZD p b w:=⟨hpo,by omega,⟨w0,w1⟩,by omega,by omega⟩
  have:=h3 w h7
  rw [Yi h7] at this
  omega
theorem W5{p:Prob}(hs:ZD p b wi)(i0:0<=i)(i1:i<Zl p b wi):ZN (ZV p wi i)=ZN p-Zd (YA (MX p wi) i) p.m.toNat/\1<=Zd (YA (MX p wi) i) p.m.toNat:=by
  obtain⟨h1,h2⟩:=VR hs i0 i1
  have e:Zd (fun j=>p.D j-YA (MX p wi) i j) p.m.toNat+Zd (YA (MX p wi) i) p.m.toNat=Zd p.D p.m.toNat:=by
    rw [<-WW];exact Zj fun j _ _=>by omega
  have h3:=Xw (f:=YA (MX p wi) i) (n:=p.m.toNat) hs.2.2.1.1 (by have:=hs.2.2.1.2;omega) fun j j0 j1=>(h1.rng j j0 (by omega)).1
  refine⟨?_,by omega⟩
  show Zd (fun j=>p.D j-YA (MX p wi) i j) p.m.toNat=Zd p.D p.m.toNat-_
  omega
theorem ZaM{p:Prob}(hs:ZD p b wi)(hn:ZN p<=6):1+Zd (fun k=>Gn (ZN (ZV p wi k))) (Zl p b wi).toNat<=Gn (ZN p):=by
  have hp:=hs.1.1
  obtain⟨w0,w1⟩:=hs.2.2.1
  have hD:1<=p.D wi:=by have he:=hp.all wi w0 w1;unfold Prob.each at he;have:=hs.2.2.2.1;omega
  have h1:=(ZgT hp w0 w1 hD hn).2
  have h2:=Zbw hp w0 w1 hD (f:=fun s=>Gn (ZN p-s)) fun s=>Zjh _
  have h3:=ZnE _ h1 hn
  have h4:Zd (fun k=>Gn (ZN (ZV p wi k))) (Zl p b wi).toNat=YU (fun x=>Gn (ZN p-Zd x p.m.toNat)) (MX p wi):=by
    rw [<-Ry,Yi hs,Int.toNat_natCast]
    exact Zj fun k k0 k1=>by rw [(W5 hs k0 (by rw [Yi hs];exact k1)).1]
  omega
theorem ZdH{p:Prob}(hs:ZD p b wi)(hn:ZN p<=6)(i0:0<=i)(i1:i<=Zl p b wi):1+Zd (fun k=>Gn (ZN (ZV p wi k))) i.toNat<=Gn (ZN p):=by
  have h1:=ZaM hs hn
  have h2:∀c:Nat,Zd (fun k=>Gn (ZN (ZV p wi k))) i.toNat<=Zd (fun k=>Gn (ZN (ZV p wi k))) (i.toNat+c):=fun c=>by
    induction c with
    |zero=>exact Int.le_refl _
    |succ c ih=>have:=Zjh (ZN (ZV p wi ((i.toNat+c:Nat):Int)));show _<=Zd (fun k=>Gn (ZN (ZV p wi k))) (i.toNat+c)+Gn (ZN (ZV p wi ((i.toNat+c:Nat):Int)));omega
  have h3:=h2 (Zl p b wi-i).toNat
  rw [show i.toNat+(Zl p b wi-i).toNat=(Zl p b wi).toNat by omega] at h3
  omega
structure Upto (p:Prob) (b wi i C:Int) (kd:Int->Tr):Prop where
  one:1<=C
  few:ZN p<=6->C<=1+Zd (fun k=>Gn (ZN (ZV p wi k))) i.toNat
  all:∀k,0<=k->k<i->wrT (kd k) (ZV p wi k) (b-1)=none/\(kd k).ok/\UA (kd k)
  cnt:ZN p<=6->VF (fun k=>(kd k).nodes) i.toNat=C/\0<=Vg (fun k=>(kd k).depth) i.toNat/\Vg (fun k=>(kd k).depth) i.toNat<=ZN p
theorem Upto.start{p:Prob}(hp:p.Ok)(kd:Int->Tr):Upto p b wi 0 1 kd:=
  ⟨Int.le_refl _,fun _=>by simp [Zd],fun k k0 k1=>by omega,fun _=>⟨rfl,Int.le_refl _,(Wd hp).1⟩⟩
theorem Upto.calls{p:Prob}{kd:Int->Tr}{t:Tr}{u:Int}{ok:Prop}(h:Upto p b wi i C kd)(hs:ZD p b wi)(i0:0<=i)(i1:i<Zl p b wi)(hc:WT (ZV p wi i) (b-1) c t u ln pt cnt ok lf)(hn:ZN p<=6):C+c<=1+Zd (fun k=>Gn (ZN (ZV p wi k))) (i+1).toNat/\C+c<=Gn (ZN p):=by
  have h1:=W5 hs i0 i1
  have h2:=hc.2.1 (by omega)
  have h3:=h.few hn
  have h4:=ZH (fun k=>Gn (ZN (ZV p wi k))) i0
  have h5:=ZdH hs hn (i:=i+1) (by omega) (by omega)
  omega
theorem Upto.next{p:Prob}{kd:Int->Tr}{t:Tr}{u:Int}{ok:Prop}(h:Upto p b wi i C kd)(hs:ZD p b wi)(i0:0<=i)(i1:i<Zl p b wi)(hc:WT (ZV p wi i) (b-1) c t u ln pt cnt ok lf)(ho:ok)(hm:¬(0<u\/(t.n=0/\t.nl=0/\R0 (ZV p wi i)))):Upto p b wi (i+1) (C+c) (gsn kd i t):=by
  have h9:wrT t (ZV p wi i) (b-1)=none/\(t.ok/\UA t)/\(ZN (ZV p wi i)<=6->t.nodes=c/\t.depth<=ZN (ZV p wi i)+1):=by
    rcases hc.2.2.2 ho with⟨g1,g2,g3⟩|⟨g1,g2,g3,g4,g5⟩
    · exfalso
      have hu:¬0<u:=fun hu=>hm (.inl hu)
      refine hm (.inr ⟨g1.2.2,g1.2.1,g2.1.1,fun j j0 j1=> ?_⟩)
      have:=g2.2 j j0 j1
      unfold Zp at this
      rw [show u.toNat=0 by omega] at this
      exact this
    · exact⟨g2,g4,g5⟩
  have hc1:=hc.1
  have h1:=h.one
  refine⟨by omega,fun hn=>(h.calls hs i0 i1 hc hn).1,fun k k0 k1=> ?_,fun hn=> ?_⟩
  · by_cases e:k<i
    · rw [ZA e];exact h.all k k0 e
    · rw [ZJ e,show k=i by omega];exact⟨h9.1,h9.2.1⟩
  · obtain⟨q1,q2,q3⟩:=h.cnt hn
    have q4:=W5 hs i0 i1
    obtain⟨q5,q6⟩:=h9.2.2 (by omega)
    have q7:=(h.calls hs i0 i1 hc hn).2
    have q8:=Zah (ZN p) (Wd hs.1.1).1 hn
    have e1:VF (fun k=>(gsn kd i t k).nodes) i.toNat=VF (fun k=>(kd k).nodes) i.toNat:=Vn fun k k0 k1=>by rw [ZA (by omega)]
    have e2:Vg (fun k=>(gsn kd i t k).depth) i.toNat=Vg (fun k=>(kd k).depth) i.toNat:=Vu fun k k0 k1=>by rw [ZA (by omega)]
    rw [Ud _ i0,Uk _ i0,e1,e2,q1,YN,q5]
    refine⟨I64.wrap (by unfold I64;omega),by omega,by omega⟩
theorem Zg6{p:Prob}{kd:Int->Tr}{t:Tr}{u:Int}{ok:Prop}(h:Upto p b wi i C kd)(hs:ZD p b wi)(i0:0<=i)(i1:i<Zl p b wi)(hc:WT (ZV p wi i) (b-1) c t u ln pt cnt ok lf)(ho:¬ok):WT p b (C+c) .nil 0 ln2 pt2 qe False lf:=by
  have h1:=h.one;have h2:=hc.1
  refine⟨by omega,fun hn=>(h.calls hs i0 i1 hc hn).2,fun _=>⟨Yn,rfl,fun hn=> ?_⟩,fun h=>h.elim⟩
  have:=W5 hs i0 i1
  exact(hc.2.2.1 ho).2.2 (by omega)
theorem ZdT{p:Prob}{n:Int}{f:Int->Int}(hp:p.Ok)(h:FitsP (ZV p wi i) n f):FitsP p n f:=⟨hp,h.eq,h.all,h.used⟩
theorem WJ{f d g e:Int->Int}:∀n:Nat,(∀k,0<=k->k<(n:Int)->f k=g k/\d k=e k)->psum f d n=psum g e n
  |0,_=>rfl
  | n+1,h=>by
    have h1:=WJ n fun k k0 k1=>h k k0 (by omega)
    obtain⟨h2,h3⟩:=h n (by omega) (by omega)
    simp only [psum];rw [h1,h2,h3]
theorem Zet {p:Prob} {kd:Int->Tr} {t:Tr} {u:Int} {ok:Prop} {x:Int->Int} (h:Upto p b wi i C kd) (hs:ZD p b wi) (i0:0<=i) (i1:i<Zl p b wi) (hc:WT (ZV p wi i) (b-1) c t u ln pt cnt ok lf) (ho:ok) (hm:0<u\/(t.n=0/\t.nl=0/\R0 (ZV p wi i))) (u0:0<=u) {m9:Int} (hm9:m9=p.m) (hx:∀j,0<=j->j<p.m->x j=YA (MX p wi) i j):WT p b (C+c) .nil (u+1) (gsn ln u m9) (gsn pt u x) (snoc cnt u 1) True lf/\u<1000:=by
  subst hm9
  have h1:=h.one;have h2:=hc.1
  have hp:=hs.1.1
  obtain⟨m1,m2⟩:=VR hs i0 i1
  have hb1:=hs.1.2.2
  have hpl:PMt (ZV p wi i) u ln pt cnt/\brs u cnt<=b-1:=by
    rcases hc.2.2.2 ho with⟨g1,g2,g3⟩|⟨g1,g2,g3,g4,g5⟩
    · exact⟨g2,g3⟩
    · exfalso;omega
  obtain⟨⟨⟨_,k1,k2⟩,k3⟩,k4⟩:=hpl
  have hub:u<=brs u cnt:=by
    have:∀n:Nat,(n:Int)<=u->(n:Int)<=psum (fun _=>1) cnt n:=fun n=>by
      induction n with
      |zero=>intro _;simp [psum]
      | succ n ih=>
        intro hn
        have a1:=ih (by omega)
        have a2:=(k2 n (by omega) (by omega)).1
        simp only [psum];omega
    have a3:=this u.toNat (by omega)
    unfold brs;omega
  have hfx:FitsP p p.m x:=by
    refine RH hp (fun j j0 j1=>by rw [hx j j0 j1];exact(m1.rng j j0 j1).1) ?_
    rw [ZgZ hx];exact m1.used
  have hmk:∀j,Zp (u+1) (gsn pt u x) (snoc cnt u 1) j=Zp u pt cnt j+x j:=fun j=>by
    rw [Xh u0]
    have e:Zp u (gsn pt u x) (snoc cnt u 1) j=Zp u pt cnt j:=WJ _ fun k k0 k1=>⟨by show gsn pt u x k j=_;rw [ZA (by omega)],Zu (by omega)⟩
    rw [e,YN,Zv (by omega)];omega
  have hbr:brs (u+1) (snoc cnt u 1)=brs u cnt+1:=by
    unfold brs
    rw [YG _ _ u0,Zv (by omega),WJ (g:=fun _=>1) (e:=cnt) u.toNat fun k k0 k1=>⟨rfl,Zu (by omega)⟩]
    omega
  refine⟨⟨by omega,fun hn=>(h.calls hs i0 i1 hc hn).2,fun h=>absurd trivial h,fun _=> .inl ⟨Yn,⟨⟨hp,by omega,fun k k0 k1=> ?_⟩,fun j j0 j1=> ?_⟩,by omega⟩⟩,by omega⟩
  · by_cases e:k<u
    · rw [ZA e,ZA e,Zu e]
      obtain⟨a1,a2,a3⟩:=k2 k k0 e
      exact⟨a1,a2,ZdT hp a3⟩
    · rw [ZJ e,ZJ e,Zv e]
      exact⟨by omega,by omega,hfx⟩
  · rw [hmk,hx j j0 j1]
    have:=k3 j j0 j1
    have e:(ZV p wi i).D j=p.D j-YA (MX p wi) i j:=rfl
    omega
theorem Ze5{f:Int->Option (List Int)}:∀(c:Nat) (i:Int),(∀k,i<=k->k<i+c->f k=none)->fw f c i=none
  |0,_,_=>rfl
  | c+1,i,h=>by
    unfold fw
    rw [h i (by omega) (by omega)]
    exact Ze5 c (i+1) fun k k0 k1=>h k (by omega) (by omega)
theorem Zex{p:Prob}(hs:ZD p b wi):1<=Zl p b wi:=by
  have hp:=hs.1.1
  obtain⟨w0,w1⟩:=hs.2.2.1
  have he:=hp.all wi w0 w1
  unfold Prob.each at he
  have hz:ZC p (fun _=>0) p.m.toNat=0:=by
    unfold ZC
    rw [Zj (g:=fun _=>0) fun i i0 i1=>by simp]
    exact ZU _
  have h1:=U7 (p:=p) (f:=fun _=>0) w0 (n:=p.m.toNat) (by omega)
  have hf:FitsP p p.m (upd (fun _=>0) wi (0+1)):=RH hp (fun j j0 j1=>by by_cases e:j=wi;(rw [e,Gw.Zw];omega);(rw [Gw.upd_ne _ _ e];exact Int.le_refl _)) (by have h2:ZC p (Gw.upd (fun _=>0) wi (0+1)) p.m.toNat=ZC p (fun _=>0) p.m.toNat+(p.L wi+p.kerf):=h1;rw [h2,hz];omega)
  obtain⟨i,i0,i1,_⟩:=RU hf w0 w1 (by rw [Zw];omega) (by have:=hs.2.2.2.1;omega)
  rw [Yi hs];omega
theorem Zes{p:Prob}{kd:Int->Tr}{vK vL:Value}{l:Int->Int}(h:Upto p b wi (Zl p b wi) C kd)(hs:ZD p b wi)(hk:Zl p b wi<=100):WT p b C (.mk wi vK (Zl p b wi) kd vL 0 l) 0 ln pt cnt True lf\/¬(∀k,-9223372036854775808<=l k/\l k<=9223372036854775807):=by
  by_cases hl:∀k,-9223372036854775808<=l k/\l k<=9223372036854775807
  · left
    have h1:=Zex hs
    have hp:=hs.1.1
    obtain⟨w0,w1⟩:=hs.2.2.1
    have hm2:=hp.m2
    refine⟨h.one,fun hn=> ?_,fun h=>absurd trivial h,fun _=> .inr ⟨rfl,?_,.inl ?_,⟨⟨⟨?_,hk,?_,.inr rfl,fun h0=> ?_,fun k k0 k1=> ?_⟩,fun i i0 i1=>(h.all i i0 i1).2.1⟩,⟨⟨by omega,by omega,hl⟩,fun i i0 i1=>(h.all i i0 i1).2.2⟩⟩,fun hn=> ?_⟩⟩
    · have:=h.few hn;have:=ZaM hs hn;omega
    · rw [Wk (t:= .mk wi vK (Zl p b wi) kd vL 0 l) (by show Zl p b wi≠0;omega) hs rfl]
      refine Ze5 _ _ fun k k0 k1=> ?_
      exact(h.all k k0 (by have k1':k<0+((Zl p b wi-0).toNat:Int):=k1;omega)).1
    · show 0<Zl p b wi;omega
    · show Zo wi;unfold Zo;omega
    · show(0:Int)<=40;omega
    · have h0':Zl p b wi=0:=h0;omega
    · have k1':k<(0:Int):=k1;omega
    · obtain⟨q1,q2,q3⟩:=h.cnt hn
      refine⟨q1,?_⟩
      show IntKind.i64.wrap (Vg (fun k=>(kd k).depth) (Zl p b wi).toNat+1)<=_
      rw [I64.wrap (by unfold I64;omega)];omega
  · exact .inr hl
theorem ZiO{p:Prob}{u:Int}{t:Tr}{ok:Prop}(h:WT p b c t u ln pt cnt ok lf):u<=1000:=by
  by_cases ho:ok
  · rcases h.2.2.2 ho with⟨_,g,_⟩|⟨g,_⟩
    · exact g.1.2.1
    · omega
  · have:=(h.2.2.1 ho).2.1;omega
theorem ZdI{p:Prob}(hs:ZD p b wi)(i0:0<=i)(i1:i<Zl p b wi):ZG (ZV p wi i) (b-1):=⟨ZaO hs i0 i1,by have:=hs.2.1;omega,by have:=hs.1.2.2;omega⟩
theorem Zg9{p:Prob}{u:Int}{t:Tr}{ok:Prop}(h:WT p b c t u ln pt cnt ok lf)(ho:ok)(hm:0<u\/(t.n=0/\t.nl=0/\R0 p)):PMt p u ln pt cnt/\brs u cnt<=b:=by
  rcases h.2.2.2 ho with⟨g1,g2,g3⟩|⟨g1,g2,g3,g4,g5⟩
  · exact⟨g2,g3⟩
  · exfalso;omega
theorem Zg7{p:Prob}{u:Int}{t:Tr}{ok:Prop}(h:WT p b c t u ln pt cnt ok lf)(ho:ok)(hm:¬(0<u\/(t.n=0/\t.nl=0/\R0 p))):u=0/\wrT t p b=none/\(0<t.n\/0<t.nl)/\(t.ok/\UA t)/\(ZN p<=6->t.nodes=c/\t.depth<=ZN p+1):=by
  rcases h.2.2.2 ho with⟨g1,g2,g3⟩|h
  · exfalso
    have hu:¬0<u:=fun hu=>hm (.inl hu)
    refine hm (.inr ⟨g1.2.2,g1.2.1,g2.1.1,fun j j0 j1=> ?_⟩)
    have:=g2.2 j j0 j1
    unfold Zp at this
    rw [show u.toNat=0 by omega] at this
    exact this
  · exact h
theorem Zew{p:Prob}{u:Int}{t:Tr}{ok:Prop}(hp:p.Ok)(h:WT p b c t u ln pt cnt ok (20000-c))(ho:¬ok):6<ZN p:=by
  apply Classical.byContradiction;intro hn
  have h1:=(h.2.2.1 ho).2.2 (by omega)
  have h2:=h.2.1 (by omega)
  have h3:=Zah _ (Wd hp).1 (show ZN p<=6 by omega)
  omega
theorem Zev{p:Prob}{u:Int}{t:Tr}{ok:Prop}(hp:p.Ok)(h:WT p b c t u ln pt cnt ok lf)(hf:(t.ok/\UA t)/\(ZN p<=6->t.nodes=c/\t.depth<=ZN p+1))(hv:¬Yc t):6<ZN p:=by
  apply Classical.byContradiction;intro hn
  obtain⟨g1,g2⟩:=hf.2 (by omega)
  have h2:=h.2.1 (by omega)
  have h3:=Zah _ (Wd hp).1 (show ZN p<=6 by omega)
  exact hv ⟨hf.1.1,by omega,by omega⟩
theorem ZeM{p:Prob}{u n2:Int}(h:PMt p u ln pt cnt/\brs u cnt<=b)(hb:b<=1000)(hN:NormR (plL u ln pt cnt) (plL n2 ln2 pt2 qe))(u0:0<=u)(n0:0<=n2)(n1:n2<=u):PMt p n2 ln2 pt2 qe/\brs n2 qe<=b:=by
  obtain⟨⟨h1,h2⟩,h3⟩:=h
  have e1:brs n2 qe=brs u cnt:=by
    have:=hN.wsum (fun _=>1)
    rw [Z6 _ n0,Z6 _ u0] at this
    exact this
  have zX:∀x∈plL n2 ln2 pt2 qe,1<=x.2:=hN.pos fun x hx=>(Vs h1 x hx).1.1
  have hle:=(Zb2 zX).2
  have e2:Gw.wsum (fun _=>1) (plL n2 ln2 pt2 qe)=brs n2 qe:=Z6 _ n0
  have hP:PlanOk p n2 ln2 pt2 qe:=VO h1.1 (by have:=h1.2.1;omega) fun x hx=>by
    obtain⟨y,hy,he⟩:=hN.keys x hx
    have h5:=hle x hx
    refine⟨⟨zX x hx,by omega⟩,?_⟩
    rw [<-he];exact(Vs h1 y hy).2
  refine⟨⟨hP,fun j j0 j1=> ?_⟩,by omega⟩
  have h6:=h2 j j0 j1
  rw [h1.mk u0 j0 j1] at h6
  rw [hP.mk n0 j0 j1]
  unfold mkU at h6⊢
  rw [hN.wsum];exact h6
def RefR(p:Prob)(b:Int)(t:Tr)(u:Int)(ln:Int->Int)(pt:Int->Int->Int)(cnt:Int->Int)(e:Int):Prop:=
  (¬ZG p b/\Ub t/\u=0/\e=1)\/(ZG p b/\6<ZN p/\Ub t/\u=0/\e=9)\/(ZG p b/\e=0/\Ub t/\PMt p u ln pt cnt/\brs u cnt<=b)\/
  (ZG p b/\e=0/\u=0/\Yc t/\UA t/\wrT t p b=none/\(0<t.n\/0<t.nl))
def SolR6(p:Prob)(nb:Int)(t:Tr)(u:Int)(ln:Int->Int)(pt:Int->Int->Int)(cnt:Int->Int)(e:Int):Prop:=
  (¬p.Ok/\e=1/\nb=0/\Ub t/\u=0)\/(p.Ok/\6<ZN p/\e=9/\nb=0/\Ub t/\u=0)\/
  (p.Ok/\e=0/\PMt p u ln pt cnt/\brs u cnt=nb/\nb<=1000/\UA t/\((nb=0/\Ub t)\/(1<=nb/\Yc t/\wrT t p (nb-1)=none)))
theorem RefR.u{p:Prob}{b u e:Int}{t:Tr}{ln cnt:Int->Int}{pt:Int->Int->Int}(h:RefR p b t u ln pt cnt e):u<=1000:=by
  rcases h with⟨_,_,h,_⟩|⟨_,_,_,h,_⟩|⟨_,_,_,h,_⟩|⟨_,_,h,_⟩
  · omega
  · omega
  · exact h.1.2.1
  · omega
theorem RefR.err{p:Prob}{u:Int}{t:Tr}(h:RefR p b t u ln pt cnt e)(hp:ZG p b)(he:e≠0):6<ZN p:=by
  rcases h with⟨h,_⟩|⟨_,h,_⟩|⟨_,h,_⟩|⟨_,h,_⟩
  · exact absurd hp h
  · exact h
  · exact absurd h he
  · exact absurd h he
theorem RefR.plan{p:Prob}{u:Int}{t:Tr}(h:RefR p b t u ln pt cnt e)(he:e=0)(h1:¬0<t.n)(h2:¬0<t.nl):PMt p u ln pt cnt/\brs u cnt<=b:=by
  rcases h with⟨_,_,_,h⟩|⟨_,_,_,_,h⟩|⟨_,_,_,h3,h4⟩|⟨_,_,_,_,_,_,h⟩
  · omega
  · omega
  · exact⟨h3,h4⟩
  · omega
theorem RefR.tree{p:Prob}{u:Int}{t:Tr}(h:RefR p b t u ln pt cnt e)(he:e=0)(h1:0<t.n\/0<t.nl):Yc t/\UA t/\wrT t p b=none:=by
  rcases h with⟨_,_,_,h⟩|⟨_,_,_,_,h⟩|⟨_,_,h3,_⟩|⟨_,_,_,h1,h2,h3,_⟩
  · omega
  · omega
  · have:=h3.2.1;have:=h3.2.2;omega
  · exact⟨h1,h2,h3⟩
theorem Znx{p:Prob}{u:Int}(h:PMt p u ln pt cnt):0<=brs u cnt:=(Ui h.1).1
end Go.Proofs.YtkichmnjjblodaaGreat
namespace Go.Proofs.YtkichmnjjblodaaGreat
open Go Go.RowKit Go.Proofs.Gw
theorem Zi4:Zc Tryz.prog 57=true:=by kernel_rfl
theorem ZlE{vL vD:Value}{p:Prob}{b:Int}(w0:World)(h:PAt w0 vL vD p)(hpo:ZG p b):
    Calls Tryz.prog 61 [.agg #[vL,vD,.int .i64 p.stock,.int .i64 p.kerf,.int .i64 b]].toArray w0 fun e w=>∃v,e= .returned v/\∃r u pv ln pt cnt ok,v= .tuple #[r,B ok]/\Zmh p b u ln pt cnt ok/\Slh r u/\Sat w0 w [.own r 2 107 u (Zg pv cnt),.sem (Frame.rows 3 u pv ln pt)]:=by
  have hm:=h.L.slh.n0;have hm1:=h.L.slh.n1;have hd:=h.D.slh.n0;have hd1:=h.D.slh.n1;have hs:=h.is;have hk:=h.ik
  have hb1:=hpo.2.1;have hb2:=hpo.2.2
  refine zenG Tryz.func61 Tryz.ntmps61 fun w hS=> ?_
  refine zsr<|zla (xbx (cs:= [_,_,_,_,_]) hS) ?_;rintro _ w ⟨g1,rfl,hS⟩
  refine(zP)<|(zP)<|zlz<|(zV (xfb 0 fd_34_0))<|(zV (xlp 0 (ds:= [vL,vD,.int .i64 p.stock,.int .i64 p.kerf]) st_32 hS))<|zlc (xc0 Zi4) (ZgF (p:=p) w (h.below hS.below)) ?_;rintro _ w ⟨ai,yC,zF,zI,zR,zT,eT,rfl,qN,bU,ep,xP,hS'⟩
  replace hS:=(hS.comp hS').n3;clear hS'
  have cH:=fun k (k0:0<=k) (k1:k<yC)=>hS.slhIn 2 rfl k0 k1
  refine zs5 ?_
  refine zx7<|zdst [0,1,2] [0,1,2] 1000 mx_ hS ?_;clear hS;intro w hS
  refine(zDw 0 xmv)<|(zDw 1 xmv)<|(zDw 2 YJ)<|(zDw 3 xmv)<|zdb 15 ?_ ?_<;>intro hc
  ·
   refine(zDw 4 xmv)<|(zDw 6 (xfb 4 fd_34_1))<|(zDl 7 (fun w hS=>(xlb 0 pl_3 hS)))<|zdc 5 (xc0 Zbg) (V6 (u:=yC) (pv:=zF) (ln:=zI) (pt:=zR) (cnt:=zT) w (⟨(hS.rowN 1 rfl),fun k k0 k1=>hS.rowIn 2 rfl k0 k1,fun k k0 k1=>hS.roomIn 2 rfl k0 k1⟩:VAt _ ai yC zF zI zR zT) (by omega) (fun k k0 k1=>by have h8:=bU k k0 k1;omega)) ?_;rintro _ w ⟨rfl,hS'⟩
   replace hS:=hS.cmp hS';clear hS'
   refine⟨⟨fun _=>hS,hS⟩,?_⟩
   refine(zDw 8 Xb)<|(zDw 9 xpt)<|(zDw 10 xas)<|(zDw 11 xas)<|zdd<|ztn<|zrt<|zf2 ⟨_,rfl,?_⟩
   have hmt:=qN.meets hpo.1 (by omega) xP.n0
   exact⟨_,_,_,_,_,_,_,rfl,⟨fun hq=>⟨hmt.1,hq⟩,fun hq=>Int.le_trans hmt.2 hq⟩,xP,hS.pk [1,2]⟩
  refine(zDo 4)<|(zDo 6)<|(zDo 7)<|(zDo 5)<|(zDo 8)<|(zDw 9 xpf)<|(zDw 10 xas)<|(zDw 11 xas)<|zdd<|ztn<|zrt<|zf2 ⟨_,rfl,?_⟩
  exact⟨_,_,_,_,_,_,False,by rw [Zz not_false],⟨fun h=>h.elim,fun hq=>by have h8:=(qN.tot hpo.1).2 (by have:=hpo.2.2;omega);omega⟩,xP,hS.pk [1,2]⟩
end Go.Proofs.YtkichmnjjblodaaGreat
namespace Go.Proofs.YtkichmnjjblodaaGreat
open Go Go.RowKit Go.Proofs.Gw
theorem ZmL:Zc Tryz.prog 91=true:=by kernel_rfl
theorem Znh{vL vD:Value}{p:Prob}{b:Int}(w0:World)(h:PAt w0 vL vD p)(hpo:ZG p b):
    Calls Tryz.prog 62 [.agg #[vL,vD,.int .i64 p.stock,.int .i64 p.kerf,.int .i64 b]].toArray w0 fun e w=>∃v,e= .returned v/\∃r n l ok,v= .tuple #[r,B ok]/\LfR p b n l ok/\Slh r n/\Sat w0 w [.own r 1 3 n (ints l)]:=by
  have hm:=h.L.slh.n0;have hm1:=h.L.slh.n1;have hd:=h.D.slh.n0;have hd1:=h.D.slh.n1;have hs:=h.is;have hk:=h.ik
  have hb1:=hpo.2.1;have hb2:=hpo.2.2
  refine zenG Tryz.func62 Tryz.ntmps62 fun w hS=> ?_
  refine zsr<|zla (xbx (cs:= [_,_,_,_,_]) hS) ?_;rintro _ w ⟨g1,rfl,hS⟩
  refine(zP)<|(zP)<|zlz<|(zV (xfb 0 fd_34_0))<|(zV (xlp 0 (ds:= [vL,vD,.int .i64 p.stock,.int .i64 p.kerf]) st_32 hS))<|zlc (xc0 ZmL) (ZgE (p:=p) w (h.below hS.below)) ?_;rintro _ w ⟨gE,yY,jz,j5,rfl,qN,cv,hS'⟩
  replace hS:=(hS.comp hS').n2;clear hS'
  refine zs4 ?_
  refine zla (xal (cs:= [_,_]) UM hS) ?_;rintro _ w ⟨g2,rfl,hS⟩
  refine zle (xsw 2 st_98 hS (hd:=(Za cv.one (Za rfl Zi)))) ?_;clear hS;rintro w hS
  refine(zP)<|(zP)<|zx5<|(zP)<|(zP)<|(zP)<|zlb 16 ?_ ?_<;>intro hc
  ·
   iterate 4 refine zlo ?_
   refine(zP)<|zlt<|zct<|zsr ?_
   refine(zP)<|(zP)<|zx14<|zf2 ⟨_,rfl,?_⟩
   obtain⟨g1,g2,g3⟩:=qN.good hpo.1
   exact⟨_,0,fun _=>0,False,by rw [Zz not_false],⟨fun h=>h.elim,fun hb hn=>by have:=g3 hn;omega⟩,slh_nil,(hS.addnil 1 3 (ints fun _=>0)).sub (.cons _ (.cons _ (.cons _ (.cons_cons _ .slnil))))⟩
  refine(zP)<|(zV (xfb 4 fd_34_1))<|(zV (xlb 0 pl_3 hS))<|(zP)<|(zP)<|zlt<|Zf ?_ ?_<;>intro hc
  ·
   refine zsr<|(zP)<|(zP)<|zx14<|zf2 ⟨_,rfl,?_⟩
   obtain⟨g1,g2,g3⟩:=qN.good hpo.1
   exact⟨_,0,fun _=>0,False,by rw [Zz not_false],⟨fun h=>h.elim,fun hb hn=>by have:=g3 hn;omega⟩,slh_nil,(hS.addnil 1 3 (ints fun _=>0)).sub (.cons _ (.cons _ (.cons _ (.cons_cons _ .slnil))))⟩
  refine ZT<|(zV (xfb 1 fd_98_1))<|zlv (xlb 2 pl_3 hS) ?_
  have hgc:=(qN.good hpo.1).2.1.resolve_left (by omega)
  have hgn:=(Gw.Xj hgc.1).2.2.1;have hgm:=hpo.1.m2
  refine zla (xli (n:=1) (len:=1) (pv:= [(0,.int .i64 yY.q)]) (cs:= [.int .i64 yY.q]) (c:=ints (fun _=>yY.q)) Zb Zt hS) ?_;rintro v1 w ⟨hS,hv1⟩
  refine(zV (xfb 0 fd_98_0))<|(zV (xlb 2 pl_22 hS))<|zla (xap 3 (r:=yY.n+1) (f:=ints (consf yY.q yY.y)) Zb Zt hS (hS.rowN 1 rfl) (by exact RO _ _)) ?_;rintro v2 w ⟨hS,hv2⟩
  refine(zP)<|(zP)<|zx1<|zf2 ⟨_,rfl,?_⟩
  obtain⟨g1,g2,g3⟩:=qN.good hpo.1
  replace hS:=hS.recont 3 rfl (d:=ints (lfn yY.n yY.q yY.y)) (fun k k0 k1=>by unfold ints lfn;rw [if_pos ⟨k0,by omega⟩])
  exact⟨_,_,_,True,by rw [ZK trivial],⟨fun _=>Zhu hpo g2 (by omega) (by omega),fun _ _=>trivial⟩,hv2,hS.pk [3]⟩
end Go.Proofs.YtkichmnjjblodaaGreat
namespace Go.Proofs.YtkichmnjjblodaaGreat
open Go Go.RowKit Go.Proofs.Gw
def ZnU(p:Prob)(b i:Int):Prop:= -1<=i/\(0<=i->ZD p b i/\Zl p b i<=100)/\(i<0->∀wi,ZD p b wi->100<Zl p b wi)
theorem ZdG{p:Prob}{b i:Int}(h:i<0):Zl p b i=0:=Xg fun hs=>by have:=hs.2.2.1.1;omega
theorem ZlD{vL vD:Value}{p:Prob}{b:Int}(w0:World)(h:PAt w0 vL vD p):
    Calls Tryz.prog 63 [.agg #[vL,vD,.int .i64 p.stock,.int .i64 p.kerf,.int .i64 b]].toArray w0 fun e w=>∃v,e= .returned v/\∃i r vv,v= .tuple #[.int .i64 i,r,B (0<=i)]/\ZnU p b i/\Slh r (Zl p b i)/\Sat w0 w [.own r 5 34 (Zl p b i) (ZE vv p.stock p.kerf (b-1)),.sem (Frame.rows 3 (2*Zl p b i) vv (fun _=>p.m) (gfn p (MX p i)))]:=by
  have hm:=h.L.slh.n0;have hm1:=h.L.slh.n1;have hd:=h.D.slh.n0;have hd1:=h.D.slh.n1;have hs:=h.is;have hk:=h.ik
  refine zenG Tryz.func63 Tryz.ntmps63 fun w hS=> ?_
  refine zsr<|zla (xbx (cs:= [_,_,_,_,_]) hS) ?_;rintro _ w ⟨g1,rfl,hS⟩
  refine(zP)<|(zP)<|(zP)<|zlz<|(zP)<|zlz<|(zP)<|zx5<|(zV (xfb 0 fd_34_0))<|(zV (xfb 1 fd_32_1))<|(zV (xlb 0 pl_22 hS))<|(zV (xln Zb h.D.slh))<|(zP)<|zx6 ?_
  replace hS:=(hS.addnil 5 34 (ZE (fun _=>Value.slice none 0 0) p.stock p.kerf (b-1))).addrows 3 (fun _=>Value.slice none 0 0) (fun _=>p.m) (gfn p (MX p (-1)))
  replace hS:=hS.rowsn 2 rfl (show(0:Int)=2*0 from rfl)
  refine zlp (fun mm M w=>∃(nB:Int) (vvB:Int->Value) (wB:Value) (j:Int) (i:Int),mm=((p.d-i).toNat)/\(0<=i)/\(i<=p.d)/\(-1<=j)/\(Slh wB nB)/\(nB=Zl p b j)/\(0<=j->ZD p b j/\Zl p b j<=100)/\(j<0->∀wi,0<=wi->wi<i->ZD p b wi->100<Zl p b wi)/\M= [(1,.pointer (some ⟨g1,0,none⟩)),(2,.int .i64 0),(3,.slice none 0 0),(4,.bool false),(5,.int .i64 j),(6,wB),(13,vD),(14,.int .i64 p.d),(15,.int .i64 i)]/\Sat w0 w [.blk g1 [vL,vD,.int .i64 p.stock,.int .i64 p.kerf,.int .i64 b],.own wB 5 34 nB (ZE vvB p.stock p.kerf (b-1)),.sem (Frame.rows 3 (2*nB) vvB (fun _=>p.m) (gfn p (MX p j)))]) ⟨0,(fun _=>Value.slice none 0 0),(.slice none 0 0),(-1),0,rfl,(by omega),(by omega),(by omega),?_,?_,?_,?_,rfl,hS⟩ ?_
  ·
   exact slh_nil
  ·
   exact(ZdG (by omega)).symm
  ·
   intro hh;omega
  ·
   intro hh wi w0 w1;omega
  clear hS w
  rintro mm M w ⟨nB,vvB,wB,j,i,rfl,h0,h1,hj,hwB,hnB,hsp,hno,rfl,hS⟩
  have hrB:∀k,0<=k->k<2*nB->Slh (vvB k) p.m:=fun k k0 k1=>hS.slhIn 2 rfl k0 k1
  refine zsr<|(zP)<|zx7<|Zf ?_ ?_<;>intro hc
  ·
   refine zx3<|(zP)<|(zV (xix (kk:=i) Zb h.D.slh))<|zlv (xlr (u:= .int .i64 (p.D i)) pl_3 (h.D.below hS.below)) ?_
   have hbv:=h.iD i
   refine(zP)<|(zP)<|zx5<|(zP)<|(zP)<|zlt<|Zf ?_ ?_<;>intro hc
   ·
    refine zxt<|ztx<|zbh<|ztn<|zrg<|(zV (Zh (r:=i+1)))<|(zP)<|zln<|zlq ⟨nB,vvB,wB,j,i+1,rfl,(by omega),(by omega),(by omega),?_,?_,?_,?_,rfl,hS⟩
    ·
     exact hwB
    ·
     first|exact hnB|rfl
    ·
     first|exact hsp|exact fun _=>⟨by assumption,by omega⟩
    ·
     first
     |(intro hh;omega)
     |(intro hh wi w0 w1 hs;rcases Int.lt_or_eq_of_le (show wi<=i by omega) with h9|h9;exact hno hh wi w0 h9 hs;rw [h9] at hs⊢;first|omega|exact absurd hs ‹¬ZD p b i›|exact absurd (by omega) hs.2.2.2.1)
   refine ZT<|(zV (xls 0 Yw hS))<|(zP)<|zlc (xc0 Zjd) (Zda (p:=p) (b:=b) (wi:=i) w (h.below hS.below)) ?_;rintro _ w ⟨dh,cg,rfl,y6,hS'⟩
   replace hS:=(hS.comp hS').n5;clear hS'
   have gN:∀k,0<=k->k<2*(Zl p b i)->Slh (cg k) p.m:=fun k k0 k1=>hS.slhIn 4 rfl k0 k1
   refine zs2 ?_
   have jG:=y6.n0
   refine(zP)<|(zP)<|(zP)<|zlz<|(zP)<|(zP)<|zlb 29 ?_ ?_<;>intro hc
   ·
    refine(zP)<|(zV (xln VH y6))<|(zP)<|(zP)<|(zP)<|zlb 34 ?_ ?_<;>intro hc
    ·
     refine(zP)<|(zP)<|(zP)<|zlb 37 ?_ ?_<;>intro hc
     ·
      iterate 5 refine zlo ?_
      refine(zP)<|(zP)<|zlt<|zct<|zrg ?_
      refine zs4 ?_
      refine zx10<|(zV (Zh (r:=i+1)))<|(zP)<|zln<|zlq ⟨(Zl p b i),cg,dh,i,i+1,rfl,(by omega),(by omega),(by omega),?_,?_,?_,?_,rfl,hS.pk [0,3,4]⟩
      ·
       exact y6
      ·
       first|exact hnB|rfl
      ·
       first|exact hsp|exact fun _=>⟨by assumption,by omega⟩
      ·
       first
       |(intro hh;omega)
       |(intro hh wi w0 w1 hs;rcases Int.lt_or_eq_of_le (show wi<=i by omega) with h9|h9;exact hno hh wi w0 h9 hs;rw [h9] at hs⊢;first|omega|exact absurd hs ‹¬ZD p b i›|exact absurd (by omega) hs.2.2.2.1)
     refine(zP)<|(zV (xln VH y6))<|(zP)<|(zV (xln VH hwB))<|(zP)<|(zP)<|(zP)<|zlt<|Zf ?_ ?_<;>intro hc
     ·
      refine zrg<|zs4 ?_
      refine zx10<|(zV (Zh (r:=i+1)))<|(zP)<|zln<|zlq ⟨(Zl p b i),cg,dh,i,i+1,rfl,(by omega),(by omega),(by omega),?_,?_,?_,?_,rfl,hS.pk [0,3,4]⟩
      ·
       exact y6
      ·
       first|exact hnB|rfl
      ·
       first|exact hsp|exact fun _=>⟨by assumption,by omega⟩
      ·
       first
       |(intro hh;omega)
       |(intro hh wi w0 w1 hs;rcases Int.lt_or_eq_of_le (show wi<=i by omega) with h9|h9;exact hno hh wi w0 h9 hs;rw [h9] at hs⊢;first|omega|exact absurd hs ‹¬ZD p b i›|exact absurd (by omega) hs.2.2.2.1)
     refine zx4<|(zV (Zh (r:=i+1)))<|(zP)<|zln<|zlq ⟨nB,vvB,wB,j,i+1,rfl,(by omega),(by omega),(by omega),?_,?_,?_,?_,rfl,hS.pk [0,1,2]⟩
     ·
      exact hwB
     ·
      first|exact hnB|rfl
     ·
      first|exact hsp|exact fun _=>⟨by assumption,by omega⟩
     ·
      first
      |(intro hh;omega)
      |(intro hh wi w0 w1 hs;rcases Int.lt_or_eq_of_le (show wi<=i by omega) with h9|h9;exact hno hh wi w0 h9 hs;rw [h9] at hs⊢;first|omega|exact absurd hs ‹¬ZD p b i›|exact absurd (by omega) hs.2.2.2.1)
    iterate 9 refine zlo ?_
    refine(zP)<|zlt<|zcf<|zsk<|zbn<|ztn<|zrg ?_
    refine(zV (Zh (r:=i+1)))<|(zP)<|zln<|zlq ⟨nB,vvB,wB,j,i+1,rfl,(by omega),(by omega),(by omega),?_,?_,?_,?_,rfl,hS.pk [0,1,2]⟩
    ·
     exact hwB
    ·
     first|exact hnB|rfl
    ·
     first|exact hsp|exact fun _=>⟨by assumption,by omega⟩
    ·
     first
     |(intro hh;omega)
     |(intro hh wi w0 w1 hs;rcases Int.lt_or_eq_of_le (show wi<=i by omega) with h9|h9;exact hno hh wi w0 h9 hs;rw [h9] at hs⊢;first|omega|exact absurd hs ‹¬ZD p b i›|exact absurd (by omega) hs.2.2.2.1)
   iterate 3 refine zlo ?_
   refine zs2 ?_
   iterate 9 refine zlo ?_
   refine(zP)<|zlt<|zcf<|zsk<|zbn<|ztn<|zrg ?_
   refine(zV (Zh (r:=i+1)))<|(zP)<|zln<|zlq ⟨nB,vvB,wB,j,i+1,rfl,(by omega),(by omega),(by omega),?_,?_,?_,?_,rfl,hS.pk [0,1,2]⟩
   ·
    exact hwB
   ·
    first|exact hnB|rfl
   ·
    first|exact hsp|exact fun _=>⟨by assumption,by omega⟩
   ·
    first
    |(intro hh;omega)
    |(intro hh wi w0 w1 hs;rcases Int.lt_or_eq_of_le (show wi<=i by omega) with h9|h9;exact hno hh wi w0 h9 hs;rw [h9] at hs⊢;first|omega|exact absurd hs ‹¬ZD p b i›|exact absurd (by omega) hs.2.2.2.1)
  refine zx8<|zs6 ?_
  refine(zP)<|zx1<|zf3 ⟨_,rfl,?_⟩
  subst hnB
  exact⟨_,_,_,rfl,⟨hj,hsp,fun hh wi hs=>hno hh wi hs.2.2.1.1 (by have:=hs.2.2.1.2;have:=hs.1.1.d;omega) hs⟩,hwB,hS.pk [1,2]⟩
end Go.Proofs.YtkichmnjjblodaaGreat
namespace Go.Proofs.YtkichmnjjblodaaGreat
open Go Go.RowKit Go.Proofs.Gw
theorem ZgY{w:World}{pv:Int->Value}{ln cnt:Int->Int}{pt:Int->Int->Int}:VAt w (.slice none 0 0) 0 pv ln pt cnt:=⟨UV _ _ _,fun i i0 i1=>by omega,fun i i0 i1=>by omega⟩
theorem Rv{p:Prob}{ln cnt:Int->Int}{pt:Int->Int->Int}:(PlanOk p 0 ln pt cnt/\∀j,0<=j->j<p.m->p.D j<=Zp 0 pt cnt j)↔R0 p:=
  ⟨fun h=>⟨h.1.1,fun j j0 j1=>h.2 j j0 j1⟩,fun h=>⟨⟨h.1,by omega,fun k k0 k1=>by omega⟩,fun j j0 j1=>h.2 j j0 j1⟩⟩
theorem Zgg{vL vD:Value}{p:Prob}{b:Int}{s9 n9 nl9 u:Int}{vK vL9 vV:Value}(w0:World)(h:PAt w0 vL vD p)(hk9:Slh vK n9)(hl9:Slh vL9 nl9)(hv9:Slh vV u):
    Calls Tryz.prog 64 [.agg #[vL,vD,.int .i64 p.stock,.int .i64 p.kerf,.int .i64 b],.agg #[.int .i64 s9,vK,vL9],vV].toArray w0 fun e w=>∃v,e= .returned v/\v=B (0<u\/(n9=0/\nl9=0/\R0 p))/\Sat w0 w []:=by
  have hm:=h.L.slh.n0;have hm1:=h.L.slh.n1;have hd:=h.D.slh.n0;have hd1:=h.D.slh.n1;have hs:=h.is;have hk:=h.ik
  have hn9:=hk9.n0;have jL:=hl9.n0;have hu9:=hv9.n0
  refine zenG Tryz.func64 Tryz.ntmps64 fun w hS=> ?_
  refine zsr<|zla (xbx (cs:= [_,_,_,_,_]) hS) ?_;rintro _ w ⟨g1,rfl,hS⟩
  refine zla (xbx (cs:= [_,_,_]) hS) ?_;rintro _ w ⟨g2,rfl,hS⟩
  refine(zP)<|zlz<|(zP)<|(zV (xln ZO hv9))<|(zP)<|(zP)<|zlb 10 ?_ ?_<;>intro hc
  ·
   iterate 15 refine zlo ?_
   refine(zP)<|(zP)<|zx1<|zf1 ⟨_,rfl,?_⟩
   exact⟨Z7 (.inl (by omega)),hS.nl⟩
  refine(zV (xfb 1 fd_54_1))<|(zV (xlb 1 XF hS))<|(zV (xln YM hk9))<|(zP)<|(zP)<|zlb 15 ?_ ?_<;>intro hc
  ·
   refine(zV (xfb 2 fd_54_2))<|(zV (xlb 1 pl_22 hS))<|(zV (xln Zb hl9))<|(zP)<|(zP)<|(zP)<|zlb 21 ?_ ?_<;>intro hc
   ·
    refine(zV (xfb 0 fd_34_0))<|(zV (xlp 0 (ds:= [vL,vD,.int .i64 p.stock,.int .i64 p.kerf]) st_32 hS))<|zlc (xc0 Zfz) (TP (u:=0) (pv:=fun _=>undef) (ln:=fun _=>0) (pt:=fun _ _=>0) (cnt:=fun _=>0) (p:=p) w ZgY (h.below hS.below)) ?_;rintro _ w ⟨rfl,hS'⟩
    replace hS:=hS.cmp hS';clear hS'
    refine(zP)<|(zP)<|(zP)<|zx1<|zf1 ⟨_,rfl,?_⟩
    exact⟨Zk ⟨fun hh=> .inr ⟨by omega,by omega,Rv.1 hh⟩,fun hh=>by rcases hh with hh|⟨g1,g2,g3⟩;omega;exact Rv.2 g3⟩,hS.nl⟩
   iterate 3 refine zlo ?_
   refine(zP)<|(zP)<|(zP)<|zx1<|zf1 ⟨_,rfl,?_⟩
   exact⟨Ze (by rintro(hh|⟨g1,g2,g3⟩)<;>omega),hS.nl⟩
  iterate 4 refine zlo ?_
  refine zs2 ?_
  iterate 3 refine zlo ?_
  refine(zP)<|(zP)<|(zP)<|zx1<|zf1 ⟨_,rfl,?_⟩
  exact⟨Ze (by rintro(hh|⟨g1,g2,g3⟩)<;>omega),hS.nl⟩
end Go.Proofs.YtkichmnjjblodaaGreat
namespace Go.Proofs.YtkichmnjjblodaaGreat
open Go Go.RowKit Go.Proofs.Gw
variable {cnt:Int->Int} {pv:Int->Value}
theorem ZnO(w:World)(a:Addr)(n c:Nat):(binOp .eql 60 (.slice (some a) n c) (.slice none 0 0)).run Tryz.prog w= .ok (.bool false) w:=by kernel_rfl
theorem ZmB(w:World):(binOp .eql 60 (.slice none 0 0) (.slice none 0 0)).run Tryz.prog w= .ok (.bool true) w:=by kernel_rfl
theorem ZnH{L:List (Nat×Value)}{w:World}{o:Oper}{x y:Operand}{T':TypeId}{a:Addr}{n c:Nat}(ho:o.op= .binOp .eql 60 x y T':=by exact rfl)(hx:evL L x=some (.slice (some a) n c):=by exact rfl)(hy:evL L y=some (.slice none 0 0):=by exact rfl):Runs Tryz.prog L w o (.value (.bool false)) w:=fun ρ h=>by
  simp [execOp,ho,h _ _ hx,h _ _ hy,ZnO];rfl
theorem Zmk{L:List (Nat×Value)}{w:World}{o:Oper}{x y:Operand}{T':TypeId}(ho:o.op= .binOp .eql 60 x y T':=by exact rfl)(hx:evL L x=some (.slice none 0 0):=by exact rfl)(hy:evL L y=some (.slice none 0 0):=by exact rfl):Runs Tryz.prog L w o (.value (.bool true)) w:=fun ρ h=>by
  simp [execOp,ho,h _ _ hx,h _ _ hy,ZmB];rfl
theorem ZbE{n k:Int}(h1:∀k,0<=k->k<n->(pv k).oneCell'=true)(k0:0<=k)(k1:k<n*((2:Nat):Int)):(Zg pv cnt k).oneCell'=true:=by
  unfold Zg;split
  · exact h1 _ (by omega) (by omega)
  · rfl
theorem Zl7{g9 m9 c9:Nat}{n:Int}(w0:World)(hR:Row w0 (.slice (some ⟨g9,0,none⟩) m9 c9) 2 n (Zg pv cnt))(h1:∀k,0<=k->k<n->(pv k).oneCell'=true)(hn5:n<=1000000):
    Calls Tryz.prog 66 [(.slice (some ⟨g9,0,none⟩) m9 c9)].toArray w0 fun e w=>∃v,e= .returned v/\∃r,v=r/\Slh r n/\Sat w0 w [.own r 2 107 n (Zg pv cnt)]:=by
  have hn:=hR.slh.n0;have hn1:=hR.slh.n1
  refine zenG Tryz.func66 Tryz.ntmps66 fun w hS=> ?_
  refine zsr<|(zP)<|zx5<|(zP)<|(zV ZnH)<|zlt<|zcf<|zsk<|ztn<|zsr ?_
  refine zla (xl0 (c:=Zg pv cnt) ZO hS) ?_;rintro v1 w ⟨hS,hv1⟩
  refine(zP)<|zla (xap 0 (r:=n) (f:=Zg pv cnt) ZO Yo hS (hR.below hS.below) (by exact Yh _ _) (h1:=(fun k k0 k1=>ZbE h1 k0 k1))) ?_;rintro v2 w ⟨hS,hv2⟩
  refine(zP)<|zx1<|zf1 ⟨_,rfl,?_⟩
  exact⟨_,rfl,hv2,hS⟩
theorem Zl8(w0:World):
    Calls Tryz.prog 66 [.slice none 0 0].toArray w0 fun e w=>∃v,e= .returned v/\∃r,v=r/\Slh r 0/\Sat w0 w [.own r 2 107 0 (Zg pv cnt)]:=by
  refine zenG Tryz.func66 Tryz.ntmps66 fun w hS=> ?_
  refine zsr<|(zP)<|zx5<|(zP)<|(zV Zmk)<|zlt<|zct<|zsr ?_
  refine(zP)<|zx14<|zf1 ⟨_,rfl,?_⟩
  exact⟨_,rfl,slh_nil,(hS.sub .slnil).addnil 2 107 (Zg pv cnt)⟩
theorem Znu{x:Value}{n:Int}(w0:World)(ho:(Ent.own x 2 107 n (Zg pv cnt)).holds w0)(h1:∀k,0<=k->k<n->(pv k).oneCell'=true)(hn:n<=1000000):Calls Tryz.prog 66 [x].toArray w0 fun e w=>∃v,e= .returned v/\∃r,v=r/\Slh r n/\Sat w0 w [.own r 2 107 n (Zg pv cnt)]:=by
  have qt:=ho.row
  obtain⟨hn0,hn1,⟨rfl,rfl⟩|⟨g,cap,cur,rfl,_⟩⟩:=ho
  · exact Zl8 w0
  · exact Zl7 w0 qt h1 hn
end Go.Proofs.YtkichmnjjblodaaGreat
namespace Go.Proofs.YtkichmnjjblodaaGreat
open Go Go.RowKit Go.Proofs.Gw
theorem Zi3:Zc Tryz.prog 60=true:=by kernel_rfl
theorem ZmV:Zc Tryz.prog 61=true:=by kernel_rfl
theorem ZmU:Zc Tryz.prog 62=true:=by kernel_rfl
theorem ZmT:Zc Tryz.prog 63=true:=by kernel_rfl
theorem Zi2:Zc Tryz.prog 64=true:=by kernel_rfl
theorem ZmS:Zc Tryz.prog 66=true:=by kernel_rfl
theorem ZbL:ZM Tryz.prog 115=true:=by kernel_rfl
theorem Zlw (N:Nat):∀{F:Gw.Frame} {vL vD:Value} {p:Prob} {b lf:Int} {gl gs:Nat} (w0 w:World) (hS:Sat w0 w [.blk gl [.int .i64 lf],.blk gs [.func (.func 60) #[] #[.pointer (some ⟨gl,0,none⟩),.pointer (some ⟨gs,0,none⟩)]],.sem F]) (hP:∀w1,Below w0.heap.size w0 w1->F.holds w1->PAt w1 vL vD p) (hpo:ZG p b) (hlf:0<=lf/\lf<=20000) (hN:b.toNat<N),
    Calls Tryz.prog 60 [.agg #[vL,vD,.int .i64 p.stock,.int .i64 p.kerf,.int .i64 b],.pointer (some ⟨gl,0,none⟩),.pointer (some ⟨gs,0,none⟩)].toArray w fun e w=>∃v,e= .returned v/\∃t u pv ln pt cnt ok c vV,v= .tuple #[.agg #[.int .i64 (Tr.s t),t.vK,t.vL],vV,B ok]/\WT p b c t u ln pt cnt ok (lf-c)/\(-1<=lf-c/\(ok->0<=lf-c))/\Slh t.vK t.n/\Slh t.vL t.nl/\Slh vV u/\Sat w0 w [.blk gl [.int .i64 (lf-c)],.blk gs [.func (.func 60) #[] #[.pointer (some ⟨gl,0,none⟩),.pointer (some ⟨gs,0,none⟩)]],.sem (t.fr2 54 3),.own vV 2 107 u (Zg pv cnt),.sem (Frame.rows 3 u pv ln pt),.sem F]:=by
  induction N with
  |zero=>intros;omega
  | succ N ih=>
    intro F vL vD p b lf gl gs w0 w hS hP hpo hlf hN
    have h:=hP w hS.below (hS.holds _ (List.mem_of_getElem? (i:=2) rfl))
    have hm:=h.L.slh.n0;have hm1:=h.L.slh.n1;have hd:=h.D.slh.n0;have hd1:=h.D.slh.n1;have hs:=h.is;have hk:=h.ik
    refine zenF Tryz.func60 Tryz.ntmps60 ?_
    refine zsr<|zla (xbx (cs:= [_,_,_,_,_]) hS) ?_;rintro _ w ⟨g1,rfl,hS⟩
    refine zla (xal (cs:= [_,_,_]) WB hS) ?_;rintro _ w ⟨g2,rfl,hS⟩
    refine(zP)<|(zP)<|zx5<|(zV (xlb 0 pl_3 hS))<|(zV (Zq (r:=lf-1)))<|zle (xsb 0 pl_3 hS) ?_;clear hS;rintro w hS
    refine zlz<|(zV (xlb 0 pl_3 hS))<|(zP)<|zlt<|Zf ?_ ?_<;>intro hc
    ·
     refine zsr<|(zV (xany (v:= .agg #[.int .i64 0,.slice none 0 0,.slice none 0 0])))<|zle (xsw 4 st_54 hS) ?_;clear hS;rintro w hS
     refine(zP)<|(zP)<|zx14<|XR 4 st_54 hS ⟨_,rfl,?_⟩
     replace hS:=hS.pk [0,1,2]
     replace hS:=hS.tree0 54 3
     replace hS:=(hS.addnil 2 107 (Zg (fun _=>Value.slice none 0 0) (fun _=>0))).addrows 3 (fun _=>Value.slice none 0 0) (fun _=>0) (fun _ _=>0)
     exact⟨.nil,0,_,_,_,_,False,1,(.slice none 0 0),(by rw [Zz not_false];rfl),(Zg8 hpo.1 (by omega)),⟨by omega,fun hh=>hh.elim⟩,slh_nil,slh_nil,slh_nil,hS.pk [0,1,3,4,5,2]⟩
    refine YL<|(zV (xls 3 Yw hS))<|zlc (xc0 ZmV) (ZlE (p:=p) (b:=b) w (hP _ hS.below (hS.holds _ (List.mem_of_getElem? (i:=2) rfl))) hpo) ?_;rintro _ w ⟨df,dC,gG,gI,jg,jr,bG,rfl,aW,cl,hS'⟩
    replace hS:=(hS.comp hS').n7;clear hS'
    have fm:=fun k (k0:0<=k) (k1:k<dC)=>hS.slhIn 6 rfl k0 k1
    refine zs5 ?_
    refine zlz<|(zP)<|zlt<|Zf ?_ ?_<;>intro hc
    ·
     refine zsr<|(zV (xany (v:= .agg #[.int .i64 0,.slice none 0 0,.slice none 0 0])))<|(zP)<|zle (xsw 4 st_54 hS) ?_;clear hS;rintro w hS
     refine(zP)<|(zP)<|zx14<|XR 4 st_54 hS ⟨_,rfl,?_⟩
     replace hS:=hS.pk [0,1,5,6,2]
     replace hS:=hS.tree0 54 3
     exact⟨.nil,_,_,_,_,_,True,1,df,(by rw [ZK trivial];rfl),(Zha hpo.1 aW ‹bG›),⟨by omega,fun _=>by omega⟩,slh_nil,slh_nil,cl,hS.pk [0,1,5,2,3,4]⟩
    refine YL<|(zV (xls 3 Yw hS))<|zlc (xc0 ZmU) (Znh (p:=p) (b:=b) w (hP _ hS.below (hS.holds _ (List.mem_of_getElem? (i:=2) rfl))) hpo) ?_;rintro _ w ⟨xo,dD,eQ,bF,rfl,aU,yk,hS'⟩
    replace hS:=(hS.comp hS').n8;clear hS'
    refine zs5 ?_
    refine zlz<|(zP)<|zlt<|Zf ?_ ?_<;>intro hc
    ·
     refine zsr<|(zP)<|zlv (xany (v:= .agg #[.int .i64 0,.slice none 0 0,xo]) (hr:=by obtain⟨_,_,_,_,rfl,_⟩:=yk;kernel_rfl)) ?_
     refine zle (xsw 4 st_54 hS (hd:=(Za rfl (Za rfl (Za yk.one Zi))))) ?_;clear hS;rintro w hS
     refine(zP)<|(zP)<|zx14<|XR 4 st_54 hS ⟨_,rfl,?_⟩
     replace hS:=hS.pk [0,1,2,7]
     replace hS:=(hS.addnil 3 54 (Ym (fun _=> .nil))).addall (fun z9=>((fun _=>Tr.nil) z9).fr2 54 3)
     replace hS:=hS.pk [0,1,2,4,3,5]
     replace hS:=Sat.tree2 (l:= [_,_,_]) hS 0
     replace hS:=(hS.addnil 2 107 (Zg (fun _=>Value.slice none 0 0) (fun _=>0))).addrows 3 (fun _=>Value.slice none 0 0) (fun _=>0) (fun _ _=>0)
     exact⟨(.mk 0 (.slice none 0 0) 0 (fun _=> .nil) xo dD eQ),0,_,_,_,_,True,1,(.slice none 0 0),(by rw [ZK trivial];rfl),(Zeu hpo.1 aU ‹bF›),⟨by omega,fun _=>by omega⟩,slh_nil,yk,slh_nil,hS.pk [0,1,3,4,5,2]⟩
    refine ZT<|(zV (xls 3 Yw hS))<|zlc (xc0 ZmT) (ZlD (p:=p) (b:=b) w (hP _ hS.below (hS.holds _ (List.mem_of_getElem? (i:=2) rfl)))) ?_;rintro _ w ⟨qy,zB,qV,rfl,zw,zi,hS'⟩
    replace hS:=(hS.comp hS').n10;clear hS'
    have yN:∀k,0<=k->k<2*(Zl p b qy)->Slh (qV k) p.m:=fun k k0 k1=>hS.slhIn 9 rfl k0 k1
    refine zs6 ?_
    refine(zP)<|zx5<|(zP)<|(zP)<|zlt<|Zf ?_ ?_<;>intro hc
    ·
     refine zsr<|(zV (xany (v:= .agg #[.int .i64 0,.slice none 0 0,.slice none 0 0])))<|zle (xsw 4 st_54 hS) ?_;clear hS;rintro w hS
     refine(zP)<|(zP)<|zx14<|XR 4 st_54 hS ⟨_,rfl,?_⟩
     replace hS:=hS.pk [0,1,2]
     replace hS:=hS.tree0 54 3
     replace hS:=(hS.addnil 2 107 (Zg (fun _=>Value.slice none 0 0) (fun _=>0))).addrows 3 (fun _=>Value.slice none 0 0) (fun _=>0) (fun _ _=>0)
     exact⟨.nil,0,_,_,_,_,False,1,(.slice none 0 0),(by rw [Zz not_false];rfl),(Zax hpo aW ‹¬bG› aU ‹¬bF› (zw.2.2 (by omega))),⟨by omega,fun hh=>hh.elim⟩,slh_nil,slh_nil,slh_nil,hS.pk [0,1,3,4,5,2]⟩
    refine ZT<|(zP)<|(zV (xany (v:= .agg #[.int .i64 qy,.slice none 0 0,.slice none 0 0])))<|zla (xal (cs:= [_,_,_]) WB hS) ?_;rintro _ w ⟨g3,rfl,hS⟩
    refine zle (xsw 10 st_54 hS) ?_;clear hS;rintro w hS
    refine zx5<|(zP)<|(zV (xln VH zi))<|(zP)<|zx6 ?_
    have hsp:ZD p b qy:=(zw.2.1 (by omega)).1
    have hle:=(zw.2.1 (by omega)).2
    have jH:=zi.n0
    have jU:=hsp.2.1;have jX:=hpo.2.1;have jW:=hpo.2.2;have jJ:=hpo.1.d;have jI:=hpo.1.m2
    replace hS:=hS.addnil 3 54 (Ym (fun _=> .nil))
    replace hS:=hS.addall (fun z9=>((fun _=>Tr.nil) z9).fr2 54 3)
    refine zlp (fun mm M w=>∃(C:Int) (kd:Int->Tr) (wK:Value) (i:Int),mm=((Zl p b qy-i).toNat)/\(0<=i)/\(i<=Zl p b qy)/\(Slh wK i)/\(Upto p b qy i C kd)/\(0<=lf-C)/\M= [(2,.pointer (some ⟨gs,0,none⟩)),(3,.pointer (some ⟨g1,0,none⟩)),(4,.pointer (some ⟨g2,0,none⟩)),(14,.pointer (some ⟨g3,0,none⟩)),(55,zB),(56,.int .i64 (Zl p b qy)),(57,.int .i64 i)]/\Sat w0 w [.blk gl [.int .i64 (lf-C)],.blk gs [.func (.func 60) #[] #[.pointer (some ⟨gl,0,none⟩),.pointer (some ⟨gs,0,none⟩)]],.sem F,.blk g1 [vL,vD,.int .i64 p.stock,.int .i64 p.kerf,.int .i64 b],.blk g2 [.int .i64 0,.slice none 0 0,.slice none 0 0],.blk g3 [.int .i64 qy,wK,.slice none 0 0],.own wK 3 54 i (Ym kd),.sem (Frame.all i (fun z9=>(kd z9).fr2 54 3)),.own zB 5 34 (Zl p b qy) (ZE qV p.stock p.kerf (b-1)),.sem (Frame.rows 3 (2*(Zl p b qy)) qV (fun _=>p.m) (gfn p (MX p qy)))]) ⟨1,(fun _=>Tr.nil),(.slice none 0 0),0,rfl,(by omega),(by omega),?_,?_,?_,rfl,hS.pk [0,1,2,3,4,10,11,12,8,9]⟩ ?_
    ·
     exact slh_nil
    ·
     exact Upto.start hpo.1 _
    ·
     omega
    clear hS w
    rintro mm M w ⟨C,kd,wK,i,rfl,h0,h1,hwK,hup,hlC,rfl,hS⟩
    have hc1:=hup.one
    refine zsr<|(zP)<|zx7<|Zf ?_ ?_<;>intro hc
    ·
     refine zx3<|(zV (xix (kk:=5*i) VH zi))<|(zV (xlw (cs:= [(qV (2*i)),(qV (2*i+1)),.int .i64 p.stock,.int .i64 p.kerf,.int .i64 (b-1)]) Yw (hS.rowN 8 rfl) (Up (q:=5*i) (i:=i) qV p.stock p.kerf (b-1) (by omega))))<|zla (xal (cs:= [_,_,_,_,_]) ZcX hS) ?_;rintro _ w ⟨g4,rfl,hS⟩
     refine zle (xsw 10 Yw hS (hd:=(Za (yN (2*i) (by omega) (by omega)).one (Za (yN (2*i+1) (by omega) (by omega)).one (Za rfl (Za rfl (Za rfl Zi))))))) ?_;clear hS;rintro w hS
     refine zlz<|(zV (xlb 1 ZbL hS))<|(zV (xls 10 Yw hS))<|zlc (xcc (vs:= [_]) Zi3) (ih (p:=(ZV p qy i)) (b:=(b-1)) (lf:=(lf-C)) w0 w (Sat.bundle (l1:= [_,_]) (hS.pk [0,1,2,3,4,5,6,7,8,9,10])) (fun w1 hb hF=>UX (vv:=qV) hsp (hP w1 hb (Zdg hF 0 rfl)) (V8 hF 7 rfl (k:=2*i) (by omega) (by omega)) (V8 hF 7 rfl (k:=2*i+1) (by omega) (by omega)) h0 (by omega)) (ZdI hsp h0 (by omega)) ⟨by omega,by omega⟩ (by omega)) ?_;rintro _ w ⟨tz1,uz1,ar,br,bq,zS,qT,cz1,bp,rfl,xi,zN,yT,yR,xw,hS⟩
     replace hS:=Sat.unbundle (l1:= [_,_,_,_,_]) (l3:= []) hS
     rw [show lf-C-cz1=lf-(C+cz1) by omega] at hS xi zN
     replace hS:=hS.pk [0,1,3,4,5,6,7,8,9,10,11,12,13,2]
     have fj:=fun j (j0:0<=j) (j1:j<uz1)=>hS.slhIn 3 rfl j0 j1
     have dO:=ZiO xi;have dP:=xw.n0
     refine zs4 ?_
     refine zla (xal (cs:= [_,_,_]) WB hS) ?_;rintro _ w ⟨g5,rfl,hS⟩
     refine zle (xsw 14 st_54 hS (hd:=(Za rfl (Za yT.one (Za yR.one Zi))))) ?_;clear hS;rintro w hS
     refine(zP)<|(zP)<|zx5<|(zP)<|(zP)<|zlt<|Zf ?_ ?_<;>intro hc
     ·
      refine zsr<|(zV (xany (v:= .agg #[.int .i64 0,.slice none 0 0,.slice none 0 0])))<|zle (xsw 6 st_54 hS) ?_;clear hS;rintro w hS
      refine(zP)<|(zP)<|zlt<|zrt<|ztr<|zbr<|ztr<|ztr<|zbr<|ztr<|XR 6 st_54 hS ⟨_,rfl,?_⟩
      replace hS:=hS.pk [0,1,4]
      replace hS:=hS.tree0 54 3
      replace hS:=(hS.addnil 2 107 (Zg (fun _=>Value.slice none 0 0) (fun _=>0))).addrows 3 (fun _=>Value.slice none 0 0) (fun _=>0) (fun _ _=>0)
      exact⟨.nil,0,_,_,_,_,False,C+cz1,(.slice none 0 0),(by rw [Zz not_false];rfl),(Zg6 hup hsp h0 (by omega) xi ‹¬qT›),⟨by omega,fun hh=>hh.elim⟩,slh_nil,slh_nil,slh_nil,hS.pk [0,1,3,4,5,2]⟩
     refine YL<|(zV (xls 12 Yw hS))<|(zV (xls 14 st_54 hS))<|(zP)<|zlc (xc0 Zi2) (Zgg (p:=(ZV p qy i)) (b:=(b-1)) (u:=uz1) (n9:=tz1.n) (nl9:=tz1.nl) (s9:=tz1.s) w (UX (vv:=qV) hsp h (show Row _ _ 1 p.m _ from(hS.rowIn (k:=2*i) 11 rfl (by omega) (by omega))) (show Row _ _ 1 p.m _ from(hS.rowIn (k:=2*i+1) 11 rfl (by omega) (by omega))) (by omega) (by omega)) yT yR xw) ?_;rintro _ w ⟨rfl,hS'⟩
     replace hS:=hS.cmp hS';clear hS'
     refine zlt<|Zf ?_ ?_<;>intro hc
     ·
      refine zsr<|(zV (xfb 0 fd_34_0))<|(zV (xfb 1 fd_32_1))<|(zV (xlb 5 pl_22 hS))<|zlc (xc0 cl_65) (c_clone (n:=p.d) (f:=p.D) w (hP _ hS.below (hS.holds _ (List.mem_of_getElem? (i:=4) rfl))).D (by omega)) ?_;rintro vq1 w ⟨_,rfl,qb,hS'⟩
      replace hS:=(hS.comp hS').n16;clear hS'
      refine(zP)<|zx5<|(zV (xfb 0 fd_34_0))<|(zV (xfb 1 fd_32_1))<|(zV (xlb 12 pl_22 hS))<|(zV (xln Zb (yN (2*i+1) (by omega) (by omega))))<|(zP)<|zx6<|zlp (fun mm M w=>∃(fd:Int->Int) (n:Int),mm=((p.m-n).toNat)/\(0<=n)/\(n<=p.m)/\(∀k,0<=k->k<p.m->fd k=if k<n then YA (MX p qy) i k else p.D k)/\M= [(2,.pointer (some ⟨gs,0,none⟩)),(3,.pointer (some ⟨g1,0,none⟩)),(4,.pointer (some ⟨g2,0,none⟩)),(14,.pointer (some ⟨g3,0,none⟩)),(17,.pointer (some ⟨g5,0,none⟩)),(18,bp),(20,vq1),(55,zB),(56,.int .i64 (Zl p b qy)),(57,.int .i64 i),(81,(qV (2*i+1))),(82,.int .i64 p.m),(83,.int .i64 n)]/\Sat w0 w [.blk gl [.int .i64 (lf-(C+cz1))],.blk gs [.func (.func 60) #[] #[.pointer (some ⟨gl,0,none⟩),.pointer (some ⟨gs,0,none⟩)]],.own bp 2 107 uz1 (Zg ar zS),.sem (Frame.rows 3 uz1 ar br bq),.sem F,.blk g1 [vL,vD,.int .i64 p.stock,.int .i64 p.kerf,.int .i64 b],.blk g2 [.int .i64 0,.slice none 0 0,.slice none 0 0],.blk g3 [.int .i64 qy,wK,.slice none 0 0],.own wK 3 54 i (Ym kd),.sem (Frame.all i (fun z9=>(kd z9).fr2 54 3)),.own zB 5 34 (Zl p b qy) (ZE qV p.stock p.kerf (b-1)),.sem (Frame.rows 3 (2*(Zl p b qy)) qV (fun _=>p.m) (gfn p (MX p qy))),.blk g4 [(qV (2*i)),(qV (2*i+1)),.int .i64 p.stock,.int .i64 p.kerf,.int .i64 (b-1)],.sem (tz1.fr2 54 3),.blk g5 [.int .i64 tz1.s,tz1.vK,tz1.vL],.own vq1 1 3 p.d (ints fd)]) ⟨p.D,0,rfl,(by omega),(by omega),?_,rfl,hS⟩ ?_
      ·
       intro k k0 k1;rw [if_neg (by omega)]
      clear hS w
      rintro mm M w ⟨fd,n,rfl,n0,n1,hfd,rfl,hS⟩
      refine zsr<|(zP)<|zx7<|Zf ?_ ?_<;>intro hc
      ·
       refine zx3<|(zP)<|(zV (xix (kk:=n) Zb (yN (2*i+1) (by omega) (by omega))))<|(zV (xlr (u:= .int .i64 ((gfn p (MX p qy)) (2*i+1) n)) pl_3 (show Row _ _ 1 p.m _ from(hS.rowIn (k:=2*i+1) 11 rfl (by omega) (by omega)))))<|(zP)<|(zP)<|zlt<|zrg<|(zP)<|(zP)<|(zV (xix (kk:=n) Zb qb))<|zlv (xlr (u:= .int .i64 (fd n)) pl_3 (hS.rowN 15 rfl)) ?_
       have hfi:=hfd n n0 (by omega)
       rw [if_neg (by omega)] at hfi
       have hgf:gfn p (MX p qy) (2*i+1) n=p.D n-YA (MX p qy) i n:=congrFun (ZjA p _ (i:=i) rfl) n
       have hr9:=(VR hsp h0 (show i<Zl p b qy by omega)).1.rng n n0 (by omega)
       have he9:=hpo.1.all n n0 (by omega);unfold Prob.each at he9
       refine(zP)<|(zV (Zq (r:=fd n-((gfn p (MX p qy)) (2*i+1) n))))<|(zV (xix (kk:=n) Zb qb))<|zle (xso 15 pl_3 hS (Zx _ _ _)) ?_;clear hS;rintro w hS
       refine zx10<|(zV (Zh (r:=n+1)))<|(zP)<|zln<|zlq ⟨(upd fd n (fd n-((gfn p (MX p qy)) (2*i+1) n))),n+1,rfl,(by omega),(by omega),?_,rfl,hS⟩
       ·
        intro k k0 k1;unfold Gw.upd;by_cases e:k=n
        · rw [if_pos e,if_pos (by omega),e];omega
        · rw [if_neg e,hfd k k0 k1];by_cases e2:k<n
          · rw [if_pos e2,if_pos (by omega)]
          · rw [if_neg e2,if_neg (by omega)]
      refine zx8<|(zV (xany (v:= .agg #[.int .i64 0,.slice none 0 0,.slice none 0 0])))<|(zP)<|zlc (xc0 ZmS) (Znu w (hS.holds _ (List.mem_of_getElem? (i:=2) rfl)) (fun k k0 k1=>(hS.slhIn 3 rfl k0 k1).one) (by omega)) ?_;rintro gD w ⟨_,rfl,ff,hS'⟩
      replace hS:=(hS.comp hS').n17;clear hS'
      refine(zP)<|zlv (xany (v:= .agg #[vq1,.int .i64 1]) (hr:=by obtain⟨_,_,_,_,rfl,_⟩:=qb;kernel_rfl)) ?_
      refine zla (xli (n:=1) (len:=1) (pv:= [(0,.agg #[vq1,.int .i64 1])]) (cs:= [vq1,.int .i64 1]) (c:=Zg (fun _=>vq1) (fun _=>1)) ZO Yo hS (hf:=by obtain⟨_,_,_,_,rfl,_⟩:=qb;kernel_rfl)) ?_;rintro v1 w ⟨hS,hv1⟩
      refine zla (xap 16 (r:=uz1+1) ZO Yo hS (hS.rowN 17 rfl) (YR _ _ _ _ _) (h1:=fun k _ _=>YP (fun _=>qb.one) k)) ?_;rintro v2 w ⟨hS,hv2⟩
      replace hS:=Sat.merge (l1:= [_,_,_]) (l2:= [_,_,_,_,_,_,_,_,_,_,_]) (l3:= [_,_]) hS (by omega)
      have qY:=fun k (k0:0<=k) (k1:k<uz1+1)=>hS.slhIn 3 rfl k0 k1
      refine zle (xsw 6 st_54 hS) ?_;clear hS;rintro w hS
      refine(zP)<|(zP)<|zlt<|zrt<|ztr<|zbr<|ztr<|ztr<|zbr<|ztr<|XR 6 st_54 hS ⟨_,rfl,?_⟩
      have hq9:=zN.2 (by first|assumption|exact Classical.not_not.1 ‹_›)
      replace hS:=hS.pk [0,1,15,3,4]
      replace hS:=hS.tree0 54 3
      exact⟨.nil,_,_,_,_,_,True,C+cz1,v2,(by rw [ZK trivial];rfl),(Zet hup hsp h0 (by omega) xi (by first|assumption|exact Classical.not_not.1 ‹_›) (by assumption) xw.n0 hpo.1.d (fun j j0 j1=>by rw [hfd j j0 j1,if_pos (by omega)])).1,⟨by omega,fun _=>by omega⟩,slh_nil,slh_nil,hv2,hS.pk [0,1,5,2,3,4]⟩
     refine zsk<|ztn<|zrg<|(zV (xfb 1 fd_54_1))<|(zV (xlb 7 XF hS))<|(zV (xls 14 st_54 hS))<|zla (xli (n:=1) (len:=1) (pv:= [(0,.agg #[.int .i64 tz1.s,tz1.vK,tz1.vL])]) (cs:= [.int .i64 tz1.s,tz1.vK,tz1.vL]) (c:=XC (fun _=>tz1.s) (fun _=>tz1.vK) (fun _=>tz1.vL)) YM WB hS (hf:=by have hz:=yT;revert hz;generalize tz1.vK=z;rintro⟨_,_,_,_,rfl,_⟩;show _=_;have hz:=yR;revert hz;generalize tz1.vL=z;rintro⟨_,_,_,_,rfl,_⟩;show _=_;kernel_rfl)) ?_;rintro v1 w ⟨hS,hv1⟩
     refine zla (xap 8 (r:=i+1) YM WB hS (hS.rowN 15 rfl) (TN _ _ _) (h1:=fun k _ _=>Td (fun _=>yT.one) (fun _=>yR.one) k)) ?_;rintro v2 w ⟨hS,hv2⟩
     replace hS:=Sat.allsnoc (l1:= [_,_,_,_,_,_,_,_,_]) (l2:= [_,_,_]) (l3:= [_,_]) hS (by omega) (H:=fun z9=>(gsn kd i tz1 z9).fr2 54 3) (fun k k0 k1=>by(try dsimp only);rw [ZA k1]) (by(try dsimp only);rw [YN])
     refine(zV (xfb 1 fd_54_1))<|zle (xsb 7 XF hS (hv:=hv2.one)) ?_;clear hS;rintro w hS
     refine zx10<|(zV (Zh (r:=i+1)))<|(zP)<|zln<|zlq ⟨C+cz1,(gsn kd i tz1),v2,i+1,rfl,(by omega),(by omega),?_,?_,?_,rfl,hS.pk [0,1,4,5,6,7,8,9,10,11]⟩
     ·
      exact hv2
     ·
      exact hup.next hsp h0 (by omega) xi (by first|assumption|exact Classical.not_not.1 ‹_›) (by assumption)
     ·
      have h9:=zN.2 (by first|assumption|exact Classical.not_not.1 ‹_›);omega
    refine zx8<|(zV (xls 5 st_54 hS))<|zle (xsw 4 st_54 hS (hd:=(Za rfl (Za hwK.one (Za rfl Zi))))) ?_;clear hS;rintro w hS
    refine(zP)<|(zP)<|zx1<|XR 4 st_54 hS ⟨_,rfl,?_⟩
    obtain rfl:i=Zl p b qy:=by omega
    replace hS:=hS.pk [0,1,2,6,7]
    replace hS:=hS.addnil 1 3 (ints (fun _=>0))
    replace hS:=hS.pk [0,1,2,3,5,4]
    replace hS:=Sat.tree2 (l:= [_,_,_]) hS qy
    replace hS:=(hS.addnil 2 107 (Zg (fun _=>Value.slice none 0 0) (fun _=>0))).addrows 3 (fun _=>Value.slice none 0 0) (fun _=>0) (fun _ _=>0)
    exact⟨(.mk qy wK (Zl p b qy) kd (.slice none 0 0) 0 (fun _=>0)),0,_,_,_,_,True,C,(.slice none 0 0),(by rw [ZK trivial];rfl),((Zes hup hsp hle).resolve_right (fun hh=>hh fun k=>⟨by show _<=(0:Int);omega,by show(0:Int)<=_;omega⟩)),⟨by omega,fun _=>by omega⟩,hwK,slh_nil,slh_nil,hS.pk [0,1,3,4,5,2]⟩
end Go.Proofs.YtkichmnjjblodaaGreat
namespace Go.Proofs.YtkichmnjjblodaaGreat
open Go Go.RowKit Go.Proofs.Gw
theorem Zj3:ZW Tryz.prog 115=some (.nilFunc,1,8):=by kernel_rfl
theorem Zgb{vL vD:Value}{p:Prob}{b:Int}(w0:World)(h:PAt w0 vL vD p):
    Calls Tryz.prog 36 [.agg #[vL,vD,.int .i64 p.stock,.int .i64 p.kerf,.int .i64 b]].toArray w0 fun e w=>∃v,e= .returned v/\∃t u pv ln pt cnt e vV,v= .tuple #[.agg #[.int .i64 (Tr.s t),t.vK,t.vL],vV,.int .i64 e]/\RefR p b t u ln pt cnt e/\UA t/\Slh t.vK t.n/\Slh t.vL t.nl/\Slh vV u/\Sat w0 w [.sem (t.fr2 54 3),.own vV 2 107 u (Zg pv cnt),.sem (Frame.rows 3 u pv ln pt)]:=by
  have hm:=h.L.slh.n0;have hm1:=h.L.slh.n1;have hd:=h.D.slh.n0;have hd1:=h.D.slh.n1;have hs:=h.is;have hk:=h.ik
  refine zenG Tryz.func36 Tryz.ntmps36 fun w hS=> ?_
  refine zsr<|zla (xbx (cs:= [_,_,_,_,_]) hS) ?_;rintro _ w ⟨g1,rfl,hS⟩
  refine zla (xal (cs:= [_,_,_]) WB hS) ?_;rintro _ w ⟨g2,rfl,hS⟩
  refine(zP)<|(zP)<|zx5<|(zV (xls 0 Yw hS))<|zlc (xc0 Zc5) (KY (p:=p) (b:=b) w (h.below hS.below)) ?_;rintro _ w ⟨rfl,hS'⟩
  replace hS:=hS.cmp hS';clear hS'
  refine(zP)<|zlt<|Zf ?_ ?_<;>intro hc
  ·
   refine zsr<|(zV (xany (v:= .agg #[.int .i64 0,.slice none 0 0,.slice none 0 0])))<|zle (xsw 1 st_54 hS) ?_;clear hS;rintro w hS
   refine(zP)<|(zP)<|zx14<|XR 1 st_54 hS ⟨_,rfl,?_⟩
   replace hS:=hS.nl
   replace hS:=hS.tree0 54 3
   replace hS:=(hS.addnil 2 107 (Zg (fun _=>Value.slice none 0 0) (fun _=>0))).addrows 3 (fun _=>Value.slice none 0 0) (fun _=>0) (fun _ _=>0)
   exact⟨.nil,0,_,_,_,_,1,(.slice none 0 0),rfl,.inl ⟨‹¬ZG p b›,Yn,rfl,rfl⟩,trivial,slh_nil,slh_nil,slh_nil,hS⟩
  refine ZT<|zla (xal (cs:= [_]) Zt hS) ?_;rintro _ w ⟨g3,rfl,hS⟩
  have hpo:ZG p b:=(by first|assumption|exact Classical.not_not.1 ‹_›);have hb1:=hpo.2.1;have hb2:=hpo.2.2
  refine zle (xsb 2 pl_3 hS) ?_;clear hS;rintro w hS
  refine zlz<|zla (xal (cs:= [_]) Zj3 hS) ?_;rintro _ w ⟨g4,rfl,hS⟩
  refine zlz<|(zV xmf)<|zle (xsb 3 ZbL hS) ?_;clear hS;rintro w hS
  refine zlz<|(zV (xlb 3 ZbL hS))<|(zV (xls 0 Yw hS))<|zlc (xcc (vs:= [_]) Zi3) (Zlw _ (F:=Frame.bun [.blk g1 [vL,vD,.int .i64 p.stock,.int .i64 p.kerf,.int .i64 b],.blk g2 [.int .i64 0,.slice none 0 0,.slice none 0 0]]) (p:=p) (b:=b) (lf:=20000) w0 w (Sat.bundle (l1:= [_,_]) (hS.pk [2,3,0,1])) (fun w1 hb _=>h.below hb) hpo ⟨by omega,by omega⟩ (Nat.lt_succ_self _)) ?_;rintro _ w ⟨tz1,uz1,ar,br,bq,zS,qT,cz1,bp,rfl,xi,zN,yT,yR,xw,hS⟩
  replace hS:=Sat.unbundle (l1:= [_,_,_,_,_]) (l3:= []) hS
  replace hS:=hS.pk [0,1,3,4,5,6,2]
  have fj:=fun j (j0:0<=j) (j1:j<uz1)=>hS.slhIn 3 rfl j0 j1
  have dO:=ZiO xi;have dP:=xw.n0
  refine zs4 ?_
  refine zla (xal (cs:= [_,_,_]) WB hS) ?_;rintro _ w ⟨g5,rfl,hS⟩
  refine zle (xsw 7 st_54 hS (hd:=(Za rfl (Za yT.one (Za yR.one Zi))))) ?_;clear hS;rintro w hS
  refine(zP)<|(zP)<|zlt<|zsq<|zbk<|zsr<|(zP)<|(zP)<|(zP)<|zlt<|Zf ?_ ?_<;>intro hc
  ·
   refine zsr<|(zV (xany (v:= .agg #[.int .i64 0,.slice none 0 0,.slice none 0 0])))<|zle (xsw 5 st_54 hS) ?_;clear hS;rintro w hS
   refine(zP)<|(zP)<|Xz<|XR 5 st_54 hS ⟨_,rfl,?_⟩
   replace hS:=hS.nl
   replace hS:=hS.tree0 54 3
   replace hS:=(hS.addnil 2 107 (Zg (fun _=>Value.slice none 0 0) (fun _=>0))).addrows 3 (fun _=>Value.slice none 0 0) (fun _=>0) (fun _ _=>0)
   exact⟨.nil,0,_,_,_,_,9,(.slice none 0 0),rfl,.inr (.inl ⟨hpo,Zew hpo.1 xi ‹¬qT›,Yn,rfl,rfl⟩),trivial,slh_nil,slh_nil,slh_nil,hS⟩
  refine zsr<|(zV (xls 4 Yw hS))<|(zV (xls 7 st_54 hS))<|(zP)<|zlc (xc0 Zi2) (Zgg (p:=p) (b:=b) (u:=uz1) (n9:=tz1.n) (nl9:=tz1.nl) (s9:=tz1.s) w (h.below hS.below) yT yR xw) ?_;rintro _ w ⟨rfl,hS'⟩
  replace hS:=hS.cmp hS';clear hS'
  refine(zP)<|zlt<|Zf ?_ ?_<;>intro hc
  ·
   refine zsr<|(zV (xany (v:= .agg #[.int .i64 0,.slice none 0 0,.slice none 0 0])))<|zlv xmv ?_
   have hpm:=Zg9 xi (by first|assumption|exact Classical.not_not.1 ‹_›) (by first|assumption|exact Classical.not_not.1 ‹_›)
   refine zlc (xc0 Zc4) (K0 (u:=uz1) (pv:=ar) (ln:=br) (pt:=bq) (cnt:=zS) w (⟨(hS.rowN 2 rfl),fun k k0 k1=>hS.rowIn 3 rfl k0 k1,fun k k0 k1=>hS.roomIn 3 rfl k0 k1⟩:VAt _ bp uz1 ar br bq zS) (by omega) (fun k k0 k1=>by have h8:=(hpm.1.1.2.2 k k0 k1).2.2.eq;have:=hpm.1.1.1.m2;omega) (fun k k0 k1=>by have h8:=hpm.1.1.2.2 k k0 k1;exact⟨h8.1,h8.2.1⟩)) ?_;rintro xJ w ⟨_,qF,xt,x7,yc,xG,rfl,xm,xp,yD,x3,xL,hS'⟩
   replace hS:=(hS.comp hS').n10;clear hS'
   have yq:=fun k (k0:0<=k) (k1:k<qF)=>hS.slhIn 9 rfl k0 k1
   refine zle (xsw 5 st_54 hS) ?_;clear hS;rintro w hS
   refine(zP)<|(zP)<|Xz<|XR 5 st_54 hS ⟨_,rfl,?_⟩
   have hnp:=ZeM hpm (by omega) xm (by omega) xp yD
   replace hS:=hS.pk [8,9]
   replace hS:=hS.tree0 54 3
   exact⟨.nil,_,_,_,_,_,0,_,rfl,.inr (.inr (.inl ⟨hpo,rfl,Yn,hnp⟩)),trivial,slh_nil,slh_nil,xL,hS.pk [2,0,1]⟩
  refine zsr<|zlv (xls 7 st_54 hS) ?_
  have hpf:=Zg7 xi (by first|assumption|exact Classical.not_not.1 ‹_›) (by assumption)
  refine zlc (xc0 Zi1) (RQ (t:=tz1) w (Tr.fr2_at tz1 hpf.2.2.2.1.2 (hS.holds (.sem (Tr.fr2 54 3 tz1)) (by repeat first|exact List.mem_cons_self .. |apply List.mem_cons_of_mem))).1 (Tr.fr2_at tz1 hpf.2.2.2.1.2 (hS.holds (.sem (Tr.fr2 54 3 tz1)) (by repeat first|exact List.mem_cons_self .. |apply List.mem_cons_of_mem))).2) ?_;rintro _ w ⟨rfl,hS'⟩
  replace hS:=hS.cmp hS';clear hS'
  refine(zP)<|(zP)<|zlt<|Zf ?_ ?_<;>intro hc
  ·
   refine zsr<|(zV (xany (v:= .agg #[.int .i64 0,.slice none 0 0,.slice none 0 0])))<|zle (xsw 5 st_54 hS) ?_;clear hS;rintro w hS
   refine(zP)<|(zP)<|Xz<|XR 5 st_54 hS ⟨_,rfl,?_⟩
   replace hS:=hS.nl
   replace hS:=hS.tree0 54 3
   replace hS:=(hS.addnil 2 107 (Zg (fun _=>Value.slice none 0 0) (fun _=>0))).addrows 3 (fun _=>Value.slice none 0 0) (fun _=>0) (fun _ _=>0)
   exact⟨.nil,0,_,_,_,_,9,(.slice none 0 0),rfl,.inr (.inl ⟨hpo,Zev hpo.1 xi hpf.2.2.2 ‹¬Yc tz1›,Yn,rfl,rfl⟩),trivial,slh_nil,slh_nil,slh_nil,hS⟩
  refine zsk<|zbn<|ztn<|zsr<|(zV (xls 7 st_54 hS))<|zle (xsw 5 st_54 hS (hd:=(Za rfl (Za yT.one (Za yR.one Zi))))) ?_;clear hS;rintro w hS
  refine(zP)<|(zP)<|zx1<|XR 5 st_54 hS ⟨_,rfl,?_⟩
  replace hS:=hS.pk [6]
  replace hS:=(hS.addnil 2 107 (Zg (fun _=>Value.slice none 0 0) (fun _=>0))).addrows 3 (fun _=>Value.slice none 0 0) (fun _=>0) (fun _ _=>0)
  exact⟨tz1,0,_,_,_,_,0,(.slice none 0 0),rfl,.inr (.inr (.inr ⟨hpo,rfl,rfl,Classical.not_not.1 ‹¬¬Yc tz1›,hpf.2.2.2.1.2,hpf.2.1,hpf.2.2.1⟩)),hpf.2.2.2.1.2,yT,yR,slh_nil,hS⟩
end Go.Proofs.YtkichmnjjblodaaGreat
namespace Go.Proofs.YtkichmnjjblodaaGreat
open Go Go.RowKit Go.Proofs.Gw
theorem Zm5:Zc Tryz.prog 36=true:=by kernel_rfl
theorem Zfm:ZW Tryz.prog 63=some (.agg #[.int .i64 0,.slice none 0 0,.int .i64 0,.slice none 0 0,.slice none 0 0],5,88):=by kernel_rfl
theorem Xp:Zy Tryz.prog 63=some 5:=by kernel_rfl
theorem Zbk{vL vD:Value}{p:Prob}(w0:World)(h:PAt w0 vL vD p):
    Calls Tryz.prog 30 [.agg #[vL,vD,.int .i64 p.stock,.int .i64 p.kerf]].toArray w0 fun e w=>∃v,e= .returned v/\∃nb t u pv ln pt cnt e vV,v= .tuple #[.agg #[.int .i64 nb,vV,.int .i64 (Tr.s t),t.vK,t.vL],.int .i64 e]/\SolR6 p nb t u ln pt cnt e/\UA t/\Slh t.vK t.n/\Slh t.vL t.nl/\Slh vV u/\Sat w0 w [.sem (t.fr2 54 3),.own vV 2 107 u (Zg pv cnt),.sem (Frame.rows 3 u pv ln pt)]:=by
  have hm:=h.L.slh.n0;have hm1:=h.L.slh.n1;have hd:=h.D.slh.n0;have hd1:=h.D.slh.n1;have hs:=h.is;have hk:=h.ik
  refine zenG Tryz.func30 Tryz.ntmps30 fun w hS=> ?_
  refine zsr<|zla (xbx (cs:= [_,_,_,_]) hS) ?_;rintro _ w ⟨g1,rfl,hS⟩
  refine zla (xal (cs:= [_,_,_,_,_]) Zfm hS) ?_;rintro _ w ⟨g2,rfl,hS⟩
  refine(zP)<|zx5<|(zV (xls 0 st_32 hS))<|zlc (xc0 XL) (Yb (p:=p) w (h.below hS.below)) ?_;rintro _ w ⟨rfl,hS'⟩
  replace hS:=hS.cmp hS';clear hS'
  refine(zP)<|zlt<|Zf ?_ ?_<;>intro hc
  ·
   refine zsr<|(zV (xany (v:= .agg #[.int .i64 0,.slice none 0 0,.int .i64 0,.slice none 0 0,.slice none 0 0])))<|zle (xsw 1 Xp hS) ?_;clear hS;rintro w hS
   refine(zP)<|zx14<|Yp 1 Xp hS ⟨_,rfl,?_⟩
   replace hS:=hS.nl
   replace hS:=hS.tree0 54 3
   replace hS:=(hS.addnil 2 107 (Zg (fun _=>Value.slice none 0 0) (fun _=>0))).addrows 3 (fun _=>Value.slice none 0 0) (fun _=>0) (fun _ _=>0)
   exact⟨0,.nil,0,_,_,_,_,1,(.slice none 0 0),rfl,.inl ⟨‹¬p.Ok›,rfl,rfl,Yn,rfl⟩,trivial,slh_nil,slh_nil,slh_nil,hS⟩
  refine ZT<|zlv (xls 0 st_32 hS) ?_
  have hok:p.Ok:=(by first|assumption|exact Classical.not_not.1 ‹_›)
  refine zlc (xc0 Zi4) (ZgF (p:=p) w (h.below hS.below)) ?_;rintro _ w ⟨ai,yC,zF,zI,zR,zT,eT,rfl,qN,bU,ep,xP,hS'⟩
  replace hS:=(hS.comp hS').n4;clear hS'
  have cH:=fun k (k0:0<=k) (k1:k<yC)=>hS.slhIn 3 rfl k0 k1
  refine zs5 ?_
  refine zx5<|(zP)<|(zP)<|zlt<|Zf ?_ ?_<;>intro hc
  ·
   refine zsr<|(zV (xany (v:= .agg #[.int .i64 0,.slice none 0 0,.int .i64 0,.slice none 0 0,.slice none 0 0])))<|zle (xsw 1 Xp hS) ?_;clear hS;rintro w hS
   refine(zP)<|zx14<|Yp 1 Xp hS ⟨_,rfl,?_⟩
   replace hS:=hS.nl
   replace hS:=hS.tree0 54 3
   replace hS:=(hS.addnil 2 107 (Zg (fun _=>Value.slice none 0 0) (fun _=>0))).addrows 3 (fun _=>Value.slice none 0 0) (fun _=>0) (fun _ _=>0)
   exact⟨0,.nil,0,_,_,_,_,9,(.slice none 0 0),rfl,.inr (.inl ⟨hok,by have h8:=(qN.tot hok).2;omega,rfl,rfl,Yn,rfl⟩),trivial,slh_nil,slh_nil,slh_nil,hS⟩
  refine zsk<|ztn<|zbk ?_
  have hmt:=qN.meets hok (by omega) xP.n0
  have aI:=(qN.tot hok).1 (by omega)
  refine zlp (fun mm M w=>∃(nC:Int) (wv:Int->Value) (lC:Int->Int) (gC:Int->Int->Int) (cC:Int->Int) (wC:Value),mm=((brs nC cC).toNat)/\(PMt p nC lC gC cC)/\(brs nC cC<=1000)/\(Slh wC nC)/\M= [(1,.pointer (some ⟨g1,0,none⟩)),(2,.pointer (some ⟨g2,0,none⟩)),(4,wC)]/\Sat w0 w [.blk g1 [vL,vD,.int .i64 p.stock,.int .i64 p.kerf],.blk g2 [.int .i64 0,.slice none 0 0,.int .i64 0,.slice none 0 0,.slice none 0 0],.own wC 2 107 nC (Zg wv cC),.sem (Frame.rows 3 nC wv lC gC)]) ⟨yC,zF,zI,zR,zT,ai,rfl,?_,?_,?_,rfl,hS⟩ ?_
  ·
   exact hmt.1
  ·
   exact Int.le_trans hmt.2 aI
  ·
   exact xP
  clear hS w
  rintro mm M w ⟨nC,wv,lC,gC,cC,wC,rfl,hpm,hbm,hwC,rfl,hS⟩
  have hrC:=fun k (k0:0<=k) (k1:k<nC)=>hS.slhIn 3 rfl k0 k1
  have hu6:=hpm.1.2.1
  refine zbk<|zsr<|(zP)<|zlc (xc0 Zbg) (V6 (u:=nC) (pv:=wv) (ln:=lC) (pt:=gC) (cnt:=cC) w (⟨(hS.rowN 2 rfl),fun k k0 k1=>hS.rowIn 3 rfl k0 k1,fun k k0 k1=>hS.roomIn 3 rfl k0 k1⟩:VAt _ wC nC wv lC gC cC) (by omega) (fun k k0 k1=>by have h8:=hpm.1.2.2 k k0 k1;omega)) ?_;rintro _ w ⟨rfl,hS'⟩
  replace hS:=hS.cmp hS';clear hS'
  have hbb:=Znx hpm;unfold brs at hbb hbm
  refine(zP)<|zx5<|(zP)<|(zP)<|zlt<|Zf ?_ ?_<;>intro hc
  ·
   refine zsr<|(zP)<|zlv (xany (v:= .agg #[.int .i64 0,wC,.int .i64 0,.slice none 0 0,.slice none 0 0]) (hr:=by obtain⟨_,_,_,_,rfl,_⟩:=hwC;kernel_rfl)) ?_
   refine zle (xsw 1 Xp hS (hd:=(Za rfl (Za hwC.one (Za rfl (Za rfl (Za rfl Zi))))))) ?_;clear hS;rintro w hS
   refine(zP)<|zlt<|zrt<|ztr<|zbr<|ztr<|zbr<|Yp 1 Xp hS ⟨_,rfl,?_⟩
   replace hS:=hS.pk [2,3]
   replace hS:=hS.tree0 54 3
   exact⟨0,.nil,_,_,_,_,_,0,_,rfl,.inr (.inr ⟨hok,rfl,hpm,by unfold brs;omega,by omega,trivial,.inl ⟨rfl,Yn⟩⟩),trivial,slh_nil,slh_nil,hwC,hS.pk [2,0,1]⟩
  refine ZT<|zlv (xls 0 st_32 hS) ?_
  have zX:ZG p ((psum (fun _=>1) cC (nC).toNat)-1):=⟨hok,by omega,by omega⟩
  refine(zP)<|(zV (Zq (r:=(psum (fun _=>1) cC (nC).toNat)-1)))<|zlv (xany (v:= .agg #[vL,vD,.int .i64 p.stock,.int .i64 p.kerf,.int .i64 ((psum (fun _=>1) cC (nC).toNat)-1)]) (hr:=by obtain⟨_,_,_,_,rfl,_⟩:=h.L.slh;obtain⟨_,_,_,_,rfl,_⟩:=h.D.slh;kernel_rfl)) ?_
  refine zlc (xc0 Zm5) (Zgb (p:=p) (b:=((psum (fun _=>1) cC (nC).toNat)-1)) w (h.below hS.below)) ?_;rintro _ w ⟨x6,dv,dx,dI,dy,db,j4,dm,rfl,xS,fp,x5,x4,dL,hS'⟩
  replace hS:=(hS.comp hS').n7;clear hS'
  have gS:=fun j (j0:0<=j) (j1:j<dv)=>hS.slhIn 6 rfl j0 j1
  refine zs4 ?_
  refine zla (xal (cs:= [_,_,_]) WB hS) ?_;rintro _ w ⟨g3,rfl,hS⟩
  refine zle (xsw 7 st_54 hS (hd:=(Za rfl (Za x5.one (Za x4.one Zi))))) ?_;clear hS;rintro w hS
  refine(zP)<|(zP)<|zx5<|(zP)<|(zP)<|zlt<|Zf ?_ ?_<;>intro hc
  ·
   refine zsr<|(zV (xany (v:= .agg #[.int .i64 0,.slice none 0 0,.int .i64 0,.slice none 0 0,.slice none 0 0])))<|zle (xsw 1 Xp hS) ?_;clear hS;rintro w hS
   refine(zP)<|zlt<|zrt<|ztr<|zbr<|ztr<|zbr<|Yp 1 Xp hS ⟨_,rfl,?_⟩
   replace hS:=hS.nl
   replace hS:=hS.tree0 54 3
   replace hS:=(hS.addnil 2 107 (Zg (fun _=>Value.slice none 0 0) (fun _=>0))).addrows 3 (fun _=>Value.slice none 0 0) (fun _=>0) (fun _ _=>0)
   exact⟨0,.nil,0,_,_,_,_,9,(.slice none 0 0),rfl,.inr (.inl ⟨hok,xS.err zX (by omega),rfl,rfl,Yn,rfl⟩),trivial,slh_nil,slh_nil,slh_nil,hS⟩
  refine YL<|(zV (xfb 1 fd_54_1))<|(zV (xlb 7 XF hS))<|(zV (xln YM x5))<|(zP)<|(zP)<|zlb 44 ?_ ?_<;>intro hc
  ·
   iterate 4 refine zlo ?_
   refine(zP)<|zlt<|zct<|zsr ?_
   refine(zP)<|(zP)<|(zV (xls 7 st_54 hS))<|zlv (xany (v:= .agg #[.int .i64 (psum (fun _=>1) cC (nC).toNat),wC,.int .i64 x6.s,x6.vK,x6.vL]) (hr:=by obtain⟨_,_,_,_,rfl,_⟩:=hwC;have hz:=x5;revert hz;generalize x6.vK=z;rintro⟨_,_,_,_,rfl,_⟩;show _=_;have hz:=x4;revert hz;generalize x6.vL=z;rintro⟨_,_,_,_,rfl,_⟩;show _=_;kernel_rfl)) ?_
   refine zle (xsw 1 Xp hS (hd:=(Za rfl (Za hwC.one (Za rfl (Za x5.one (Za x4.one Zi))))))) ?_;clear hS;rintro w hS
   refine(zP)<|zlt<|zrt<|ztr<|zbr<|ztr<|zbr<|Yp 1 Xp hS ⟨_,rfl,?_⟩
   have htr:=xS.tree (by omega) (by first|exact .inl (by omega)|exact .inr (by omega))
   replace hS:=hS.pk [4,2,3]
   exact⟨_,x6,_,_,_,_,_,0,_,rfl,.inr (.inr ⟨hok,rfl,hpm,rfl,by omega,htr.2.1,.inr ⟨by omega,htr.1,htr.2.2⟩⟩),htr.2.1,x5,x4,hwC,hS⟩
  refine(zV (xfb 2 fd_54_2))<|(zV (xlb 7 pl_22 hS))<|(zV (xln Zb x4))<|(zP)<|(zP)<|zlt<|Zf ?_ ?_<;>intro hc
  ·
   refine zsr<|(zP)<|(zP)<|(zV (xls 7 st_54 hS))<|zlv (xany (v:= .agg #[.int .i64 (psum (fun _=>1) cC (nC).toNat),wC,.int .i64 x6.s,x6.vK,x6.vL]) (hr:=by obtain⟨_,_,_,_,rfl,_⟩:=hwC;have hz:=x5;revert hz;generalize x6.vK=z;rintro⟨_,_,_,_,rfl,_⟩;show _=_;have hz:=x4;revert hz;generalize x6.vL=z;rintro⟨_,_,_,_,rfl,_⟩;show _=_;kernel_rfl)) ?_
   refine zle (xsw 1 Xp hS (hd:=(Za rfl (Za hwC.one (Za rfl (Za x5.one (Za x4.one Zi))))))) ?_;clear hS;rintro w hS
   refine(zP)<|zlt<|zrt<|ztr<|zbr<|ztr<|zbr<|Yp 1 Xp hS ⟨_,rfl,?_⟩
   have htr:=xS.tree (by omega) (by first|exact .inl (by omega)|exact .inr (by omega))
   replace hS:=hS.pk [4,2,3]
   exact⟨_,x6,_,_,_,_,_,0,_,rfl,.inr (.inr ⟨hok,rfl,hpm,rfl,by omega,htr.2.1,.inr ⟨by omega,htr.1,htr.2.2⟩⟩),htr.2.1,x5,x4,hwC,hS⟩
  refine zsk<|ztn<|zrg<|(zP)<|(zP)<|zln<|zbn<|zlq ⟨dv,dx,dI,dy,db,dm,rfl,?_,?_,?_,rfl,hS.pk [0,1,5,6]⟩ (hlt:=(by have h8:=(xS.plan (by omega) (by omega) (by omega)).2;unfold brs at h8⊢;omega))
  ·
   exact(xS.plan (by omega) (by omega) (by omega)).1
  ·
   have h8:=(xS.plan (by omega) (by omega) (by omega)).2;unfold brs at h8⊢;omega
  ·
   exact dL
theorem SolR6.u{p:Prob}{nb u e:Int}{t:Tr}{ln cnt:Int->Int}{pt:Int->Int->Int}(h:SolR6 p nb t u ln pt cnt e):u<=1000:=by
  rcases h with⟨_,_,_,_,h⟩|⟨_,_,_,_,_,h⟩|⟨_,_,h,_⟩
  · omega
  · omega
  · exact h.1.2.1
end Go.Proofs.YtkichmnjjblodaaGreat
namespace Go.Proofs.YtkichmnjjblodaaGreat
open Go Go.RowKit Go.Proofs.Gw
variable {e:Int} {cnt ln:Int->Int} {pt:Int->Int->Int}
theorem Zm8:Zc Tryz.prog 26=true:=by kernel_rfl
theorem Zjb:Zc Tryz.prog 30=true:=by kernel_rfl
theorem SolR6.fine{p:Prob}{nb u:Int}{t:Tr}(h:SolR6 p nb t u ln pt cnt e)(hp:p.Ok)(hn:ZN p<=6):e=0:=by
  rcases h with⟨h,_⟩|⟨_,h,_⟩|⟨_,h,_⟩
  · exact absurd hp h
  · omega
  · exact h
theorem SolR6.bars{p:Prob}{nb u:Int}{t:Tr}(h:SolR6 p nb t u ln pt cnt e)(hp:p.Ok)(he:e=0):∃L,LFit p L/\(∀j,0<=j->j<p.m->p.D j<=XI L j)/\(L.length:Int)=nb:=by
  rcases h with⟨h,_⟩|⟨_,_,h,_⟩|⟨_,_,h1,h2,_⟩
  · exact absurd hp h
  · omega
  · obtain⟨L,g1,g2,g3⟩:=Ro h1
    exact⟨L,g1,g2,g3.trans h2⟩
theorem SolR6.least{p:Prob}{nb u:Int}{t:Tr}(h:SolR6 p nb t u ln pt cnt e)(hp:p.Ok)(he:e=0){L:List (Int->Int)}(hL:LFit p L)(hc:∀j,0<=j->j<p.m->p.D j<=XI L j):nb<=L.length:=by
  rcases h with⟨h,_⟩|⟨_,_,h,_⟩|⟨_,_,_,_,_,_,⟨h1,_⟩|⟨_,_,h1⟩⟩
  · exact absurd hp h
  · omega
  · omega
  · have:=U9 t h1 hL hc;omega
def pX:Prob:=⟨2,fun k=> [6,4].getD k.toNat 0,2,fun k=> [2,2].getD k.toNat 0,10,0⟩
def lX:Int->Int:=fun k=> [1,1,0].getD k.toNat 0
theorem UI:pX.Ok:=⟨by decide,by decide,rfl,by decide,by decide,by decide,by decide,Gw.two (by unfold Prob.each;decide) (by unfold Prob.each;decide)⟩
theorem ZcB:ZN pX=4:=by decide
theorem ZiR:XP pX 1 3 lX:=by
  have hc:Chk pX (3-1) (fun k=>lX (k+1)) (lX 0)=0:=ZfT UI ⟨by decide,by decide,Gw.two (by decide) (by decide)⟩ rfl (by decide)
  refine⟨⟨UI,by decide,by decide⟩,by decide,hc,?_⟩
  rw [Vw hc];decide
def oX:Int->Int:=fun k=> [1,1].getD k.toNat 0
theorem Zjt:FitsP pX pX.m oX:=⟨UI,rfl,Gw.two (by decide) (by decide),by decide⟩
theorem Zjo{nb u:Int}{t:Tr}(h:SolR6 pX nb t u ln pt cnt e):e=0/\nb=2/\Vy pX nb u ln pt cnt t:=by
  have he:=h.fine UI (by rw [ZcB];decide)
  obtain⟨L,g1,g2,g3⟩:=h.bars UI he
  have h1:=U9 (.mk 0 (.slice none 0 0) 0 (fun _=> .nil) (.slice none 0 0) 3 lX) (Xl rfl ZiR) g1 g2
  have h2:=h.least UI he (L:= [oX,oX]) (fun a ha=>by
    simp only [List.mem_cons,List.not_mem_nil,or_false,or_self] at ha
    rw [ha];exact Zjt) (Gw.two (by decide) (by decide))
  have h3:nb<=2:=h2
  refine⟨he,by omega,?_⟩
  rcases h with⟨h,_⟩|⟨_,h,_⟩|⟨_,_,q1,q2,_,_,⟨q3,_⟩|⟨q3,q4,q5⟩⟩
  · exact absurd UI h
  · rw [ZcB] at h;omega
  · omega
  · exact⟨q1,q2,.inr ⟨by omega,(Xj ⟨UI,by omega,by omega⟩ q4 q5).1⟩⟩
theorem TR(w0:World):
    Calls Tryz.prog 11 [].toArray w0 fun e w=>∃v,e= .returned v/\v= .bool true/\Sat w0 w []:=by
  refine zenG Tryz.func11 Tryz.ntmps11 fun w hS=> ?_
  refine zsr<|(zP)<|zlz<|zla (xli (n:=2) (len:=2) (pv:= [(0,.int .i64 6),(1,.int .i64 4)]) (cs:= [.int .i64 6,.int .i64 4]) (c:=ints (fun k=> [6,4].getD k.toNat 0)) Zb Zt hS) ?_;rintro v1 w ⟨hS,hv1⟩
  refine zla (xli (n:=2) (len:=2) (pv:= [(0,.int .i64 2),(1,.int .i64 2)]) (cs:= [.int .i64 2,.int .i64 2]) (c:=ints (fun k=> [2,2].getD k.toNat 0)) Zb Zt hS) ?_;rintro v2 w ⟨hS,hv2⟩
  refine zlv (xany (v:= .agg #[v1,v2,.int .i64 10,.int .i64 0]) (hr:=by obtain⟨_,_,_,_,rfl,_⟩:=hv1;obtain⟨_,_,_,_,rfl,_⟩:=hv2;kernel_rfl)) ?_
  refine zla (xal (cs:= [_,_,_,_]) Zfn hS) ?_;rintro _ w ⟨g1,rfl,hS⟩
  refine zle (xsw 2 st_32 hS (hd:=(Za hv1.one (Za hv2.one (Za rfl (Za rfl Zi)))))) ?_;clear hS;rintro w hS
  refine zlz<|(zV (xls 2 st_32 hS))<|zlc (xc0 Zjb) (Zbk (p:=(⟨2,(fun k=> [6,4].getD k.toNat 0),2,(fun k=> [2,2].getD k.toNat 0),10,0⟩:Prob)) w (⟨(hS.rowN 0 rfl),(hS.rowN 1 rfl),(ZbS _ (by decide)),(ZbS _ (by decide)),(by(try dsimp only);omega),(by(try dsimp only);omega)⟩:PAt _ _ _ (⟨2,(fun k=> [6,4].getD k.toNat 0),2,(fun k=> [2,2].getD k.toNat 0),10,0⟩:Prob))) ?_;rintro _ w ⟨zH,xr,yG,yh,yj,yi,xE,fW,an,rfl,xj,xx,aV,aT,y5,hS'⟩
  replace hS:=(hS.comp hS').n6;clear hS'
  have dV:=fun j (j0:0<=j) (j1:j<yG)=>hS.slhIn 5 rfl j0 j1
  have cz:=SolR6.u xj
  refine(zP)<|(zP)<|(zP)<|zla (xal (cs:= [_,_,_,_,_]) Zfm hS) ?_;rintro _ w ⟨g2,rfl,hS⟩
  refine zle (xsw 6 Xp hS (hd:=(Za rfl (Za y5.one (Za rfl (Za aV.one (Za aT.one Zi))))))) ?_;clear hS;rintro w hS
  refine(zP)<|zlz<|zlv xmv ?_
  obtain⟨hx1,hx2,hx3⟩:=Zjo xj
  refine(zV (xkt YJ))<|(zP)<|(zV (xfb 0 fd_63_0))<|(zV (xlb 6 pl_3 hS))<|(zP)<|(zP)<|(zP)<|zlb 19 ?_ ?_<;>intro hc
  ·
   refine(zV (xls 2 st_32 hS))<|(zV (xls 6 Xp hS))<|zlc (xc0 Zm8) (Zie (u:=yG) (pv:=yh) (ln:=yj) (pt:=yi) (cnt:=xE) (p:=(⟨2,(fun k=> [6,4].getD k.toNat 0),2,(fun k=> [2,2].getD k.toNat 0),10,0⟩:Prob)) (nb:=zH) (t:=xr) w (⟨(hS.rowN 4 rfl),fun k k0 k1=>hS.rowIn 5 rfl k0 k1,fun k k0 k1=>hS.roomIn 5 rfl k0 k1⟩:VAt _ an yG yh yj yi xE) (⟨(hS.rowN 0 rfl),(hS.rowN 1 rfl),(ZbS _ (by decide)),(ZbS _ (by decide)),(by(try dsimp only);omega),(by(try dsimp only);omega)⟩:PAt _ _ _ (⟨2,(fun k=> [6,4].getD k.toNat 0),2,(fun k=> [2,2].getD k.toNat 0),10,0⟩:Prob)) (Tr.fr2_at xr xx (hS.holds (.sem (Tr.fr2 54 3 xr)) (by repeat first|exact List.mem_cons_self .. |apply List.mem_cons_of_mem))).1 (Tr.fr2_at xr xx (hS.holds (.sem (Tr.fr2 54 3 xr)) (by repeat first|exact List.mem_cons_self .. |apply List.mem_cons_of_mem))).2 (by omega)) ?_;rintro _ w ⟨rfl,hS'⟩
   replace hS:=hS.cmp hS';clear hS'
   refine ZbA 22 (u:= .bool true) (ZK hx3) ?_
   refine(zP)<|(zP)<|(zV (xls 2 st_32 hS))<|zlv (xany (v:= .agg #[v1,v2,.int .i64 10,.int .i64 0,.int .i64 1]) (hr:=by obtain⟨_,_,_,_,rfl,_⟩:=hv1;obtain⟨_,_,_,_,rfl,_⟩:=hv2;kernel_rfl)) ?_
   refine zla (xli (n:=3) (len:=3) (pv:= [(0,.int .i64 1),(1,.int .i64 1),(2,.int .i64 0)]) (cs:= [.int .i64 1,.int .i64 1,.int .i64 0]) (c:=ints (fun k=> [1,1,0].getD k.toNat 0)) Zb Zt hS) ?_;rintro v3 w ⟨hS,hv3⟩
   refine zlc (xc0 Zjc) (Zgq (p:=(⟨2,(fun k=> [6,4].getD k.toNat 0),2,(fun k=> [2,2].getD k.toNat 0),10,0⟩:Prob)) (b:=1) w (⟨(hS.rowN 0 rfl),(hS.rowN 1 rfl),(ZbS _ (by decide)),(ZbS _ (by decide)),(by(try dsimp only);omega),(by(try dsimp only);omega)⟩:PAt _ _ _ (⟨2,(fun k=> [6,4].getD k.toNat 0),2,(fun k=> [2,2].getD k.toNat 0),10,0⟩:Prob)) (⟨(hS.rowN 7 rfl),(ZbS _ (by decide))⟩:IAt _ _ 3 (fun k=> [1,1,0].getD k.toNat 0)) (Ent.holds.roomy (hS.holds _ (List.mem_of_getElem? (i:=7) rfl)))) ?_;rintro _ w ⟨rfl,hS'⟩
   replace hS:=hS.cmp hS';clear hS'
   refine ZbA 28 (u:= .bool true) (ZK ZiR) ?_
   refine(zP)<|(zP)<|zx1<|zf1 ⟨_,rfl,?_⟩
   exact⟨rfl,hS.nl⟩
  iterate 3 refine zlo ?_
  refine zs2 ?_
  iterate 4 refine zlo ?_
  refine(zP)<|(zP)<|zx1<|zf1 ⟨_,rfl,?_⟩
  exfalso;omega
end Go.Proofs.YtkichmnjjblodaaGreat
namespace Go.Proofs.YtkichmnjjblodaaGreat
open Go Go.RowKit Go.Proofs.Gw
theorem ZfO:Zc Tryz.prog 11=true:=by kernel_rfl
theorem Zne:Zc Tryz.prog 12=true:=by kernel_rfl
theorem SolR6.nb{p:Prob}{nb u e:Int}{t:Tr}{ln cnt:Int->Int}{pt:Int->Int->Int}(h:SolR6 p nb t u ln pt cnt e):0<=nb/\nb<=1000:=by
  rcases h with⟨_,_,h,_⟩|⟨_,_,_,h,_⟩|⟨_,_,h1,h2,h3,_⟩
  · omega
  · omega
  · have:=Znx h1;omega
end Go.Proofs.YtkichmnjjblodaaGreat
namespace Go.Proofs.YtkichmnjjblodaaGreat
open Go Go.RowKit Go.Proofs.Gw
variable {e:Int} {cnt ln:Int->Int} {pt:Int->Int->Int}
theorem Zi8:Zc Tryz.prog 40=true:=by kernel_rfl
theorem SolR6.bad{p:Prob}{nb u:Int}{t:Tr}(h:SolR6 p nb t u ln pt cnt e)(hp:¬p.Ok):e=1/\nb=0/\u=0:=by
  rcases h with⟨_,h1,h2,_,h3⟩|⟨h,_⟩|⟨h,_⟩
  · exact⟨h1,h2,h3⟩
  · exact absurd h hp
  · exact absurd h hp
theorem SolR6.lim{p:Prob}{nb u:Int}{t:Tr}(h:SolR6 p nb t u ln pt cnt e)(hp:p.Ok)(he:e≠0):e=9/\nb=0/\u=0:=by
  rcases h with⟨h,_⟩|⟨_,_,h1,h2,_,h3⟩|⟨_,h,_⟩
  · exact absurd hp h
  · exact⟨h1,h2,h3⟩
  · exact absurd h he
theorem SolR6.right{p:Prob}{nb u:Int}{t:Tr}(h:SolR6 p nb t u ln pt cnt e)(hp:p.Ok)(he:e=0):Vy p nb u ln pt cnt t:=by
  rcases h with⟨h,_⟩|⟨_,_,h,_⟩|⟨_,_,h1,h2,h3,_,⟨h4,h5⟩|⟨h4,h5,h6⟩⟩
  · exact absurd hp h
  · omega
  · exact⟨h1,h2,.inl ⟨h4,h5⟩⟩
  · exact⟨h1,h2,.inr ⟨by omega,(Xj ⟨hp,by omega,by omega⟩ h5 h6).1⟩⟩
theorem SolR6.plan{p:Prob}{nb u v:Int}{t:Tr}{ln2 qe:Int->Int}{pt2:Int->Int->Int}(h:SolR6 p nb t u ln pt cnt e)(hp:p.Ok)(he:e=0)(hm:PlanOk p v ln2 pt2 qe/\∀j,0<=j->j<p.m->p.D j<=Zp v pt2 qe j):nb<=psum (fun _=>1) qe v.toNat:=by
  obtain⟨L,g1,g2,g3⟩:=Ro hm
  rw [<-g3];exact h.least hp he g1 g2
theorem Zcd:∀(t:Tr) (w0:World) (hK:KAt w0 t) (hV:LvAt w0 t),
    Calls Tryz.prog 40 [.agg #[.int .i64 t.s,t.vK,t.vL]].toArray w0 fun e w=>∃v,e= .returned v/\∃u:Tr,v= .agg #[.int .i64 u.s,u.vK,u.vL]/\Sim t u/\Slh u.vK u.n/\Slh u.vL u.nl/\Sat w0 w [.sem (u.frame 45)]:=by
  refine Tr.ind fun t ih=> ?_
  intro w0 hK hV
  have hn:=hK.row.slh.n0;have hn1:=hK.row.slh.n1;have hln:=hV.leaf.row.slh.n0;have xU:=hV.leaf.row.slh.n1
  have hbd:=hK.bd
  refine zenG Tryz.func40 Tryz.ntmps40 fun w hS=> ?_
  refine zsr<|zla (xbx (cs:= [_,_,_]) hS) ?_;rintro _ w ⟨g1,rfl,hS⟩
  refine zla (xal (cs:= [_,_,_]) ZcW hS) ?_;rintro _ w ⟨g2,rfl,hS⟩
  refine zlz<|(zV (xfb 0 fd_54_0))<|(zV (xlb 0 pl_3 hS))<|(zV (xfb 2 fd_54_2))<|(zV (xlb 0 pl_22 hS))<|zlv (xany (v:= .agg #[.int .i64 t.s,.slice none 0 0,t.vL]) (hr:=by have hz:=(hV).leaf.row.slh;revert hz;generalize t.vL=z;rintro⟨_,_,_,_,rfl,_⟩;show _=_;kernel_rfl)) ?_
  refine zla (xal (cs:= [_,_,_]) ZcW hS) ?_;rintro _ w ⟨g3,rfl,hS⟩
  refine zle (xsw 2 st_45 hS (hd:=(Za rfl (Za rfl (Za (hV).leaf.row.slh.one Zi))))) ?_;clear hS;rintro w hS
  refine zx5<|(zV (xfb 1 fd_54_1))<|(zV (xlb 0 XF hS))<|(zV (xln YM (hK).row.slh))<|(zP)<|zx6 ?_
  replace hS:=hS.addnil 3 45 (Ym (fun _=> .nil))
  replace hS:=hS.addall (fun z9=>((fun _=>Tr.nil) z9).frame 45)
  refine zlp (fun mm M w=>∃(kd:Int->Tr) (wK:Value) (i:Int),mm=((t.n-i).toNat)/\(0<=i)/\(i<=t.n)/\(Slh wK i)/\(∀k,0<=k->k<i->Sim (t.kid k) (kd k))/\M= [(2,.pointer (some ⟨g2,0,none⟩)),(3,.pointer (some ⟨g3,0,none⟩)),(12,t.vK),(13,.int .i64 t.n),(14,.int .i64 i)]/\Sat w0 w [.blk g1 [.int .i64 t.s,t.vK,t.vL],.blk g2 [.int .i64 0,.slice none 0 0,.slice none 0 0],.blk g3 [.int .i64 t.s,wK,t.vL],.own wK 3 45 i (Ym kd),.sem (Frame.all i (fun z9=>(kd z9).frame 45))]) ⟨(fun _=>Tr.nil),(.slice none 0 0),0,rfl,(by omega),(by omega),?_,?_,rfl,hS⟩ ?_
  ·
   exact slh_nil
  ·
   intro k k0 k1;omega
  clear hS w
  rintro mm M w ⟨kd,wK,i,rfl,h0,h1,hwK,hsm,rfl,hS⟩
  refine zsr<|(zP)<|zx7<|Zf ?_ ?_<;>intro hc
  ·
   refine zx3<|(zV (xix (kk:=3*i) YM (hK).row.slh))<|(zV (xlw (cs:= [.int .i64 ((t.kid i).s),(t.kid i).vK,(t.kid i).vL]) st_54 ((hK).row.below hS.below) (Yl (q:=3*i) (i:=i) _ (by omega))))<|zla (xal (cs:= [_,_,_]) WB hS) ?_;rintro _ w ⟨g4,rfl,hS⟩
   refine zle (xsw 5 st_54 hS (hd:=(Za rfl (Za ((hK).sub (i:=i) (by omega) (by omega)).row.slh.one (Za ((hV).sub (i:=i) (by omega) (by omega)).leaf.row.slh.one Zi))))) ?_;clear hS;rintro w hS
   refine zlt<|zdst [0,1,2,5] [0,1,5] 7 mx_ hS ?_;clear hS;intro w hS
   refine(zDw 0 (xfb 1 fd_45_1))<|zdl 1 (fun w hS=>(xlb 2 YT hS)) ?_
   refine(zDl 2 (fun w hS=>(xls 2 st_54 hS)))<|zdc 3 (xc0 Zi8) (ih i (by omega) (by omega) w (KAt.below hS.below ((hK).sub (i:=i) (by omega) (by omega))) (LvAt.below hS.below ((hV).sub (i:=i) (by omega) (by omega)))) ?_;rintro _ w ⟨u1,rfl,zo,z7,z6,hS'⟩
   replace hS:=(hS.comp hS').n7;clear hS'
   refine⟨⟨fun _=>hS.pk [0,1,2,5],hS.pk [0,1,5]⟩,?_⟩
   refine zda 4 (xli (n:=1) (len:=1) (pv:= [(0,.agg #[.int .i64 u1.s,u1.vK,u1.vL])]) (cs:= [.int .i64 u1.s,u1.vK,u1.vL]) (c:=XC (fun _=>u1.s) (fun _=>u1.vK) (fun _=>u1.vL)) YS ZcW hS (hf:=by have hz:=z7;revert hz;generalize u1.vK=z;rintro⟨_,_,_,_,rfl,_⟩;show _=_;have hz:=z6;revert hz;generalize u1.vL=z;rintro⟨_,_,_,_,rfl,_⟩;show _=_;kernel_rfl)) ?_;rintro v1 w ⟨hS,hv1⟩
   refine⟨⟨fun _=>hS.pk [0,1,2,5],hS.pk [0,1,5]⟩,?_⟩
   refine zda 5 (xap 3 (r:=i+1) YS ZcW hS (hS.rowN 7 rfl) (TN _ _ _) (h1:=fun k _ _=>Td (fun _=>z7.one) (fun _=>z6.one) k)) ?_;rintro v2 w ⟨hS,hv2⟩
   replace hS:=Sat.allsnoc (l1:= [_,_,_,_]) (l2:= [_]) (l3:= [_]) hS (by omega) (H:=fun z9=>(gsn kd i u1 z9).frame 45) (fun k k0 k1=>by(try dsimp only);rw [ZA k1]) (by(try dsimp only);rw [YN])
   refine⟨⟨fun _=>hS.pk [0,1,2,5],hS.pk [0,1,5]⟩,?_⟩
   refine(zDw 6 (xfb 1 fd_45_1))<|zde 7 (xsb 2 YT hS (hv:=hv2.one)) ?_;clear hS;rintro w hS
   refine⟨⟨fun h=>absurd h (by decide),hS.pk [0,1,5]⟩,?_⟩
   refine zdd<|zbn<|ztn<|zrg ?_
   refine(zV (Zh (r:=i+1)))<|(zP)<|zln<|zlq ⟨(gsn kd i u1),v2,i+1,rfl,(by omega),(by omega),?_,?_,rfl,hS.pk [0,1,2,3,4]⟩
   ·
    exact hv2
   ·
    intro k k0 k1;by_cases e:k<i
    · rw [ZA e];exact hsm k k0 e
    · rw [ZJ e,show k=i by omega];exact zo
  refine zx8<|(zV (xls 2 st_45 hS))<|zle (xsw 1 st_45 hS (hd:=(Za rfl (Za hwK.one (Za (hV).leaf.row.slh.one Zi))))) ?_;clear hS;rintro w hS
  refine zx1<|zfc 1 st_45 hS ⟨_,rfl,?_⟩
  exact⟨.mk t.s wK i kd t.vL t.nl t.l,rfl,Sim.mk' rfl (by show i=t.n;omega) rfl rfl rfl (fun k k0 k1=>hsm k k0 (by omega)),hwK,hV.leaf.row.slh,Sat.tree (l:= []) (hS.pk [3,4]) t.s t.vL t.nl t.l⟩
end Go.Proofs.YtkichmnjjblodaaGreat
namespace Go.Proofs.YtkichmnjjblodaaGreat
open Go Go.RowKit Go.Proofs.Gw
theorem Zm4:Zc Tryz.prog 38=true:=by kernel_rfl
theorem ZmC:ZW Tryz.prog 58=some (.agg #[.int .i64 0,.slice none 0 0,.int .i64 0,.slice none 0 0,.slice none 0 0],5,88):=by kernel_rfl
theorem ZiN:Zy Tryz.prog 58=some 5:=by kernel_rfl
theorem Zcc{vV:Value}{u:Int}{pv:Int->Value}{ln:Int->Int}{pt:Int->Int->Int}{cnt:Int->Int}{nb:Int}{t:Tr}(w0:World)(hV:VAt w0 vV u pv ln pt cnt)(hK:KAt w0 t)(hT:LvAt w0 t)(hu5:u<=1000):
    Calls Tryz.prog 32 [.agg #[.int .i64 nb,vV,.int .i64 t.s,t.vK,t.vL]].toArray w0 fun e w=>∃v,e= .returned v/\∃r u2,v= .agg #[.int .i64 nb,r,.int .i64 (Tr.s u2),u2.vK,u2.vL]/\Sim t u2/\Slh u2.vK u2.n/\Slh u2.vL u2.nl/\Slh r u/\Sat w0 w [.own r 2 103 u (Zg pv cnt),.sem (u2.frame 45)]:=by
  have hn:=hK.row.slh.n0;have hn1:=hK.row.slh.n1;have hln:=hT.leaf.row.slh.n0;have xU:=hT.leaf.row.slh.n1
  have hu:=hV.row.slh.n0;have hu1:=hV.row.slh.n1
  refine zenG Tryz.func32 Tryz.ntmps32 fun w hS=> ?_
  refine zsr<|zla (xbx (cs:= [_,_,_,_,_]) hS) ?_;rintro _ w ⟨g1,rfl,hS⟩
  refine zla (xal (cs:= [_,_,_,_,_]) ZmC hS) ?_;rintro _ w ⟨g2,rfl,hS⟩
  refine zx7<|zdst [0,1] [0] 9 mx_ hS ?_;clear hS;intro w hS
  refine(zDw 0 (xfb 0 fd_63_0))<|(zDl 1 (fun w hS=>(xlb 0 pl_3 hS)))<|(zDw 2 (xfb 1 VZ))<|(zDl 3 (fun w hS=>(xlb 0 pl_60 hS)))<|(zDw 5 (xfb 2 Ky))<|(zDl 6 (fun w hS=>(xlp 0 (ds:= [.int .i64 t.s,t.vK,t.vL]) st_54 hS)))<|zdc 4 (xc0 Zm4) (Zf0 (n:=u) (pv:=pv) (ln:=ln) (pt:=pt) (cnt:=cnt) w (hV.below hS.below) (by omega)) ?_;rintro dc w ⟨_,rfl,ze,hS'⟩
  replace hS:=(hS.comp hS').n3;clear hS'
  refine⟨⟨fun _=>hS.pk [0,1],hS.pk [0]⟩,?_⟩
  refine zdc 7 (xc0 Zi8) (Zcd t w (KAt.below hS.below (hK)) (LvAt.below hS.below (hT))) ?_;rintro _ w ⟨u1,rfl,zo,z7,z6,hS'⟩
  replace hS:=(hS.comp hS').n4;clear hS'
  refine⟨⟨fun _=>hS.pk [0,1],hS.pk [0]⟩,?_⟩
  refine zDrv 8 (xany (v:= .agg #[.int .i64 nb,dc,.int .i64 u1.s,u1.vK,u1.vL]) (hr:=by obtain⟨_,_,_,_,rfl,_⟩:=ze;have hz:=z7;revert hz;generalize u1.vK=z;rintro⟨_,_,_,_,rfl,_⟩;show _=_;have hz:=z6;revert hz;generalize u1.vL=z;rintro⟨_,_,_,_,rfl,_⟩;show _=_;kernel_rfl)) ?_
  refine zde 9 (xsw 1 ZiN hS (hd:=(Za rfl (Za ze.one (Za rfl (Za z7.one (Za z6.one Zi))))))) ?_;clear hS;rintro w hS
  refine⟨⟨fun h=>absurd h (by decide),hS.pk [0]⟩,?_⟩
  refine zdd<|ztn<|zrt<|zfc 1 ZiN hS ⟨_,rfl,?_⟩
  exact⟨_,u1,rfl,zo,z7,z6,ze,hS.pk [2,3]⟩
end Go.Proofs.YtkichmnjjblodaaGreat
namespace Go.Proofs.YtkichmnjjblodaaGreat
open Go Go.RowKit Go.Proofs.Gw
theorem Znb:Zc Tryz.prog 20=true:=by kernel_rfl
theorem Zm7:Zc Tryz.prog 27=true:=by kernel_rfl
theorem Zm6:Zc Tryz.prog 32=true:=by kernel_rfl
theorem ZdR{vL vD:Value}{p:Prob}{vV:Value}{u:Int}{pv:Int->Value}{ln:Int->Int}{pt:Int->Int->Int}{cnt:Int->Int}(w0:World)(hV:VAt w0 vV u pv ln pt cnt)(h:PAt w0 vL vD p):
    Calls Tryz.prog 6 [.agg #[vL,vD,.int .i64 p.stock,.int .i64 p.kerf],vV].toArray w0 fun e w=>∃v,e= .returned v/\v= .bool true/\Sat w0 w []:=by
  have hm:=h.L.slh.n0;have hm1:=h.L.slh.n1;have hd:=h.D.slh.n0;have hd1:=h.D.slh.n1;have hs:=h.is;have hk:=h.ik
  have hu:=hV.row.slh.n0;have hu1:=hV.row.slh.n1
  refine zenG Tryz.func6 Tryz.ntmps6 fun w hS=> ?_
  refine zsr<|zla (xbx (cs:= [_,_,_,_]) hS) ?_;rintro _ w ⟨g1,rfl,hS⟩
  refine(zP)<|zx5<|zlc (xc0 ZfO) (TR w) ?_;rintro _ w ⟨rfl,hS'⟩
  replace hS:=hS.cmp hS';clear hS'
  refine(zP)<|(zP)<|(zV (xls 0 Z5 hS))<|zlc (xc0 Zne) (Zis (p:=p) w (h.below hS.below)) ?_;rintro _ w ⟨rfl,hS'⟩
  replace hS:=hS.cmp hS';clear hS'
  refine(zP)<|(zP)<|(zP)<|zlb 14 ?_ ?_<;>intro hc
  ·
   iterate 3 refine zlo ?_
   refine(zP)<|zlt<|zct<|zsr ?_
   refine zlc (xc0 ZfO) (TR w) ?_;rintro _ w ⟨rfl,hS'⟩
   replace hS:=hS.cmp hS';clear hS'
   refine(zP)<|zx14<|zf1 ⟨_,rfl,?_⟩
   exact⟨rfl,hS.nl⟩
  refine(zP)<|zlc (xc0 Znb) (Zd4 (u:=u) (pv:=pv) (ln:=ln) (pt:=pt) (cnt:=cnt) w (hV.below hS.below)) ?_;rintro _ w ⟨rfl,hS'⟩
  replace hS:=hS.cmp hS';clear hS'
  refine(zP)<|(zP)<|zlt<|Zf ?_ ?_<;>intro hc
  ·
   refine zsr<|zlc (xc0 ZfO) (TR w) ?_;rintro _ w ⟨rfl,hS'⟩
   replace hS:=hS.cmp hS';clear hS'
   refine(zP)<|zx14<|zf1 ⟨_,rfl,?_⟩
   exact⟨rfl,hS.nl⟩
  refine ZT<|zlv (xls 0 Z5 hS) ?_
  have hsf:=(show ShortP u ln cnt by first|assumption|exact Classical.not_not.1 ‹_›).few
  refine zlc (xc0 Zjb) (Zbk (p:=p) w (h.below hS.below)) ?_;rintro _ w ⟨zH,xr,yG,yh,yj,yi,xE,fW,an,rfl,xj,xx,aV,aT,y5,hS'⟩
  replace hS:=(hS.comp hS').n4;clear hS'
  have dV:=fun j (j0:0<=j) (j1:j<yG)=>hS.slhIn 3 rfl j0 j1
  have cz:=SolR6.u xj
  refine(zP)<|(zP)<|(zP)<|zla (xal (cs:= [_,_,_,_,_]) Zfm hS) ?_;rintro _ w ⟨g2,rfl,hS⟩
  refine zle (xsw 4 Xp hS (hd:=(Za rfl (Za y5.one (Za rfl (Za aV.one (Za aT.one Zi))))))) ?_;clear hS;rintro w hS
  refine(zP)<|zx5<|(zV (xls 0 Z5 hS))<|zlc (xc0 UN) (YE (p:=p) w (h.below hS.below)) ?_;rintro _ w ⟨rfl,hS'⟩
  replace hS:=hS.cmp hS';clear hS'
  refine(zP)<|zlt<|Zf ?_ ?_<;>intro hc
  ·
   refine zsr<|zlv xmv ?_
   obtain⟨hx1,hx2,hx3⟩:=xj.bad ‹¬p.Ok›
   refine(zP)<|(zP)<|zlb 30 ?_ ?_<;>intro hc
   ·
    refine(zV (xfb 0 fd_63_0))<|(zV (xlb 4 pl_3 hS))<|(zV (xkt YJ))<|(zP)<|(zP)<|(zV (xfb 1 VZ))<|(zV (xlb 4 pl_60 hS))<|(zV (xln ZO y5))<|(zV (xkt YJ))<|(zP)<|(zP)<|zx14<|zf1 ⟨_,rfl,?_⟩
    exact⟨rfl,hS.nl⟩
   iterate 3 refine zlo ?_
   refine zs2 ?_
   iterate 4 refine zlo ?_
   refine(zP)<|(zP)<|zx14<|zf1 ⟨_,rfl,?_⟩
   exfalso;first|omega|contradiction
  refine YL<|(zP)<|(zP)<|zlt<|Zf ?_ ?_<;>intro hc
  ·
   refine zsr<|zlv xmv ?_
   obtain⟨hx1,hx2,hx3⟩:=xj.lim (by first|assumption|exact Classical.not_not.1 ‹_›) (by omega)
   refine(zP)<|(zP)<|zlb 45 ?_ ?_<;>intro hc
   ·
    refine(zV (xfb 0 fd_63_0))<|(zV (xlb 4 pl_3 hS))<|(zV (xkt YJ))<|(zP)<|(zP)<|(zV (xfb 1 VZ))<|(zV (xlb 4 pl_60 hS))<|(zV (xln ZO y5))<|(zV (xkt YJ))<|(zP)<|(zP)<|zx14<|zf1 ⟨_,rfl,?_⟩
    exact⟨rfl,hS.nl⟩
   iterate 3 refine zlo ?_
   refine zs2 ?_
   iterate 4 refine zlo ?_
   refine(zP)<|(zP)<|zx14<|zf1 ⟨_,rfl,?_⟩
   exfalso;first|omega|contradiction
  refine zsk<|ztn<|zsq<|zdst [0,1,2,3,4] [0,1,2,3,4] 1000 mx_ hS ?_;clear hS;intro w hS
  refine zdla 0 (fun w hS=>(xls 0 Z5 hS)) ?_
  have hok:p.Ok:=(by first|assumption|exact Classical.not_not.1 ‹_›)
  refine(zDl 1 (fun w hS=>(xls 4 Xp hS)))<|zdc 2 (xc0 Zm6) (Zcc (u:=yG) (pv:=yh) (ln:=yj) (pt:=yi) (cnt:=xE) (nb:=zH) (t:=xr) w (⟨(hS.rowN 2 rfl),fun k k0 k1=>hS.rowIn 3 rfl k0 k1,fun k k0 k1=>hS.roomIn 3 rfl k0 k1⟩:VAt _ an yG yh yj yi xE) (Tr.fr2_at xr xx (hS.holds (.sem (Tr.fr2 54 3 xr)) (by repeat first|exact List.mem_cons_self .. |apply List.mem_cons_of_mem))).1 (Tr.fr2_at xr xx (hS.holds (.sem (Tr.fr2 54 3 xr)) (by repeat first|exact List.mem_cons_self .. |apply List.mem_cons_of_mem))).2 (by omega)) ?_;rintro _ w ⟨eX,du,rfl,yM,jd,gZ,gM,hS'⟩
  replace hS:=(hS.comp hS').n7;clear hS'
  refine⟨⟨fun _=>hS.pk [0,1,2,3,4],hS.pk [0,1,2,3,4]⟩,?_⟩
  refine zdc 3 (xc0 Zm7) (Zf8 (u:=yG) (pv:=yh) (ln:=yj) (pt:=yi) (cnt:=xE) (p:=p) (nb:=zH) (t:=du) w (⟨(hS.rowN 5 rfl),fun k k0 k1=>hS.rowIn 3 rfl k0 k1,fun k k0 k1=>hS.roomIn 3 rfl k0 k1⟩:VAt _ eX yG yh yj yi xE) (h.below hS.below) (Tr.frame_kat (E:=45) _ yM (Tr.fr2_at xr xx (hS.holds (.sem (Tr.fr2 54 3 xr)) (by repeat first|exact List.mem_cons_self .. |apply List.mem_cons_of_mem))).1 (hS.holds (.sem (Tr.frame 45 du)) (by repeat first|exact List.mem_cons_self .. |apply List.mem_cons_of_mem))) (Sim.vat _ yM (Tr.fr2_at xr xx (hS.holds (.sem (Tr.fr2 54 3 xr)) (by repeat first|exact List.mem_cons_self .. |apply List.mem_cons_of_mem))).2) (by omega)) ?_;rintro _ w ⟨rfl,hS'⟩
  replace hS:=hS.cmp hS';clear hS'
  refine⟨⟨fun _=>hS.pk [0,1,2,3,4],hS.pk [0,1,2,3,4]⟩,?_⟩
  refine(zDw 4 xmv)<|ZnF 60 (u:= .bool true) (ZK ((ZdA yM).2 (xj.right hok (by omega)))) ?_
  refine(zDl 5 (fun w hS=>(xls 0 Z5 hS)))<|(zDw 6 xmv)<|zdc 7 (xc0 Zja) (Zbj (u:=u) (pv:=pv) (ln:=ln) (pt:=pt) (cnt:=cnt) (p:=p) w (hV.below hS.below) (h.below hS.below)) ?_;rintro _ w ⟨rfl,hS'⟩
  replace hS:=hS.cmp hS';clear hS'
  refine⟨⟨fun _=>hS.pk [0,1,2,3,4],hS.pk [0,1,2,3,4]⟩,?_⟩
  refine(zDw 8 Yy)<|(zDw 9 xmv)<|zdb 65 ?_ ?_<;>intro hc
  ·
   refine(zDo 10)<|(zDo 11)<|(zDo 12)<|(zDo 13)<|(zDo 14)<|(zDw 15 xpt)<|(zDw 16 xpt)<|(zDw 17 xas)<|zdd<|ztn<|zrt<|zf1 ⟨_,rfl,?_⟩
   exact⟨rfl,hS.nl⟩
  refine(zDw 10 (xfb 0 fd_63_0))<|(zDl 11 (fun w hS=>(xlb 4 pl_3 hS)))<|zDrv 12 xmv ?_
  have hle:=xj.plan hok (by omega) (show PlanOk p u ln pt cnt/\∀j,0<=j->j<p.m->p.D j<=Zp u pt cnt j by first|assumption|exact Classical.not_not.1 ‹_›)
  refine zdc 13 (xc0 Zi9) (Zc9 (u:=u) (pv:=pv) (ln:=ln) (pt:=pt) (cnt:=cnt) w (hV.below hS.below) (by omega) (fun k k0 k1=>by have h9:=(show PlanOk p u ln pt cnt/\∀j,0<=j->j<p.m->p.D j<=Zp u pt cnt j by first|assumption|exact Classical.not_not.1 ‹_›).1.2.2 k k0 k1;omega)) ?_;rintro _ w ⟨rfl,hS'⟩
  replace hS:=hS.cmp hS';clear hS'
  refine⟨⟨fun _=>hS.pk [0,1,2,3,4],hS.pk [0,1,2,3,4]⟩,?_⟩
  refine(zDw 14 (xkt Xb))<|(zDw 15 xpf)<|(zDw 16 xpt)<|(zDw 17 xas)<|zdd<|ztn<|zrt<|zf1 ⟨_,rfl,?_⟩
  exact⟨rfl,hS.nl⟩
end Go.Proofs.YtkichmnjjblodaaGreat
namespace Go.Proofs.Gw
open Go Go.RowKit Go.ChangeShapes Go.WideShapes Go.ChangeAt
section
variable {H:Type} {enc:TypeId×Value->H} {P:Program} {w:World} {held:Bool}
def Small{H:Type}(P:Program)(t:TypeId)(d:DataW H):Prop:=(d.weights P t).all (· <=reachBytes)=true
theorem Vq{ts:List TypeId}{ds:List (DataW H)}(h:(DataW.weightsEach P ts ds).all (· <=reachBytes)=true){j:Nat}{t:TypeId}{d:DataW H}(ht:ts[j]? =some t)(hd:ds[j]? =some d):Small P t d:=
  List.all_eq_true.2 fun n hn=>List.all_eq_true.1 h n (DataW.weights_mem_each ht hd n hn)
theorem Kj{t:TypeId}{fs:Array Field}{parts:List (DataW H)}(h:Small P t (.agg parts))(hu:P.underlying t=some (.struct fs)){j:Nat}{u:TypeId}{d:DataW H}(ht:(fs.toList.map (·.type))[j]? =some u)(hd:parts[j]? =some d):Small P u d:=by
  unfold Small at h
  simp only [DataW.weights,hu] at h
  exact Vq h ht hd
theorem Uf{e:TypeId}:∀{ds:List (DataW H)},(DataW.weightsAll P e ds).all (· <=reachBytes)=true->∀d∈ds,Small P e d
  | [],_,d,hd=>by cases hd
  | x::r,h,d,hd=>by
    simp only [DataW.weightsAll,List.all_append,Bool.and_eq_true] at h
    rcases List.mem_cons.1 hd with rfl|hd
    · exact h.1
    · exact Uf h.2 d hd
theorem Zay{t e:TypeId}{elems spare:List (DataW H)}(h:Small P t (.slice elems spare))(hu:P.underlying t=some (.slice e)):(elems.length+spare.length)*P.bytesOf e<=reachBytes/\∀d∈elems,Small P e d:=by
  unfold Small at h
  simp only [DataW.weights,hu,List.all_cons,List.all_append,Bool.and_eq_true,decide_eq_true_eq] at h
  exact⟨h.1,Uf h.2.1⟩
theorem Ka{n:Int}(h:(Lit.int .i64 n).wf=true): -9223372036854775808<=n/\n<=9223372036854775807:=by
  simp only [Lit.wf,Bool.and_eq_true,decide_eq_true_eq] at h
  have h1:IntKind.i64.min= -9223372036854775808:=by decide
  have h2:IntKind.i64.max=9223372036854775807:=by decide
  omega
theorem Zdw{a:Addr}{v:Value}(h:w.cell? a=some v):a.spot=none:=World.cell?_spot h
end
end Go.Proofs.Gw
namespace Go.Proofs.Gw
open Go Go.RowKit Go.ChangeShapes Go.WideShapes Go.ChangeAt
section
variable {H:Type} {enc:TypeId×Value->H} {P:Program} {w:World} {held:Bool}
def Rd{H:Type}(enc:TypeId×Value->H)(P:Program)(w:World)(held:Bool)(t:TypeId)(cs:List Value):Prop:=∃fuel y,DataW.trod enc P w 0 (fun _=>true) held fuel t cs=some y/\Small P t y.1
theorem Rd.int{k:IntKind}{t:TypeId}{cs:List Value}(h:Rd enc P w held t cs)(ht:P.underlying t=some (.int k)):∃n,cs= [.int k n]/\(Lit.int k n).wf=true:=by
  obtain⟨fuel,y,h,_⟩:=h
  obtain⟨n,h1,_,h2⟩:=DataW.trod_int ht h
  exact⟨n,h1,h2⟩
theorem Rd.intv{k:IntKind}{t:TypeId}{v:Value}(h:Rd enc P w held t [v])(ht:P.underlying t=some (.int k)):∃n,v= .int k n/\(Lit.int k n).wf=true:=by
  obtain⟨n,h1,h2⟩:=h.int ht
  exact⟨n,by simpa using h1,h2⟩
theorem Rd.struct{fs:Array Field}{t:TypeId}{cs:List Value}(h:Rd enc P w held t cs)(ht:P.underlying t=some (.struct fs)):∀(j:Nat) (f:Field),fs[j]? =some f->Rd enc P w held f.type ((cs.drop f.offset).take (P.cellsOf f.type)):=fun j f hf=>by
  obtain⟨fuel,y,h,hs⟩:=h
  obtain⟨xs,n,_,rfl,hl,xD,hx⟩:=DataW.trod_struct ht h
  have hj:j<xs.length:=by rw [xD];exact(Array.getElem?_eq_some_iff.1 hf).1
  have h1:=hx j f hf
  rw [List.getElem?_eq_getElem hj] at h1
  exact⟨n,_,h1,Kj (j:=j) hs ht (by simp [hf]) (by simp [hj])⟩
theorem Rd.len{fs:Array Field}{t:TypeId}{cs:List Value}(h:Rd enc P w held t cs)(ht:P.underlying t=some (.struct fs)):cs.length=P.cellsOf t:=by
  obtain⟨fuel,y,h,hs⟩:=h
  obtain⟨xs,n,_,rfl,hl,xD,hx⟩:=DataW.trod_struct ht h
  exact hl
theorem Rd.slice {t e:TypeId} {s b:Nat} {v:Value} (h:Rd enc P w held t [v]) (ht:P.underlying t=some (.slice e)) (ce:P.cellsOf e=s) (be:P.bytesOf e=b) (hs1:1<=s) (hsb:s<=b):
    ∃(n:Int) (c:Int->Value),Row w v s n c/\b*n<=140737488351232/\∀i:Int,0<=i->i<n->Rd enc P w held e ((List.range s).map fun j:Nat=>c (i*s+j)):=by
  obtain⟨fuel,y,h,hs⟩:=h
  rcases Go.Deep.open_slice ht h with⟨hcs,_⟩|⟨a,len,cap,m,n,D,Pl,hcs,_,hl,hm,hmm,hy,hx⟩
  · simp only [List.cons.injEq,and_true] at hcs
    subst hcs
    exact⟨0,fun _=>undef,⟨⟨by omega,by omega,none,0,rfl,.inl rfl⟩,fun k hk=>by rw [Int.zero_mul] at hk;omega⟩,by omega,fun i a0 a1=>by omega⟩
  · simp only [List.cons.injEq,and_true] at hcs
    subst hcs
    simp only [if_true] at hmm
    subst hmm
    rw [hy] at hs
    have hsm:=Zay hs ht
    have hb1:=hsm.1
    rw [be] at hb1
    simp only [List.length_map,List.length_range] at hb1
    have h2:len*b<=(len+(m-len))*b:=Nat.mul_le_mul_right _ (by omega)
    have h3:len*b<=140737488351232:=by unfold reachBytes at hb1;omega
    have h4:len*1<=len*b:=Nat.mul_le_mul_left _ (by omega)
    rw [ce] at hx
    have e0:∀i:Nat,∃cs':List Value,i<len->w.cells? 0 (a.add (i*s)) s=some cs'/\DataW.trod enc P w 0 (fun _=>true) held n e cs'=some (D i,Pl i):=fun i=>by
      by_cases hi:i<len
      · obtain⟨cs',h5,h6⟩:=hx i (by omega)
        exact⟨cs',fun _=>⟨h5,h6⟩⟩
      · exact⟨[],fun h=>absurd h hi⟩
    obtain⟨C,hC⟩:=Classical.axiomOfChoice e0
    have dS:0<len->a.spot=none:=fun h0=>by
      obtain⟨_,h7,h8⟩:=World.cells?_some (hC 0 h0).1
      have h9:=h8 0 (by omega)
      rw [List.getElem?_eq_getElem (by omega)] at h9
      have h10:=Zdw h9
      simpa [Addr.add] using h10
    refine⟨len,fun k=>(C (k/s).toNat).getD (k%s).toNat undef,⟨⟨by omega,by omega,some a,m,by simp,?_⟩,fun j hj=> ?_⟩,?_,fun i i0 i1=> ?_⟩
    · by_cases hl0:len=0
      · left;omega
      · right
        have hsp:=dS (by omega)
        exact⟨a.block,a.off,by cases a;simp at hsp;simp [hsp]⟩
    · have hjs:j<len*s:=by rw [<-Int.natCast_mul] at hj;omega
      have hi:j/s<len:=(Nat.div_lt_iff_lt_mul (by omega)).2 hjs
      have ew:0<len:=Nat.lt_of_le_of_lt (Nat.zero_le _) hi
      have hsp:=dS ew
      obtain⟨_,h7,h8⟩:=World.cells?_some (hC (j/s) hi).1
      have hr:j%s<s:=Nat.mod_lt _ (by omega)
      have h9:=h8 (j%s) hr
      rw [Addr.add_eq a hsp,Addr.add_eq _ rfl] at h9
      have e1:((j:Int)/(s:Int)).toNat=j/s:=by rw [<-Int.natCast_ediv,Int.toNat_natCast]
      have e2:((j:Int)%(s:Int)).toNat=j%s:=by rw [<-Int.natCast_emod,Int.toNat_natCast]
      have e3:a.off+j/s*s+j%s=a.off+j:=by rw [Nat.add_assoc,Nat.mul_comm,Nat.div_add_mod]
      rw [List.getElem?_eq_getElem (by omega)] at h9
      simp only [e1,e2,List.getD_eq_getElem?_getD]
      rw [List.getElem?_eq_getElem (by omega)]
      simp only [cad,Int.toNat_natCast,Option.getD_some]
      simp only [e3] at h9
      exact h9
    · have:((len*b:Nat):Int)=b*len:=by rw [Int.natCast_mul,Int.mul_comm]
      omega
    · obtain⟨k,rfl⟩:=Int.eq_ofNat_of_zero_le i0
      have hk:k<len:=by omega
      obtain⟨h5,h6⟩:=hC k hk
      obtain⟨_,h7,h8⟩:=World.cells?_some h5
      have e:((List.range s).map fun j:Nat=>(C (((k:Int)*(s:Int)+(j:Int))/(s:Int)).toNat).getD (((k:Int)*(s:Int)+(j:Int))%(s:Int)).toNat undef)=C k:=by
        apply List.ext_getElem
        · simp [h7]
        · intro j hj1 hj2
          rw [List.getElem_map,List.getElem_range]
          have hjs:j<s:=by simpa using hj1
          have e0:((k:Int)*(s:Int)+(j:Int))=((k*s+j:Nat):Int):=by rw [Int.natCast_add,Int.natCast_mul]
          have e1:(((k*s+j:Nat):Int)/(s:Int)).toNat=k:=by
            rw [<-Int.natCast_ediv,Int.toNat_natCast,Nat.mul_comm,Nat.mul_add_div (by omega),Nat.div_eq_of_lt hjs,Nat.add_zero]
          have e2:(((k*s+j:Nat):Int)%(s:Int)).toNat=j:=by
            rw [<-Int.natCast_emod,Int.toNat_natCast,Nat.mul_comm,Nat.mul_add_mod,Nat.mod_eq_of_lt hjs]
          rw [e0,e1,e2,List.getD_eq_getElem?_getD,List.getElem?_eq_getElem hj2,Option.getD_some]
      rw [e]
      exact⟨n,_,h6,hsm.2 (D k) (List.mem_map.2 ⟨k,List.mem_range.2 hk,rfl⟩)⟩
theorem Rd.array{n:Nat}{t e:TypeId}{cs:List Value}(h:Rd enc P w held t cs)(ht:P.underlying t=some (.array n e)):∀i,i<n->Rd enc P w held e ((cs.drop (i*P.cellsOf e)).take (P.cellsOf e)):=fun i hi=>by
  obtain⟨fuel,y,h,hs⟩:=h
  obtain⟨xs,m,_,rfl,_,hl,hel⟩:=DataW.trod_array ht h
  have h1:=hel i hi
  rw [List.getElem?_eq_getElem (by omega)] at h1
  refine⟨m,_,h1,?_⟩
  unfold Small at hs
  simp only [DataW.weights,ht] at hs
  exact Uf hs _ (List.mem_map.2 ⟨xs[i],List.getElem_mem _,rfl⟩)
theorem Rd.field{fs:Array Field}{t u:TypeId}{cs ds:List Value}(h:Rd enc P w held t cs)(ht:P.underlying t=some (.struct fs))(j:Nat){f:Field}(hf:fs[j]? =some f){k:Nat}(hu:f.type=u)(hk:P.cellsOf u=k)(hd:(cs.drop f.offset).take k=ds):Rd enc P w held u ds:=by
  subst hu;subst hd;rw [<-hk];exact h.struct ht j f hf
theorem ZbF{cs:Array Value}{l:List Value}(h:cs.toList=l):cs=l.toArray:=by subst h;simp
theorem Rd.arg{t:TypeId}{v:Value}{d:DataW H}{p:List MemPlace}(h:DataW.Trod enc P w 0 (fun _=>true) held t v d p)(hs:Small P t d):Rd enc P w held t v.cells.toList:=by
  obtain⟨fuel,hf⟩:=h
  exact⟨fuel,_,hf,hs⟩
theorem Zms{cs:List Value}(h:cs.length=4):∃a b c d,cs= [a,b,c,d]:=by match cs,h with| [a,b,c,d],_=>exact⟨_,_,_,_,rfl⟩
theorem Rd.nums{k:IntKind}{t e:TypeId}{b:Nat}{v:Value}(h:Rd enc P w held t [v])(ht:P.underlying t=some (.slice e))(he:P.underlying e=some (.int k))(hc:P.cellsOf e=1)(hb:P.bytesOf e=b)(hb1:1<=b):
    ∃(n:Int) (f:Int->Int),Row w v 1 n (fun j=> .int k (f j))/\b*n<=140737488351232/\∀j,(Lit.int k (f j)).wf=true:=by
  obtain⟨n,c,h1,h2,h3⟩:=h.slice ht hc hb (by omega) hb1
  have h0:(Lit.int k 0).wf=true:=by cases k<;>decide
  have e0:∀i:Int,∃x:Int,(Lit.int k x).wf=true/\(0<=i->i<n->c i= .int k x):=fun i=>by
    by_cases hi:0<=i/\i<n
    · have h4:=h3 i hi.1 hi.2
      simp only [List.range_one,List.map_cons,List.map_nil] at h4
      obtain⟨x,hx,hw⟩:=h4.intv he
      refine⟨x,hw,fun _ _=> ?_⟩
      rw [<-hx];congr 1;omega
    · exact⟨0,h0,fun a0 a1=>absurd ⟨a0,a1⟩ hi⟩
  obtain⟨f,hf⟩:=Classical.axiomOfChoice e0
  exact⟨n,f,h1.congr fun i i0 i1=>(hf i).2 i0 (by omega),h2,fun j=>(hf j).1⟩
theorem Rd.ints{t e:TypeId}{v:Value}(h:Rd enc P w held t [v])(ht:P.underlying t=some (.slice e))(he:P.underlying e=some (.int .i64))(hc:P.cellsOf e=1)(hb:P.bytesOf e=8):∃(n:Int) (f:Int->Int),IAt w v n f:=by
  obtain⟨n,f,h1,_,h2⟩:=h.nums ht he hc hb (by omega)
  exact⟨n,f,h1,fun k=>Ka (h2 k)⟩
end
end Go.Proofs.Gw
namespace Go.Proofs.Gw
open Go Go.RowKit
section
variable {H:Type} {enc:TypeId×Value->H} {P:Program} {w:World} {held:Bool}
theorem Rd.roomy{t e:TypeId}{v:Value}(h:Rd enc P w true t [v])(ht:P.underlying t=some (.slice e)):XO v:=by
  obtain⟨fuel,y,h,hs⟩:=h
  rcases Go.Deep.open_slice ht h with⟨hcs,_⟩|⟨a,len,cap,m,n,D,Pl,hcs,_,hl,hm,hmm,hy,hx⟩
  · simp only [List.cons.injEq,and_true] at hcs
    subst hcs
    intro a len cap e
    cases e
    omega
  · simp only [List.cons.injEq,and_true] at hcs
    subst hcs
    simp only [if_true] at hmm
    subst hmm
    intro a len cap e
    cases e
    omega
end
end Go.Proofs.Gw
namespace Go.Proofs.Gw
open Go Go.RowKit
section
variable {H:Type} {enc:TypeId×Value->H} {P:Program} {w:World} {held:Bool}
theorem Rd.uses {t e i:TypeId} {f0 f1:Field} {b:Nat} {v:Value} (h:Rd enc P w true t [v]) (ht:P.underlying t=some (.slice e)) (he:P.underlying e=some (.struct #[f0,f1])) (ce:P.cellsOf e=2) (be:P.bytesOf e=b) (hb:2<=b)
    (o0:f0.offset=0) (o1:f1.offset=1) (c0:P.cellsOf f0.type=1) (c1:P.cellsOf f1.type=1) (u0:P.underlying f0.type=some (.slice i)) (u1:P.underlying f1.type=some (.int .i64)) (hi:P.underlying i=some (.int .i64)) (ci:P.cellsOf i=1) (bi:P.bytesOf i=8):
    ∃(n:Int) (pv:Int->Value) (ln:Int->Int) (pt:Int->Int->Int) (cnt:Int->Int),UAt w v n pv ln pt cnt/\∀k,0<=k->k<n->XO (pv k):=by
  obtain⟨n,c,h1,h2,h3⟩:=h.slice ht ce be (by omega) hb
  have e0:∀k:Int,∃x:Value×Int×(Int->Int)×Int,(0<=k->k<n->c (2*k)=x.1/\c (2*k+1)= .int .i64 x.2.2.2/\IAt w x.1 x.2.1 x.2.2.1/\XO x.1)/\(-9223372036854775808<=x.2.2.2/\x.2.2.2<=9223372036854775807):=fun k=>by
    by_cases hk:0<=k/\k<n
    · have h4:=h3 k hk.1 hk.2
      have e:((List.range 2).map fun j:Nat=>c (k*(2:Nat)+j))= [c (2*k),c (2*k+1)]:=by
        simp [List.range_succ]
        exact⟨by congr 1;omega,by congr 1;omega⟩
      rw [e] at h4
      have h5:=h4.field he 0 rfl rfl c0 (ds:= [c (2*k)]) (by show List.take 1 (List.drop f0.offset _)=_;rw [o0];rfl)
      obtain⟨m,f,hf⟩:=h5.ints u0 hi ci bi
      obtain⟨y,hy,wy⟩:=(h4.field he 1 rfl rfl c1 (ds:= [c (2*k+1)]) (by show List.take 1 (List.drop f1.offset _)=_;rw [o1];rfl)).intv u1
      exact⟨(c (2*k),m,f,y),fun _ _=>⟨rfl,hy,hf,h5.roomy u0⟩,Ka wy⟩
    · exact⟨(undef,0,fun _=>0,0),fun a0 a1=>absurd ⟨a0,a1⟩ hk,by dsimp only;omega⟩
  obtain⟨f,hf⟩:=Classical.axiomOfChoice e0
  refine⟨n,fun k=>(f k).1,fun k=>(f k).2.1,fun k=>(f k).2.2.1,fun k=>(f k).2.2.2,⟨h1.congr fun k k0 k1=> ?_,fun k k0 k1=>((hf k).1 k0 k1).2.2.1,fun k=>(hf k).2⟩,fun k k0 k1=>((hf k).1 k0 k1).2.2.2⟩
  unfold Zg
  by_cases e:k%2=0
  · rw [if_pos e];show c k=(f (k/2)).1;rw [<-((hf (k/2)).1 (by omega) (by omega)).1];congr 1;omega
  · rw [if_neg e];show c k= .int .i64 (f (k/2)).2.2.2;rw [<-((hf (k/2)).1 (by omega) (by omega)).2.1];congr 1;omega
end
end Go.Proofs.Gw
