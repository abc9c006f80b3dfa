import Derived.Test.YtkichmnjjblodaaGreatPmF
import Derived.ProofKit
import Derived.OpenShut
import Derived.ChangeOld
import Derived.SizedLaws
import Derived.Lib.SmallJoins
import Derived.Deep.Slices
set_option linter.unusedVariables false
set_option linter.unusedSimpArgs false
set_option maxRecDepth 20000
set_option maxHeartbeats 4000000
namespace Go.Proofs.YtkichmnjjblodaaGreat
open Go Go.RowKit Go.Proofs.Gw
theorem ZiW:ZV Tryz.prog 115=some (.nilFunc,1,8):=by kernel_rfl
theorem Zff{vL vD:Value}{p:Prob}{b:Int}(w0:World)(h:PAt w0 vL vD p):
    Calls Tryz.prog 36 [.agg #[vL,vD,.int .i64 p.stock,.int .i64 p.kerf,.int .i64 b]].toArray w0 fun e w=>∃v,e= .returned v/\∃t u pv ln pt cnt e vV,v= .tuple #[.agg #[.int .i64 (Tr.s t),t.vK,t.vL],vV,.int .i64 e]/\RefR p b t u ln pt cnt e/\V5 t/\Slh t.vK t.n/\Slh t.vL t.nl/\Slh vV u/\Sat w0 w [.sem (t.fr2 54 3),.own vV 2 107 u (Ze pv cnt),.sem (Frame.rows 3 u pv ln pt)]:=by
  have hm:=h.L.slh.n0;have hm1:=h.L.slh.n1;have hd:=h.D.slh.n0;have hd1:=h.D.slh.n1;have hs:=h.is;have hk:=h.ik
  refine zenG Tryz.func36 Tryz.ntmps36 fun w hS=> ?_
  refine zsr<|zla (xbx (cs:= [_,_,_,_,_]) hS) ?_;rintro _ w ⟨g1,rfl,hS⟩
  refine zla (xal (cs:= [_,_,_]) Wo hS) ?_;rintro _ w ⟨g2,rfl,hS⟩
  refine(zP)<|(zP)<|zx5<|(zV (xls 0 Yn hS))<|zlc (xc0 Zck) (Kb (p:=p) (b:=b) w (h.below hS.below)) ?_;rintro _ w ⟨rfl,hS'⟩
  replace hS:=hS.cmp hS';clear hS'
  refine(zP)<|zlt<|Zf ?_ ?_<;>intro hc
  ·
   refine zsr<|(zV (xany (v:= .agg #[.int .i64 0,.slice none 0 0,.slice none 0 0])))<|zle (xsw 1 st_54 hS) ?_;clear hS;rintro w hS
   refine(zP)<|(zP)<|zx14<|Xy 1 st_54 hS ⟨_,rfl,?_⟩
   replace hS:=hS.nl
   replace hS:=hS.tree0 54 3
   replace hS:=(hS.addnil 2 107 (Ze (fun _=>Value.slice none 0 0) (fun _=>0))).addrows 3 (fun _=>Value.slice none 0 0) (fun _=>0) (fun _ _=>0)
   exact⟨.nil,0,_,_,_,_,1,(.slice none 0 0),rfl,.inl ⟨‹¬ZY p b›,Yf,rfl,rfl⟩,trivial,slh_nil,slh_nil,slh_nil,hS⟩
  refine ZW<|zla (xal (cs:= [_]) ZB hS) ?_;rintro _ w ⟨g3,rfl,hS⟩
  have hpo:ZY p b:=(by first|assumption|exact Classical.not_not.1 ‹_›);have hb1:=hpo.2.1;have hb2:=hpo.2.2
  refine zle (xsb 2 pl_3 hS) ?_;clear hS;rintro w hS
  refine zlz<|zla (xal (cs:= [_]) ZiW hS) ?_;rintro _ w ⟨g4,rfl,hS⟩
  refine zlz<|(zV xmf)<|zle (xsb 3 Za1 hS) ?_;clear hS;rintro w hS
  refine zlz<|(zV (xlb 3 Za1 hS))<|(zV (xls 0 Yn hS))<|zlc (xcc (vs:= [_]) ZhW) (Zkj _ (F:=Frame.bun [.blk g1 [vL,vD,.int .i64 p.stock,.int .i64 p.kerf,.int .i64 b],.blk g2 [.int .i64 0,.slice none 0 0,.slice none 0 0]]) (p:=p) (b:=b) (lf:=20000) w0 w (Sat.bundle (l1:= [_,_]) (hS.pk [2,3,0,1])) (fun w1 hb _=>h.below hb) hpo ⟨by omega,by omega⟩ (Nat.lt_succ_self _)) ?_;rintro _ w ⟨tz1,uz1,zX,ba,aZ,zz,qO,cz1,aY,rfl,xd,zw,yy,yx,xm,hS⟩
  replace hS:=Sat.unbundle (l1:= [_,_,_,_,_]) (l3:= []) hS
  replace hS:=hS.pk [0,1,3,4,5,6,2]
  have fc:=fun j (j0:0<=j) (j1:j<uz1)=>hS.slhIn 3 rfl j0 j1
  have dB:=ZhL xd;have dC:=xm.n0
  refine zs4 ?_
  refine zla (xal (cs:= [_,_,_]) Wo hS) ?_;rintro _ w ⟨g5,rfl,hS⟩
  refine zle (xsw 7 st_54 hS (hd:=(Za rfl (Za yy.one (Za yx.one Zh))))) ?_;clear hS;rintro w hS
  refine(zP)<|(zP)<|zlt<|zsq<|zbk<|zsr<|(zP)<|(zP)<|(zP)<|zlt<|Zf ?_ ?_<;>intro hc
  ·
   refine zsr<|(zV (xany (v:= .agg #[.int .i64 0,.slice none 0 0,.slice none 0 0])))<|zle (xsw 5 st_54 hS) ?_;clear hS;rintro w hS
   refine(zP)<|(zP)<|zlt<|zrt<|zbr<|ztr<|Xy 5 st_54 hS ⟨_,rfl,?_⟩
   replace hS:=hS.nl
   replace hS:=hS.tree0 54 3
   replace hS:=(hS.addnil 2 107 (Ze (fun _=>Value.slice none 0 0) (fun _=>0))).addrows 3 (fun _=>Value.slice none 0 0) (fun _=>0) (fun _ _=>0)
   exact⟨.nil,0,_,_,_,_,9,(.slice none 0 0),rfl,.inr (.inl ⟨hpo,ZdL hpo.1 xd ‹¬qO›,Yf,rfl,rfl⟩),trivial,slh_nil,slh_nil,slh_nil,hS⟩
  refine zsr<|(zV (xls 4 Yn hS))<|(zV (xls 7 st_54 hS))<|(zP)<|zlc (xc0 ZhV) (Zfh (p:=p) (b:=b) (u:=uz1) (n9:=tz1.n) (nl9:=tz1.nl) (s9:=tz1.s) w (h.below hS.below) yy yx xm) ?_;rintro _ w ⟨rfl,hS'⟩
  replace hS:=hS.cmp hS';clear hS'
  refine(zP)<|zlt<|Zf ?_ ?_<;>intro hc
  ·
   refine zsr<|(zV (xany (v:= .agg #[.int .i64 0,.slice none 0 0,.slice none 0 0])))<|zlv xmv ?_
   have hpm:=Zgb xd (by first|assumption|exact Classical.not_not.1 ‹_›) (by first|assumption|exact Classical.not_not.1 ‹_›)
   refine zlc (xc0 Zcj) (Kd (u:=uz1) (pv:=zX) (ln:=ba) (pt:=aZ) (cnt:=zz) w (⟨(hS.rowN 2 rfl),fun k k0 k1=>hS.rowIn 3 rfl k0 k1,fun k k0 k1=>hS.roomIn 3 rfl k0 k1⟩:VAt _ aY uz1 zX ba aZ zz) (by omega) (fun k k0 k1=>by have h8:=(hpm.1.1.2.2 k k0 k1).2.2.eq;have:=hpm.1.1.1.m2;omega) (fun k k0 k1=>by have h8:=hpm.1.1.2.2 k k0 k1;exact⟨h8.1,h8.2.1⟩)) ?_;rintro xt w ⟨_,qC,xk,xT,xW,xp,rfl,xg,xj,yl,xP,xw,hS'⟩
   replace hS:=(hS.comp hS').n10;clear hS'
   have ya:=fun k (k0:0<=k) (k1:k<qC)=>hS.slhIn 9 rfl k0 k1
   refine zle (xsw 5 st_54 hS) ?_;clear hS;rintro w hS
   refine(zP)<|(zP)<|zlt<|zrt<|zbr<|ztr<|Xy 5 st_54 hS ⟨_,rfl,?_⟩
   have hnp:=Zd0 hpm (by omega) xg (by omega) xj yl
   replace hS:=hS.pk [8,9]
   replace hS:=hS.tree0 54 3
   exact⟨.nil,_,_,_,_,_,0,_,rfl,.inr (.inr (.inl ⟨hpo,rfl,Yf,hnp⟩)),trivial,slh_nil,slh_nil,xw,hS.pk [2,0,1]⟩
  refine zsr<|zlv (xls 7 st_54 hS) ?_
  have hpf:=Zf9 xd (by first|assumption|exact Classical.not_not.1 ‹_›) (by assumption)
  refine zlc (xc0 ZhU) (Rc (t:=tz1) w (Tr.fr2_at tz1 hpf.2.2.2.1.2 (hS.holds (.sem (Tr.fr2 54 3 tz1)) (by repeat first|exact List.mem_cons_self .. |apply List.mem_cons_of_mem))).1 (Tr.fr2_at tz1 hpf.2.2.2.1.2 (hS.holds (.sem (Tr.fr2 54 3 tz1)) (by repeat first|exact List.mem_cons_self .. |apply List.mem_cons_of_mem))).2) ?_;rintro _ w ⟨rfl,hS'⟩
  replace hS:=hS.cmp hS';clear hS'
  refine(zP)<|(zP)<|zlt<|Zf ?_ ?_<;>intro hc
  ·
   refine zsr<|(zV (xany (v:= .agg #[.int .i64 0,.slice none 0 0,.slice none 0 0])))<|zle (xsw 5 st_54 hS) ?_;clear hS;rintro w hS
   refine(zP)<|(zP)<|zlt<|zrt<|zbr<|ztr<|Xy 5 st_54 hS ⟨_,rfl,?_⟩
   replace hS:=hS.nl
   replace hS:=hS.tree0 54 3
   replace hS:=(hS.addnil 2 107 (Ze (fun _=>Value.slice none 0 0) (fun _=>0))).addrows 3 (fun _=>Value.slice none 0 0) (fun _=>0) (fun _ _=>0)
   exact⟨.nil,0,_,_,_,_,9,(.slice none 0 0),rfl,.inr (.inl ⟨hpo,ZdK hpo.1 xd hpf.2.2.2 ‹¬Ym tz1›,Yf,rfl,rfl⟩),trivial,slh_nil,slh_nil,slh_nil,hS⟩
  refine zsk<|zbn<|ztn<|zsr<|(zV (xls 7 st_54 hS))<|zle (xsw 5 st_54 hS (hd:=(Za rfl (Za yy.one (Za yx.one Zh))))) ?_;clear hS;rintro w hS
  refine(zP)<|(zP)<|zx1<|Xy 5 st_54 hS ⟨_,rfl,?_⟩
  replace hS:=hS.pk [6]
  replace hS:=(hS.addnil 2 107 (Ze (fun _=>Value.slice none 0 0) (fun _=>0))).addrows 3 (fun _=>Value.slice none 0 0) (fun _=>0) (fun _ _=>0)
  exact⟨tz1,0,_,_,_,_,0,(.slice none 0 0),rfl,.inr (.inr (.inr ⟨hpo,rfl,rfl,Classical.not_not.1 ‹¬¬Ym tz1›,hpf.2.2.2.1.2,hpf.2.1,hpf.2.2.1⟩)),hpf.2.2.2.1.2,yy,yx,slh_nil,hS⟩
end Go.Proofs.YtkichmnjjblodaaGreat
namespace Go.Proofs.YtkichmnjjblodaaGreat
open Go Go.RowKit Go.Proofs.Gw
theorem ZlM:Zc Tryz.prog 36=true:=by kernel_rfl
theorem Zar:ZV Tryz.prog 63=some (.agg #[.int .i64 0,.slice none 0 0,.int .i64 0,.slice none 0 0,.slice none 0 0],5,88):=by kernel_rfl
theorem Xa:Zw Tryz.prog 63=some 5:=by kernel_rfl
theorem VE{vL vD:Value}{p:Prob}(w0:World)(h:PAt w0 vL vD p):
    Calls Tryz.prog 30 [.agg #[vL,vD,.int .i64 p.stock,.int .i64 p.kerf]].toArray w0 fun e w=>∃v,e= .returned v/\∃nb t u pv ln pt cnt e vV,v= .tuple #[.agg #[.int .i64 nb,vV,.int .i64 (Tr.s t),t.vK,t.vL],.int .i64 e]/\SolR6 p nb t u ln pt cnt e/\V5 t/\Slh t.vK t.n/\Slh t.vL t.nl/\Slh vV u/\Sat w0 w [.sem (t.fr2 54 3),.own vV 2 107 u (Ze pv cnt),.sem (Frame.rows 3 u pv ln pt)]:=by
  have hm:=h.L.slh.n0;have hm1:=h.L.slh.n1;have hd:=h.D.slh.n0;have hd1:=h.D.slh.n1;have hs:=h.is;have hk:=h.ik
  refine zenG Tryz.func30 Tryz.ntmps30 fun w hS=> ?_
  refine zsr<|zla (xbx (cs:= [_,_,_,_]) hS) ?_;rintro _ w ⟨g1,rfl,hS⟩
  refine zla (xal (cs:= [_,_,_,_,_]) Zar hS) ?_;rintro _ w ⟨g2,rfl,hS⟩
  refine(zP)<|zx5<|(zV (xls 0 st_32 hS))<|zlc (xc0 Xu) (Z6 (p:=p) w (h.below hS.below)) ?_;rintro _ w ⟨rfl,hS'⟩
  replace hS:=hS.cmp hS';clear hS'
  refine(zP)<|zlt<|Zf ?_ ?_<;>intro hc
  ·
   refine zsr<|(zV (xany (v:= .agg #[.int .i64 0,.slice none 0 0,.int .i64 0,.slice none 0 0,.slice none 0 0])))<|zle (xsw 1 Xa hS) ?_;clear hS;rintro w hS
   refine(zP)<|zx14<|Yh 1 Xa hS ⟨_,rfl,?_⟩
   replace hS:=hS.nl
   replace hS:=hS.tree0 54 3
   replace hS:=(hS.addnil 2 107 (Ze (fun _=>Value.slice none 0 0) (fun _=>0))).addrows 3 (fun _=>Value.slice none 0 0) (fun _=>0) (fun _ _=>0)
   exact⟨0,.nil,0,_,_,_,_,1,(.slice none 0 0),rfl,.inl ⟨‹¬p.Ok›,rfl,rfl,Yf,rfl⟩,trivial,slh_nil,slh_nil,slh_nil,hS⟩
  refine ZW<|zlv (xls 0 st_32 hS) ?_
  have hok:p.Ok:=(by first|assumption|exact Classical.not_not.1 ‹_›)
  refine zlc (xc0 ZhX) (ZfF (p:=p) w (h.below hS.below)) ?_;rintro _ w ⟨zN,yk,zn,zp,zy,zA,eK,rfl,qK,bH,dV,xD,hS'⟩
  replace hS:=(hS.comp hS').n4;clear hS'
  have cr:=fun k (k0:0<=k) (k1:k<yk)=>hS.slhIn 3 rfl k0 k1
  refine zs5 ?_
  refine zx5<|(zP)<|(zP)<|zlt<|Zf ?_ ?_<;>intro hc
  ·
   refine zsr<|(zV (xany (v:= .agg #[.int .i64 0,.slice none 0 0,.int .i64 0,.slice none 0 0,.slice none 0 0])))<|zle (xsw 1 Xa hS) ?_;clear hS;rintro w hS
   refine(zP)<|zx14<|Yh 1 Xa hS ⟨_,rfl,?_⟩
   replace hS:=hS.nl
   replace hS:=hS.tree0 54 3
   replace hS:=(hS.addnil 2 107 (Ze (fun _=>Value.slice none 0 0) (fun _=>0))).addrows 3 (fun _=>Value.slice none 0 0) (fun _=>0) (fun _ _=>0)
   exact⟨0,.nil,0,_,_,_,_,9,(.slice none 0 0),rfl,.inr (.inl ⟨hok,by have h8:=(qK.tot hok).2;omega,rfl,rfl,Yf,rfl⟩),trivial,slh_nil,slh_nil,slh_nil,hS⟩
  refine zsk<|ztn<|zbk ?_
  have hmt:=qK.meets hok (by omega) xD.n0
  have aq:=(qK.tot hok).1 (by omega)
  refine zlp (fun mm M w=>∃(nC:Int) (wv:Int->Value) (lC:Int->Int) (gC:Int->Int->Int) (cC:Int->Int) (wC:Value),mm=((brs nC cC).toNat)/\(PMt p nC lC gC cC)/\(brs nC cC<=1000)/\(Slh wC nC)/\M= [(1,.pointer (some ⟨g1,0,none⟩)),(2,.pointer (some ⟨g2,0,none⟩)),(4,wC)]/\Sat w0 w [.blk g1 [vL,vD,.int .i64 p.stock,.int .i64 p.kerf],.blk g2 [.int .i64 0,.slice none 0 0,.int .i64 0,.slice none 0 0,.slice none 0 0],.own wC 2 107 nC (Ze wv cC),.sem (Frame.rows 3 nC wv lC gC)]) ⟨yk,zn,zp,zy,zA,zN,rfl,?_,?_,?_,rfl,hS⟩ ?_
  ·
   exact hmt.1
  ·
   exact Int.le_trans hmt.2 aq
  ·
   exact xD
  clear hS w
  rintro mm M w ⟨nC,wv,lC,gC,cC,wC,rfl,hpm,hbm,hwC,rfl,hS⟩
  have hrC:=fun k (k0:0<=k) (k1:k<nC)=>hS.slhIn 3 rfl k0 k1
  have hu6:=hpm.1.2.1
  refine zbk<|zsr<|(zP)<|zlc (xc0 Zau) (VG (u:=nC) (pv:=wv) (ln:=lC) (pt:=gC) (cnt:=cC) w (⟨(hS.rowN 2 rfl),fun k k0 k1=>hS.rowIn 3 rfl k0 k1,fun k k0 k1=>hS.roomIn 3 rfl k0 k1⟩:VAt _ wC nC wv lC gC cC) (by omega) (fun k k0 k1=>by have h8:=hpm.1.2.2 k k0 k1;omega)) ?_;rintro _ w ⟨rfl,hS'⟩
  replace hS:=hS.cmp hS';clear hS'
  have hbb:=Zl9 hpm;unfold brs at hbb hbm
  refine(zP)<|zx5<|(zP)<|(zP)<|zlt<|Zf ?_ ?_<;>intro hc
  ·
   refine zsr<|(zP)<|zlv (xany (v:= .agg #[.int .i64 0,wC,.int .i64 0,.slice none 0 0,.slice none 0 0]) (hr:=by obtain⟨_,_,_,_,rfl,_⟩:=hwC;kernel_rfl)) ?_
   refine zle (xsw 1 Xa hS (hd:=(Za rfl (Za hwC.one (Za rfl (Za rfl (Za rfl Zh))))))) ?_;clear hS;rintro w hS
   refine(zP)<|zlt<|zrt<|ztr<|zbr<|ztr<|zbr<|Yh 1 Xa hS ⟨_,rfl,?_⟩
   replace hS:=hS.pk [2,3]
   replace hS:=hS.tree0 54 3
   exact⟨0,.nil,_,_,_,_,_,0,_,rfl,.inr (.inr ⟨hok,rfl,hpm,by unfold brs;omega,by omega,trivial,.inl ⟨rfl,Yf⟩⟩),trivial,slh_nil,slh_nil,hwC,hS.pk [2,0,1]⟩
  refine ZW<|zlv (xls 0 st_32 hS) ?_
  have zF:ZY p ((psum (fun _=>1) cC (nC).toNat)-1):=⟨hok,by omega,by omega⟩
  refine(zP)<|(zV (Zp (r:=(psum (fun _=>1) cC (nC).toNat)-1)))<|zlv (xany (v:= .agg #[vL,vD,.int .i64 p.stock,.int .i64 p.kerf,.int .i64 ((psum (fun _=>1) cC (nC).toNat)-1)]) (hr:=by obtain⟨_,_,_,_,rfl,_⟩:=h.L.slh;obtain⟨_,_,_,_,rfl,_⟩:=h.D.slh;kernel_rfl)) ?_
  refine zlc (xc0 ZlM) (Zff (p:=p) (b:=((psum (fun _=>1) cC (nC).toNat)-1)) w (h.below hS.below)) ?_;rintro _ w ⟨xS,da,dc,dr,dd,cQ,kj,c5,rfl,xH,fk,xR,xQ,dy,hS'⟩
  replace hS:=(hS.comp hS').n7;clear hS'
  have je:=fun j (j0:0<=j) (j1:j<da)=>hS.slhIn 6 rfl j0 j1
  refine zs4 ?_
  refine zla (xal (cs:= [_,_,_]) Wo hS) ?_;rintro _ w ⟨g3,rfl,hS⟩
  refine zle (xsw 7 st_54 hS (hd:=(Za rfl (Za xR.one (Za xQ.one Zh))))) ?_;clear hS;rintro w hS
  refine(zP)<|(zP)<|zx5<|(zP)<|(zP)<|zlt<|Zf ?_ ?_<;>intro hc
  ·
   refine zsr<|(zV (xany (v:= .agg #[.int .i64 0,.slice none 0 0,.int .i64 0,.slice none 0 0,.slice none 0 0])))<|zle (xsw 1 Xa hS) ?_;clear hS;rintro w hS
   refine(zP)<|zlt<|zrt<|ztr<|zbr<|ztr<|zbr<|Yh 1 Xa hS ⟨_,rfl,?_⟩
   replace hS:=hS.nl
   replace hS:=hS.tree0 54 3
   replace hS:=(hS.addnil 2 107 (Ze (fun _=>Value.slice none 0 0) (fun _=>0))).addrows 3 (fun _=>Value.slice none 0 0) (fun _=>0) (fun _ _=>0)
   exact⟨0,.nil,0,_,_,_,_,9,(.slice none 0 0),rfl,.inr (.inl ⟨hok,xH.err zF (by omega),rfl,rfl,Yf,rfl⟩),trivial,slh_nil,slh_nil,slh_nil,hS⟩
  refine Xm<|(zV (xfb 1 fd_54_1))<|(zV (xlb 7 XD hS))<|(zV (xln YM xR))<|(zP)<|(zP)<|zlb 44 ?_ ?_<;>intro hc
  ·
   iterate 4 refine zlo ?_
   refine(zP)<|zlt<|zct<|zsr ?_
   refine(zP)<|(zP)<|(zV (xls 7 st_54 hS))<|zlv (xany (v:= .agg #[.int .i64 (psum (fun _=>1) cC (nC).toNat),wC,.int .i64 xS.s,xS.vK,xS.vL]) (hr:=by obtain⟨_,_,_,_,rfl,_⟩:=hwC;have hz:=xR;revert hz;generalize xS.vK=z;rintro⟨_,_,_,_,rfl,_⟩;show _=_;have hz:=xQ;revert hz;generalize xS.vL=z;rintro⟨_,_,_,_,rfl,_⟩;show _=_;kernel_rfl)) ?_
   refine zle (xsw 1 Xa hS (hd:=(Za rfl (Za hwC.one (Za rfl (Za xR.one (Za xQ.one Zh))))))) ?_;clear hS;rintro w hS
   refine(zP)<|zlt<|zrt<|ztr<|zbr<|ztr<|zbr<|Yh 1 Xa hS ⟨_,rfl,?_⟩
   have htr:=xH.tree (by omega) (by first|exact .inl (by omega)|exact .inr (by omega))
   replace hS:=hS.pk [4,2,3]
   exact⟨_,xS,_,_,_,_,_,0,_,rfl,.inr (.inr ⟨hok,rfl,hpm,rfl,by omega,htr.2.1,.inr ⟨by omega,htr.1,htr.2.2⟩⟩),htr.2.1,xR,xQ,hwC,hS⟩
  refine(zV (xfb 2 fd_54_2))<|(zV (xlb 7 pl_22 hS))<|(zV (xln Zb xQ))<|(zP)<|(zP)<|zlt<|Zf ?_ ?_<;>intro hc
  ·
   refine zsr<|(zP)<|(zP)<|(zV (xls 7 st_54 hS))<|zlv (xany (v:= .agg #[.int .i64 (psum (fun _=>1) cC (nC).toNat),wC,.int .i64 xS.s,xS.vK,xS.vL]) (hr:=by obtain⟨_,_,_,_,rfl,_⟩:=hwC;have hz:=xR;revert hz;generalize xS.vK=z;rintro⟨_,_,_,_,rfl,_⟩;show _=_;have hz:=xQ;revert hz;generalize xS.vL=z;rintro⟨_,_,_,_,rfl,_⟩;show _=_;kernel_rfl)) ?_
   refine zle (xsw 1 Xa hS (hd:=(Za rfl (Za hwC.one (Za rfl (Za xR.one (Za xQ.one Zh))))))) ?_;clear hS;rintro w hS
   refine(zP)<|zlt<|zrt<|ztr<|zbr<|ztr<|zbr<|Yh 1 Xa hS ⟨_,rfl,?_⟩
   have htr:=xH.tree (by omega) (by first|exact .inl (by omega)|exact .inr (by omega))
   replace hS:=hS.pk [4,2,3]
   exact⟨_,xS,_,_,_,_,_,0,_,rfl,.inr (.inr ⟨hok,rfl,hpm,rfl,by omega,htr.2.1,.inr ⟨by omega,htr.1,htr.2.2⟩⟩),htr.2.1,xR,xQ,hwC,hS⟩
  refine zsk<|ztn<|zrg<|(zP)<|(zP)<|zln<|zbn<|zlq ⟨da,dc,dr,dd,cQ,c5,rfl,?_,?_,?_,rfl,hS.pk [0,1,5,6]⟩ (hlt:=(by have h8:=(xH.plan (by omega) (by omega) (by omega)).2;unfold brs at h8⊢;omega))
  ·
   exact(xH.plan (by omega) (by omega) (by omega)).1
  ·
   have h8:=(xH.plan (by omega) (by omega) (by omega)).2;unfold brs at h8⊢;omega
  ·
   exact dy
theorem SolR6.u{p:Prob}{nb u e:Int}{t:Tr}{ln cnt:Int->Int}{pt:Int->Int->Int}(h:SolR6 p nb t u ln pt cnt e):u<=1000:=by
  rcases h with⟨_,_,_,_,h⟩|⟨_,_,_,_,_,h⟩|⟨_,_,h,_⟩
  · omega
  · omega
  · exact h.1.2.1
end Go.Proofs.YtkichmnjjblodaaGreat
namespace Go.Proofs.YtkichmnjjblodaaGreat
open Go Go.RowKit Go.Proofs.Gw
variable {e:Int} {cnt ln:Int->Int} {pt:Int->Int->Int}
theorem ZlO:Zc Tryz.prog 26=true:=by kernel_rfl
theorem Zcl:Zc Tryz.prog 30=true:=by kernel_rfl
theorem SolR6.fine{p:Prob}{nb u:Int}{t:Tr}(h:SolR6 p nb t u ln pt cnt e)(hp:p.Ok)(hn:ZA p<=6):e=0:=by
  rcases h with⟨h,_⟩|⟨_,h,_⟩|⟨_,h,_⟩
  · exact absurd hp h
  · omega
  · exact h
theorem SolR6.bars{p:Prob}{nb u:Int}{t:Tr}(h:SolR6 p nb t u ln pt cnt e)(hp:p.Ok)(he:e=0):∃L,LFit p L/\(∀j,0<=j->j<p.m->p.D j<=Xg L j)/\(L.length:Int)=nb:=by
  rcases h with⟨h,_⟩|⟨_,_,h,_⟩|⟨_,_,h1,h2,_⟩
  · exact absurd hp h
  · omega
  · obtain⟨L,g1,g2,g3⟩:=ZcQ h1
    exact⟨L,g1,g2,g3.trans h2⟩
theorem SolR6.least{p:Prob}{nb u:Int}{t:Tr}(h:SolR6 p nb t u ln pt cnt e)(hp:p.Ok)(he:e=0){L:List (Int->Int)}(hL:LFit p L)(hc:∀j,0<=j->j<p.m->p.D j<=Xg L j):nb<=L.length:=by
  rcases h with⟨h,_⟩|⟨_,_,h,_⟩|⟨_,_,_,_,_,_,⟨h1,_⟩|⟨_,_,h1⟩⟩
  · exact absurd hp h
  · omega
  · omega
  · have:=UF t h1 hL hc;omega
def pX:Prob:=⟨2,fun k=> [6,4].getD k.toNat 0,2,fun k=> [2,2].getD k.toNat 0,10,0⟩
def lX:Int->Int:=fun k=> [1,1,0].getD k.toNat 0
theorem Ue:pX.Ok:=⟨by decide,by decide,rfl,by decide,by decide,by decide,by decide,Gw.two (by unfold Prob.each;decide) (by unfold Prob.each;decide)⟩
theorem ZbQ:ZA pX=4:=by decide
theorem ZhN:XW pX 1 3 lX:=by
  have hc:Chk pX (3-1) (fun k=>lX (k+1)) (lX 0)=0:=Zg0 Ue ⟨by decide,by decide,Gw.two (by decide) (by decide)⟩ rfl (by decide)
  refine⟨⟨Ue,by decide,by decide⟩,by decide,hc,?_⟩
  rw [V3 hc];decide
def oX:Int->Int:=fun k=> [1,1].getD k.toNat 0
theorem Zik:FitsP pX pX.m oX:=⟨Ue,rfl,Gw.two (by decide) (by decide),by decide⟩
theorem Zie{nb u:Int}{t:Tr}(h:SolR6 pX nb t u ln pt cnt e):e=0/\nb=2/\ZfP pX nb u ln pt cnt t:=by
  have he:=h.fine Ue (by rw [ZbQ];decide)
  obtain⟨L,g1,g2,g3⟩:=h.bars Ue he
  have h1:=UF (.mk 0 (.slice none 0 0) 0 (fun _=> .nil) (.slice none 0 0) 3 lX) (XA rfl ZhN) g1 g2
  have h2:=h.least Ue he (L:= [oX,oX]) (fun a ha=>by
    simp only [List.mem_cons,List.not_mem_nil,or_false,or_self] at ha
    rw [ha];exact Zik) (Gw.two (by decide) (by decide))
  have h3:nb<=2:=h2
  refine⟨he,by omega,?_⟩
  rcases h with⟨h,_⟩|⟨_,h,_⟩|⟨_,_,q1,q2,_,_,⟨q3,_⟩|⟨q3,q4,q5⟩⟩
  · exact absurd Ue h
  · rw [ZbQ] at h;omega
  · omega
  · exact⟨q1,q2,.inr ⟨by omega,(Wc ⟨Ue,by omega,by omega⟩ q4 q5).1⟩⟩
theorem Td(w0:World):
    Calls Tryz.prog 11 [].toArray w0 fun e w=>∃v,e= .returned v/\v= .bool true/\Sat w0 w []:=by
  refine zenG Tryz.func11 Tryz.ntmps11 fun w hS=> ?_
  refine zsr<|(zP)<|zlz<|zla (xli (n:=2) (len:=2) (pv:= [(0,.int .i64 6),(1,.int .i64 4)]) (cs:= [.int .i64 6,.int .i64 4]) (c:=ints (fun k=> [6,4].getD k.toNat 0)) Zb ZB hS) ?_;rintro v1 w ⟨hS,hv1⟩
  refine zla (xli (n:=2) (len:=2) (pv:= [(0,.int .i64 2),(1,.int .i64 2)]) (cs:= [.int .i64 2,.int .i64 2]) (c:=ints (fun k=> [2,2].getD k.toNat 0)) Zb ZB hS) ?_;rintro v2 w ⟨hS,hv2⟩
  refine zlv (xany (v:= .agg #[v1,v2,.int .i64 10,.int .i64 0]) (hr:=by obtain⟨_,_,_,_,rfl,_⟩:=hv1;obtain⟨_,_,_,_,rfl,_⟩:=hv2;kernel_rfl)) ?_
  refine zla (xal (cs:= [_,_,_,_]) ZeB hS) ?_;rintro _ w ⟨g1,rfl,hS⟩
  refine zle (xsw 2 st_32 hS (hd:=(Za hv1.one (Za hv2.one (Za rfl (Za rfl Zh)))))) ?_;clear hS;rintro w hS
  refine zlz<|(zV (xls 2 st_32 hS))<|zlc (xc0 Zcl) (VE (p:=(⟨2,(fun k=> [6,4].getD k.toNat 0),2,(fun k=> [2,2].getD k.toNat 0),10,0⟩:Prob)) w (⟨(hS.rowN 0 rfl),(hS.rowN 1 rfl),(Za8 _ (by decide)),(Za8 _ (by decide)),(by(try dsimp only);omega),(by(try dsimp only);omega)⟩:PAt _ _ _ (⟨2,(fun k=> [6,4].getD k.toNat 0),2,(fun k=> [2,2].getD k.toNat 0),10,0⟩:Prob))) ?_;rintro _ w ⟨aa,zC,zU,zY,ae,zZ,zg,fQ,bl,rfl,xn,y8,aJ,aH,aj,hS'⟩
  replace hS:=(hS.comp hS').n6;clear hS'
  have dJ:=fun j (j0:0<=j) (j1:j<zU)=>hS.slhIn 5 rfl j0 j1
  have cj:=SolR6.u xn
  refine(zP)<|(zP)<|(zP)<|zla (xal (cs:= [_,_,_,_,_]) Zar hS) ?_;rintro _ w ⟨g2,rfl,hS⟩
  refine zle (xsw 6 Xa hS (hd:=(Za rfl (Za aj.one (Za rfl (Za aJ.one (Za aH.one Zh))))))) ?_;clear hS;rintro w hS
  refine(zP)<|zlz<|zlv xmv ?_
  obtain⟨hx1,hx2,hx3⟩:=Zie xn
  refine(zV (xkt YK))<|(zP)<|(zV (xfb 0 Y1))<|(zV (xlb 6 pl_3 hS))<|(zP)<|(zP)<|(zP)<|zlb 19 ?_ ?_<;>intro hc
  ·
   refine(zV (xls 2 st_32 hS))<|(zV (xls 6 Xa hS))<|zlc (xc0 ZlO) (Zhb (u:=zU) (pv:=zY) (ln:=ae) (pt:=zZ) (cnt:=zg) (p:=(⟨2,(fun k=> [6,4].getD k.toNat 0),2,(fun k=> [2,2].getD k.toNat 0),10,0⟩:Prob)) (nb:=aa) (t:=zC) w (⟨(hS.rowN 4 rfl),fun k k0 k1=>hS.rowIn 5 rfl k0 k1,fun k k0 k1=>hS.roomIn 5 rfl k0 k1⟩:VAt _ bl zU zY ae zZ zg) (⟨(hS.rowN 0 rfl),(hS.rowN 1 rfl),(Za8 _ (by decide)),(Za8 _ (by decide)),(by(try dsimp only);omega),(by(try dsimp only);omega)⟩:PAt _ _ _ (⟨2,(fun k=> [6,4].getD k.toNat 0),2,(fun k=> [2,2].getD k.toNat 0),10,0⟩:Prob)) (Tr.fr2_at zC y8 (hS.holds (.sem (Tr.fr2 54 3 zC)) (by repeat first|exact List.mem_cons_self .. |apply List.mem_cons_of_mem))).1 (Tr.fr2_at zC y8 (hS.holds (.sem (Tr.fr2 54 3 zC)) (by repeat first|exact List.mem_cons_self .. |apply List.mem_cons_of_mem))).2 (by omega)) ?_;rintro _ w ⟨rfl,hS'⟩
   replace hS:=hS.cmp hS';clear hS'
   refine ZfX 22 (u:= .bool true) (ZQ hx3) ?_
   refine(zP)<|(zP)<|(zV (xls 2 st_32 hS))<|zlv (xany (v:= .agg #[v1,v2,.int .i64 10,.int .i64 0,.int .i64 1]) (hr:=by obtain⟨_,_,_,_,rfl,_⟩:=hv1;obtain⟨_,_,_,_,rfl,_⟩:=hv2;kernel_rfl)) ?_
   refine zla (xli (n:=3) (len:=3) (pv:= [(0,.int .i64 1),(1,.int .i64 1),(2,.int .i64 0)]) (cs:= [.int .i64 1,.int .i64 1,.int .i64 0]) (c:=ints (fun k=> [1,1,0].getD k.toNat 0)) Zb ZB hS) ?_;rintro v3 w ⟨hS,hv3⟩
   refine zlc (xc0 Zh0) (Zfr (p:=(⟨2,(fun k=> [6,4].getD k.toNat 0),2,(fun k=> [2,2].getD k.toNat 0),10,0⟩:Prob)) (b:=1) w (⟨(hS.rowN 0 rfl),(hS.rowN 1 rfl),(Za8 _ (by decide)),(Za8 _ (by decide)),(by(try dsimp only);omega),(by(try dsimp only);omega)⟩:PAt _ _ _ (⟨2,(fun k=> [6,4].getD k.toNat 0),2,(fun k=> [2,2].getD k.toNat 0),10,0⟩:Prob)) (⟨(hS.rowN 7 rfl),(Za8 _ (by decide))⟩:IAt _ _ 3 (fun k=> [1,1,0].getD k.toNat 0)) (Ent.holds.roomy (hS.holds _ (List.mem_of_getElem? (i:=7) rfl)))) ?_;rintro _ w ⟨rfl,hS'⟩
   replace hS:=hS.cmp hS';clear hS'
   refine ZfX 28 (u:= .bool true) (ZQ ZhN) ?_
   refine(zP)<|(zP)<|zx1<|zf1 ⟨_,rfl,?_⟩
   exact⟨rfl,hS.nl⟩
  iterate 3 refine zlo ?_
  refine zs2 ?_
  iterate 4 refine zlo ?_
  refine(zP)<|(zP)<|zx1<|zf1 ⟨_,rfl,?_⟩
  exfalso;omega
end Go.Proofs.YtkichmnjjblodaaGreat
namespace Go.Proofs.YtkichmnjjblodaaGreat
open Go Go.RowKit Go.Proofs.Gw
variable {e:Int} {cnt ln:Int->Int} {pt:Int->Int->Int}
theorem Ze0:Zc Tryz.prog 11=true:=by kernel_rfl
theorem ZlQ:Zc Tryz.prog 12=true:=by kernel_rfl
theorem ZlN:Zc Tryz.prog 29=true:=by kernel_rfl
theorem Zla:(Tryz.prog.underlying 5).isSome=true:=by kernel_rfl
def Prob.stk(p:Prob)(s:Int):Prob:=⟨p.m,p.L,p.d,p.D,s,p.kerf⟩
theorem Zgk{w:World}{vL vD:Value}{p:Prob}(h:PAt w vL vD p){s:Int}(hs: -9223372036854775808<=s/\s<=9223372036854775807):PAt w vL vD (Prob.stk p s):=⟨h.L,h.D,h.iL,h.iD,hs,h.ik⟩
theorem Zib{p:Prob}(hp:p.Ok){s:Int}(h1:p.stock<=s)(h2:s<=2000):(Prob.stk p s).Ok:=⟨hp.m1,hp.m2,hp.d,by have:=hp.s1;show 1<=s;omega,h2,hp.k1,hp.k2,fun i i0 i1=>by
  have he:=hp.all i i0 i1
  unfold Prob.each at he⊢
  obtain⟨g1,g2,g3⟩:=he
  exact⟨g1,Int.le_trans g2 h1,g3⟩⟩
theorem Zf5{p:Prob}{s nb nb2 u u2 e2:Int}{t t2:Tr}{ln2 qd:Int->Int}{pt2:Int->Int->Int}(hp:p.Ok)(hn:ZA p<=6)(h1:p.stock<=s)(h2:s<=2000)(h:SolR6 p nb t u ln pt cnt e)(k:SolR6 (Prob.stk p s) nb2 t2 u2 ln2 pt2 qd e2):e=0/\e2=0/\nb2<=nb:=by
  have he:=h.fine hp hn
  have hk:=Zib hp h1 h2
  have he2:=k.fine hk hn
  refine⟨he,he2,?_⟩
  obtain⟨L,g1,g2,g3⟩:=h.bars hp he
  have:=k.least hk he2 (L:=L) (fun a ha=>by
    obtain⟨_,q2,q3,q4⟩:=g1 a ha
    exact⟨hk,rfl,q3,Int.le_trans q4 (by show p.stock+p.kerf<=s+p.kerf;omega)⟩) g2
  omega
theorem Za9{p:Prob}{k nb nb2 u u2 e2:Int}{t t2:Tr}{ln2 qd:Int->Int}{pt2:Int->Int->Int}(hp:p.Ok)(hn:ZA p<=6)(k0:0<=k)(k1:k<p.m)(hd:1<=p.D k)(h:SolR6 p nb t u ln pt cnt e)(q:SolR6 (p.less1 k) nb2 t2 u2 ln2 pt2 qd e2):e2=0/\nb2<=nb/\nb-1<=nb2:=by
  have he:=h.fine hp hn
  have hq:=Zd7 hp hd
  have he2:=q.fine hq (by rw [ZcX k0 k1];omega)
  obtain⟨L,g1,g2,g3⟩:=h.bars hp he
  obtain⟨M,m1,m2,m3⟩:=q.bars hq he2
  have hD:∀j,(p.less1 k).D j=if j=k then p.D k-1 else p.D j:=fun j=>by
    show Gw.upd p.D k (p.D k-1) j=_
    by_cases e:j=k
    · subst e;rw [Zs,if_pos rfl]
    · rw [upd_ne _ _ e,if_neg e]
  have h1:=q.least hq he2 (L:=L) (fun a ha=>by
    obtain⟨_,q2,q3,q4⟩:=g1 a ha
    exact⟨hq,rfl,q3,q4⟩) (fun j j0 j1=>by
    have:=g2 j j0 j1
    rw [hD];split
    · subst_vars;omega
    · exact this)
  have hs:=hp.all k k0 k1
  unfold Prob.each at hs
  have hz:ZC p (fun _=>0) p.m.toNat=0:=by
    unfold ZC
    rw [Zi (g:=fun _=>0) fun i i0 i1=>by simp]
    exact ZJ _
  have hu:ZC p (Gw.upd (fun _=>0) k (0+1)) p.m.toNat=ZC p (fun _=>0) p.m.toNat+(p.L k+p.kerf):=Vd (p:=p) (f:=fun _=>0) k0 (n:=p.m.toNat) (by omega)
  have hf:FitsP p p.m (Gw.upd (fun _=>0) k (0+1)):=VX hp (fun j j0 j1=>by by_cases e:j=k;(rw [e,Gw.Zs];omega);(rw [Gw.upd_ne _ _ e];exact Int.le_refl _)) (by rw [hu,hz];omega)
  have h2:=h.least hp he (L:=Gw.upd (fun _=>0) k (0+1)::M) (fun a ha=>by
    rcases List.mem_cons.1 ha with rfl|ha
    · exact hf
    · obtain⟨_,q2,q3,q4⟩:=m1 a ha
      exact⟨hp,rfl,q3,q4⟩) (fun j j0 j1=>by
    have:=m2 j j0 j1
    rw [hD] at this
    simp only [Xg]
    by_cases e:j=k
    · subst e;rw [Gw.Zs];rw [if_pos rfl] at this;omega
    · rw [Gw.upd_ne _ _ e];rw [if_neg e] at this;omega)
  rw [List.length_cons] at h2
  exact⟨he2,by omega,by omega⟩
theorem SolR6.nb{p:Prob}{nb u e:Int}{t:Tr}{ln cnt:Int->Int}{pt:Int->Int->Int}(h:SolR6 p nb t u ln pt cnt e):0<=nb/\nb<=1000:=by
  rcases h with⟨_,_,h,_⟩|⟨_,_,_,h,_⟩|⟨_,_,h1,h2,h3,_⟩
  · omega
  · omega
  · have:=Zl9 h1;omega
theorem Zd9{vL vD:Value}{p:Prob}{a8 l8:Int}(w0:World)(h:PAt w0 vL vD p)(hb8:0<=a8/\a8<=255)(hl8:0<=l8/\l8<=255):
    Calls Tryz.prog 9 [.agg #[vL,vD,.int .i64 p.stock,.int .i64 p.kerf],.int .u8 a8,.int .u8 l8].toArray w0 fun e w=>∃v,e= .returned v/\v= .bool true/\Sat w0 w []:=by
  have hm:=h.L.slh.n0;have hm1:=h.L.slh.n1;have hd:=h.D.slh.n0;have hd1:=h.D.slh.n1;have hs:=h.is;have hk:=h.ik
  refine zenG Tryz.func9 Tryz.ntmps9 fun w hS=> ?_
  refine zsr<|zla (xbx (cs:= [_,_,_,_]) hS) ?_;rintro _ w ⟨g1,rfl,hS⟩
  refine(zP)<|zx5<|zlc (xc0 Ze0) (Td w) ?_;rintro _ w ⟨rfl,hS'⟩
  replace hS:=hS.cmp hS';clear hS'
  refine(zP)<|(zP)<|(zV (xls 0 st_24 hS))<|zlc (xc0 ZlQ) (Zhp (p:=p) w (h.below hS.below)) ?_;rintro _ w ⟨rfl,hS'⟩
  replace hS:=hS.cmp hS';clear hS'
  refine(zP)<|(zP)<|(zP)<|zlb 23 ?_ ?_<;>intro hc;rotate_left
  refine(zV (xls 0 st_24 hS))<|zlc (xc0 ZhZ) (U9 (p:=p) w (h.below hS.below)) ?_;rintro _ w ⟨rfl,hS'⟩
  replace hS:=hS.cmp hS';clear hS'
  refine(zP)<|(zP)<|(zP)<|zlb 28 ?_ ?_<;>intro hc;rotate_left
  refine(zV (xls 0 st_24 hS))<|zlc (xc0 ZlN) (Zdl (p:=p) w (h.below hS.below) (by first|assumption|exact Classical.not_not.1 ‹_›)) ?_;rintro _ w ⟨rfl,hS'⟩
  replace hS:=hS.cmp hS';clear hS'
  refine(zP)<|(zP)<|zlt<|Zf ?_ ?_<;>intro hc
  ·
   refine zsr<|zlc (xc0 Ze0) (Td w) ?_;rintro _ w ⟨rfl,hS'⟩
   replace hS:=hS.cmp hS';clear hS'
   refine(zP)<|zx14<|zf1 ⟨_,rfl,?_⟩
   exact⟨rfl,hS.nl⟩
  refine ZW<|zlv (xls 0 st_24 hS) ?_
  have hok:p.Ok:=(by first|assumption|exact Classical.not_not.1 ‹_›)
  have hn6:ZA p<=6:=(show ZA p<=6/\p.m<=4 by first|assumption|exact Classical.not_not.1 ‹_›).1
  have hpm:=hok.m1;have qH:=hok.m2;have hpd:=hok.d;have hs1:=hok.s1;have hs2:=hok.s2;have hk1:=hok.k1;have hk2:=hok.k2
  refine zlc (xc0 Zcl) (VE (p:=p) w (h.below hS.below)) ?_;rintro _ w ⟨aa,zC,zU,zY,ae,zZ,zg,fQ,bl,rfl,xn,y8,aJ,aH,aj,hS'⟩
  replace hS:=(hS.comp hS').n4;clear hS'
  have dJ:=fun j (j0:0<=j) (j1:j<zU)=>hS.slhIn 3 rfl j0 j1
  have cj:=SolR6.u xn
  refine(zP)<|(zP)<|(zP)<|zla (xal (cs:= [_,_,_,_,_]) Zar hS) ?_;rintro _ w ⟨g2,rfl,hS⟩
  refine zle (xsw 4 Xa hS (hd:=(Za rfl (Za aj.one (Za rfl (Za aJ.one (Za aH.one Zh))))))) ?_;clear hS;rintro w hS
  refine(zP)<|zlz<|(zV (xls 0 st_24 hS))<|zla (xal (cs:= [_,_,_,_]) ZhP hS) ?_;rintro _ w ⟨g3,rfl,hS⟩
  refine zle (xsw 5 st_24 hS (hd:=(Za h.L.slh.one (Za h.D.slh.one (Za rfl (Za rfl Zh)))))) ?_;clear hS;rintro w hS
  refine zlz<|zlv (xfb 2 fd_24_2) ?_
  have hlt:=Int.tmod_nonneg 20 (show 0<=l8 by omega);have j5:=Int.tmod_lt_of_pos l8 (show(0:Int)<20 by omega)
  refine(zV (xlb 0 pl_3 hS))<|(zP)<|(zV (xcv Zla UY))<|(zV (ZaP (r:=(Int.tmod l8 20))))<|(zV (Zg (r:=p.stock+(Int.tmod l8 20))))<|(zV (UC (r:=(min 2000 (p.stock+(Int.tmod l8 20))))))<|(zV (xfb 2 fd_24_2))<|zle (xsb 5 pl_3 hS) ?_;clear hS;rintro w hS
  refine zlz<|(zV (xls 5 st_24 hS))<|zlc (xc0 Zcl) (VE (p:=Prob.stk p (min 2000 (p.stock+l8.tmod 20))) w (Zgk (h.below hS.below) (by omega))) ?_;rintro _ w ⟨gM,jG,eP,gH,gQ,gJ,f4,ki,gE,rfl,av,fj,eh,d7,dw,hS'⟩
  replace hS:=(hS.comp hS').n9;clear hS'
  have gX:=fun j (j0:0<=j) (j1:j<eP)=>hS.slhIn 8 rfl j0 j1
  have e7:=SolR6.u av
  refine(zP)<|(zP)<|(zP)<|zla (xal (cs:= [_,_,_,_,_]) Zar hS) ?_;rintro _ w ⟨g4,rfl,hS⟩
  refine zle (xsw 9 Xa hS (hd:=(Za rfl (Za dw.one (Za rfl (Za eh.one (Za d7.one Zh))))))) ?_;clear hS;rintro w hS
  refine(zP)<|zx5<|zlv xmv ?_
  obtain⟨hq1,hq2,hq3⟩:=Zf5 hok (show ZA p<=6/\_ by first|assumption|exact Classical.not_not.1 ‹_›).1 (s:=min 2000 (p.stock+l8.tmod 20)) (by omega) (by omega) xn av
  refine(zV (xkf YJ))<|(zP)<|(zP)<|(zV (xkf YJ))<|(zP)<|(zP)<|(zV (xfb 0 Y1))<|(zV (xlb 9 pl_3 hS))<|(zV (xfb 0 Y1))<|(zV (xlb 4 pl_3 hS))<|(zV (xkf Yp))<|(zP)<|zlt<|zcf<|zsk<|ztn<|zsr ?_
  refine zlv xmv ?_
  have hk0:=Int.tmod_nonneg p.m (show 0<=a8 by omega);have hk1:=Int.tmod_lt_of_pos a8 (show 0<p.m by omega);have hek:=hok.all (a8.tmod p.m) hk0 hk1;unfold Prob.each at hek
  refine(zV (xcv Zla UY))<|(zV (xfb 0 fd_24_0))<|(zV (xlb 0 pl_22 hS))<|(zV (xln Zb h.L.slh))<|(zV (ZaP (r:=(Int.tmod a8 p.m))))<|(zP)<|zx5<|(zV (xfb 1 fd_24_1))<|(zV (xlb 0 pl_22 hS))<|(zP)<|(zV (xix (kk:=(Int.tmod a8 p.m)) Zb h.D.slh))<|zlv (xlr (u:= .int .i64 (p.D (Int.tmod a8 p.m))) pl_3 (h.D.below hS.below)) ?_
  have hbv:=h.iD (Int.tmod a8 p.m)
  refine(zP)<|zlt<|Zf ?_ ?_<;>intro hc
  ·
   refine zsr<|(zP)<|zx14<|zf1 ⟨_,rfl,?_⟩
   exact⟨rfl,hS.nl⟩
  refine ZW<|(zV (xls 0 st_24 hS))<|zla (xal (cs:= [_,_,_,_]) ZhP hS) ?_;rintro _ w ⟨g5,rfl,hS⟩
  refine zle (xsw 10 st_24 hS (hd:=(Za h.L.slh.one (Za h.D.slh.one (Za rfl (Za rfl Zh)))))) ?_;clear hS;rintro w hS
  refine zlz<|zla (xl0 (c:=ints p.D) Zb hS) ?_;rintro v1 w ⟨hS,hv1⟩
  refine(zV (xfb 1 fd_24_1))<|(zV (xlb 0 pl_22 hS))<|zla (xap 11 (r:=p.d) (f:=ints p.D) Zb ZB hS (h.D.below hS.below) (by exact Zax _ _)) ?_;rintro v2 w ⟨hS,hv2⟩
  refine(zV (xfb 1 fd_24_1))<|zle (xsb 10 pl_22 hS (hv:=hv2.one)) ?_;clear hS;rintro w hS
  refine zlz<|(zV (xfb 1 fd_24_1))<|(zV (xlb 10 pl_22 hS))<|(zP)<|(zV (xix (kk:=(Int.tmod a8 p.m)) Zb hv2))<|(zV (xlr (u:= .int .i64 (p.D (Int.tmod a8 p.m))) pl_3 (hS.rowN 11 rfl)))<|(zV (Zp (r:=p.D (Int.tmod a8 p.m)-1)))<|(zV (xix (kk:=(Int.tmod a8 p.m)) Zb hv2))<|zle (xso 11 pl_3 hS (Zx _ _ _)) ?_;clear hS;rintro w hS
  refine zlz<|(zV (xls 10 st_24 hS))<|zlc (xc0 Zcl) (VE (p:=p.less1 (a8.tmod p.m)) w (⟨(h.L.below hS.below),(hS.rowN 11 rfl),h.iL,(Zd6 h.iD (show 1<=p.D (a8.tmod p.m) by omega)),(by(try dsimp only);omega),(by(try dsimp only);omega)⟩:PAt _ _ _ (⟨p.m,p.L,p.d,(upd p.D (Int.tmod a8 p.m) (p.D (Int.tmod a8 p.m)-1)),p.stock,p.kerf⟩:Prob))) ?_;rintro _ w ⟨gL,jF,eO,gG,gP,gI,fZ,kh,gD,rfl,au,fi,eg,dZ,dv,hS'⟩
  replace hS:=(hS.comp hS').n15;clear hS'
  have gW:=fun j (j0:0<=j) (j1:j<eO)=>hS.slhIn 14 rfl j0 j1
  have eZ:=SolR6.u au
  refine(zP)<|(zP)<|(zP)<|zla (xal (cs:= [_,_,_,_,_]) Zar hS) ?_;rintro _ w ⟨g6,rfl,hS⟩
  refine zle (xsw 15 Xa hS (hd:=(Za rfl (Za dv.one (Za rfl (Za eg.one (Za dZ.one Zh))))))) ?_;clear hS;rintro w hS
  refine(zP)<|zlz<|zlv xmv ?_
  obtain⟨hq4,hq5,hq6⟩:=Za9 hok hn6 hk0 hk1 (by omega) xn au
  have hbb:=SolR6.nb xn
  refine(zV (xkt YK))<|(zP)<|(zV (xfb 0 Y1))<|(zV (xlb 15 pl_3 hS))<|(zV (xfb 0 Y1))<|(zV (xlb 4 pl_3 hS))<|(zV (xkt Y2))<|(zP)<|(zP)<|(zV (xfb 0 Y1))<|(zV (xlb 15 pl_3 hS))<|(zV (xfb 0 Y1))<|(zV (xlb 4 pl_3 hS))<|(zV (Zp (r:=aa-1)))<|(zV (xkt Xe))<|zs2 ?_
  refine zx1<|zf1 ⟨_,rfl,?_⟩
  exact⟨rfl,hS.nl⟩
  all_goals
   refine zOps ?_
   refine zlt<|zct<|zsr ?_
   refine zlc (xc0 Ze0) (Td w) ?_;rintro _ w ⟨rfl,hS'⟩
   replace hS:=hS.cmp hS';clear hS'
   refine zOps ?_
   refine zx14<|zf1 ⟨_,rfl,?_⟩
   exact⟨rfl,hS.nl⟩
end Go.Proofs.YtkichmnjjblodaaGreat
namespace Go.Proofs.Gw
open Go Go.RowKit Go.ChangeShapes Go.WideShapes Go.ChangeAt
section
variable {H:Type} {enc:TypeId×Value->H} {P:Program} {w:World} {held:Bool}
def Small{H:Type}(P:Program)(t:TypeId)(d:DataW H):Prop:=(d.weights P t).all (· <=reachBytes)=true
theorem X0{ts:List TypeId}{ds:List (DataW H)}(h:(DataW.weightsEach P ts ds).all (· <=reachBytes)=true){j:Nat}{t:TypeId}{d:DataW H}(ht:ts[j]? =some t)(hd:ds[j]? =some d):Small P t d:=
  List.all_eq_true.2 fun n hn=>List.all_eq_true.1 h n (DataW.weights_mem_each ht hd n hn)
theorem RF{t:TypeId}{fs:Array Field}{parts:List (DataW H)}(h:Small P t (.agg parts))(hu:P.underlying t=some (.struct fs)){j:Nat}{u:TypeId}{d:DataW H}(ht:(fs.toList.map (·.type))[j]? =some u)(hd:parts[j]? =some d):Small P u d:=by
  unfold Small at h
  simp only [DataW.weights,hu] at h
  exact X0 h ht hd
theorem VO{e:TypeId}:∀{ds:List (DataW H)},(DataW.weightsAll P e ds).all (· <=reachBytes)=true->∀d∈ds,Small P e d
  | [],_,d,hd=>by cases hd
  | x::r,h,d,hd=>by
    simp only [DataW.weightsAll,List.all_append,Bool.and_eq_true] at h
    rcases List.mem_cons.1 hd with rfl|hd
    · exact h.1
    · exact VO h.2 d hd
theorem KD{t e:TypeId}{elems spare:List (DataW H)}(h:Small P t (.slice elems spare))(hu:P.underlying t=some (.slice e)):(elems.length+spare.length)*P.bytesOf e<=reachBytes/\∀d∈elems,Small P e d:=by
  unfold Small at h
  simp only [DataW.weights,hu,List.all_cons,List.all_append,Bool.and_eq_true,decide_eq_true_eq] at h
  exact⟨h.1,VO h.2.1⟩
theorem ZaR{n:Int}(h:(Lit.int .i64 n).wf=true): -9223372036854775808<=n/\n<=9223372036854775807:=by
  simp only [Lit.wf,Bool.and_eq_true,decide_eq_true_eq] at h
  have h1:IntKind.i64.min= -9223372036854775808:=by decide
  have h2:IntKind.i64.max=9223372036854775807:=by decide
  omega
theorem ZhK{n:Int}(h:(Lit.int .u8 n).wf=true):0<=n/\n<=255:=by
  simp only [Lit.wf,Bool.and_eq_true,decide_eq_true_eq] at h
  have h1:IntKind.u8.min=0:=by decide
  have h2:IntKind.u8.max=255:=by decide
  omega
theorem ZcK{a:Addr}{v:Value}(h:w.cell? a=some v):a.spot=none:=World.cell?_spot h
end
end Go.Proofs.Gw
namespace Go.Proofs.Gw
open Go Go.RowKit Go.ChangeShapes Go.WideShapes Go.ChangeAt
section
variable {H:Type} {enc:TypeId×Value->H} {P:Program} {w:World} {held:Bool}
def Rd{H:Type}(enc:TypeId×Value->H)(P:Program)(w:World)(held:Bool)(t:TypeId)(cs:List Value):Prop:=∃fuel y,DataW.trod enc P w 0 (fun _=>true) held fuel t cs=some y/\Small P t y.1
theorem Rd.int{k:IntKind}{t:TypeId}{cs:List Value}(h:Rd enc P w held t cs)(ht:P.underlying t=some (.int k)):∃n,cs= [.int k n]/\(Lit.int k n).wf=true:=by
  obtain⟨fuel,y,h,_⟩:=h
  obtain⟨n,h1,_,h2⟩:=DataW.trod_int ht h
  exact⟨n,h1,h2⟩
theorem Rd.intv{k:IntKind}{t:TypeId}{v:Value}(h:Rd enc P w held t [v])(ht:P.underlying t=some (.int k)):∃n,v= .int k n/\(Lit.int k n).wf=true:=by
  obtain⟨n,h1,h2⟩:=h.int ht
  exact⟨n,by simpa using h1,h2⟩
theorem Rd.struct{fs:Array Field}{t:TypeId}{cs:List Value}(h:Rd enc P w held t cs)(ht:P.underlying t=some (.struct fs)):∀(j:Nat) (f:Field),fs[j]? =some f->Rd enc P w held f.type ((cs.drop f.offset).take (P.cellsOf f.type)):=fun j f hf=>by
  obtain⟨fuel,y,h,hs⟩:=h
  obtain⟨xs,n,_,rfl,hl,xo,hx⟩:=DataW.trod_struct ht h
  have hj:j<xs.length:=by rw [xo];exact(Array.getElem?_eq_some_iff.1 hf).1
  have h1:=hx j f hf
  rw [List.getElem?_eq_getElem hj] at h1
  exact⟨n,_,h1,RF (j:=j) hs ht (by simp [hf]) (by simp [hj])⟩
theorem Rd.len{fs:Array Field}{t:TypeId}{cs:List Value}(h:Rd enc P w held t cs)(ht:P.underlying t=some (.struct fs)):cs.length=P.cellsOf t:=by
  obtain⟨fuel,y,h,hs⟩:=h
  obtain⟨xs,n,_,rfl,hl,xo,hx⟩:=DataW.trod_struct ht h
  exact hl
theorem Rd.slice {t e:TypeId} {s b:Nat} {v:Value} (h:Rd enc P w held t [v]) (ht:P.underlying t=some (.slice e)) (ce:P.cellsOf e=s) (be:P.bytesOf e=b) (hs1:1<=s) (hsb:s<=b):
    ∃(n:Int) (c:Int->Value),Row w v s n c/\b*n<=140737488351232/\∀i:Int,0<=i->i<n->Rd enc P w held e ((List.range s).map fun j:Nat=>c (i*s+j)):=by
  obtain⟨fuel,y,h,hs⟩:=h
  rcases Go.Deep.open_slice ht h with⟨hcs,_⟩|⟨a,len,cap,m,n,D,Pl,hcs,_,hl,hm,hmm,hy,hx⟩
  · simp only [List.cons.injEq,and_true] at hcs
    subst hcs
    exact⟨0,fun _=>undef,⟨⟨by omega,by omega,none,0,rfl,.inl rfl⟩,fun k hk=>by rw [Int.zero_mul] at hk;omega⟩,by omega,fun i a0 a1=>by omega⟩
  · simp only [List.cons.injEq,and_true] at hcs
    subst hcs
    simp only [if_true] at hmm
    subst hmm
    rw [hy] at hs
    have hsm:=KD hs ht
    have hb1:=hsm.1
    rw [be] at hb1
    simp only [List.length_map,List.length_range] at hb1
    have h2:len*b<=(len+(m-len))*b:=Nat.mul_le_mul_right _ (by omega)
    have h3:len*b<=140737488351232:=by unfold reachBytes at hb1;omega
    have h4:len*1<=len*b:=Nat.mul_le_mul_left _ (by omega)
    rw [ce] at hx
    have e0:∀i:Nat,∃cs':List Value,i<len->w.cells? 0 (a.add (i*s)) s=some cs'/\DataW.trod enc P w 0 (fun _=>true) held n e cs'=some (D i,Pl i):=fun i=>by
      by_cases hi:i<len
      · obtain⟨cs',h5,h6⟩:=hx i (by omega)
        exact⟨cs',fun _=>⟨h5,h6⟩⟩
      · exact⟨[],fun h=>absurd h hi⟩
    obtain⟨C,hC⟩:=Classical.axiomOfChoice e0
    have dF:0<len->a.spot=none:=fun h0=>by
      obtain⟨_,h7,h8⟩:=World.cells?_some (hC 0 h0).1
      have h9:=h8 0 (by omega)
      rw [List.getElem?_eq_getElem (by omega)] at h9
      have h10:=ZcK h9
      simpa [Addr.add] using h10
    refine⟨len,fun k=>(C (k/s).toNat).getD (k%s).toNat undef,⟨⟨by omega,by omega,some a,m,by simp,?_⟩,fun j hj=> ?_⟩,?_,fun i i0 i1=> ?_⟩
    · by_cases hl0:len=0
      · left;omega
      · right
        have hsp:=dF (by omega)
        exact⟨a.block,a.off,by cases a;simp at hsp;simp [hsp]⟩
    · have hjs:j<len*s:=by rw [<-Int.natCast_mul] at hj;omega
      have hi:j/s<len:=(Nat.div_lt_iff_lt_mul (by omega)).2 hjs
      have d8:0<len:=Nat.lt_of_le_of_lt (Nat.zero_le _) hi
      have hsp:=dF d8
      obtain⟨_,h7,h8⟩:=World.cells?_some (hC (j/s) hi).1
      have hr:j%s<s:=Nat.mod_lt _ (by omega)
      have h9:=h8 (j%s) hr
      rw [Addr.add_eq a hsp,Addr.add_eq _ rfl] at h9
      have e1:((j:Int)/(s:Int)).toNat=j/s:=by rw [<-Int.natCast_ediv,Int.toNat_natCast]
      have e2:((j:Int)%(s:Int)).toNat=j%s:=by rw [<-Int.natCast_emod,Int.toNat_natCast]
      have e3:a.off+j/s*s+j%s=a.off+j:=by rw [Nat.add_assoc,Nat.mul_comm,Nat.div_add_mod]
      rw [List.getElem?_eq_getElem (by omega)] at h9
      simp only [e1,e2,List.getD_eq_getElem?_getD]
      rw [List.getElem?_eq_getElem (by omega)]
      simp only [cad,Int.toNat_natCast,Option.getD_some]
      simp only [e3] at h9
      exact h9
    · have:((len*b:Nat):Int)=b*len:=by rw [Int.natCast_mul,Int.mul_comm]
      omega
    · obtain⟨k,rfl⟩:=Int.eq_ofNat_of_zero_le i0
      have hk:k<len:=by omega
      obtain⟨h5,h6⟩:=hC k hk
      obtain⟨_,h7,h8⟩:=World.cells?_some h5
      have e:((List.range s).map fun j:Nat=>(C (((k:Int)*(s:Int)+(j:Int))/(s:Int)).toNat).getD (((k:Int)*(s:Int)+(j:Int))%(s:Int)).toNat undef)=C k:=by
        apply List.ext_getElem
        · simp [h7]
        · intro j hj1 hj2
          rw [List.getElem_map,List.getElem_range]
          have hjs:j<s:=by simpa using hj1
          have e0:((k:Int)*(s:Int)+(j:Int))=((k*s+j:Nat):Int):=by rw [Int.natCast_add,Int.natCast_mul]
          have e1:(((k*s+j:Nat):Int)/(s:Int)).toNat=k:=by
            rw [<-Int.natCast_ediv,Int.toNat_natCast,Nat.mul_comm,Nat.mul_add_div (by omega),Nat.div_eq_of_lt hjs,Nat.add_zero]
          have e2:(((k*s+j:Nat):Int)%(s:Int)).toNat=j:=by
            rw [<-Int.natCast_emod,Int.toNat_natCast,Nat.mul_comm,Nat.mul_add_mod,Nat.mod_eq_of_lt hjs]
          rw [e0,e1,e2,List.getD_eq_getElem?_getD,List.getElem?_eq_getElem hj2,Option.getD_some]
      rw [e]
      exact⟨n,_,h6,hsm.2 (D k) (List.mem_map.2 ⟨k,List.mem_range.2 hk,rfl⟩)⟩
theorem Rd.array{n:Nat}{t e:TypeId}{cs:List Value}(h:Rd enc P w held t cs)(ht:P.underlying t=some (.array n e)):∀i,i<n->Rd enc P w held e ((cs.drop (i*P.cellsOf e)).take (P.cellsOf e)):=fun i hi=>by
  obtain⟨fuel,y,h,hs⟩:=h
  obtain⟨xs,m,_,rfl,_,hl,hel⟩:=DataW.trod_array ht h
  have h1:=hel i hi
  rw [List.getElem?_eq_getElem (by omega)] at h1
  refine⟨m,_,h1,?_⟩
  unfold Small at hs
  simp only [DataW.weights,ht] at hs
  exact VO hs _ (List.mem_map.2 ⟨xs[i],List.getElem_mem _,rfl⟩)
theorem Rd.field{fs:Array Field}{t u:TypeId}{cs ds:List Value}(h:Rd enc P w held t cs)(ht:P.underlying t=some (.struct fs))(j:Nat){f:Field}(hf:fs[j]? =some f){k:Nat}(hu:f.type=u)(hk:P.cellsOf u=k)(hd:(cs.drop f.offset).take k=ds):Rd enc P w held u ds:=by
  subst hu;subst hd;rw [<-hk];exact h.struct ht j f hf
theorem ZaU{cs:Array Value}{l:List Value}(h:cs.toList=l):cs=l.toArray:=by subst h;simp
theorem Rd.arg{t:TypeId}{v:Value}{d:DataW H}{p:List MemPlace}(h:DataW.Trod enc P w 0 (fun _=>true) held t v d p)(hs:Small P t d):Rd enc P w held t v.cells.toList:=by
  obtain⟨fuel,hf⟩:=h
  exact⟨fuel,_,hf,hs⟩
theorem Zlg{cs:List Value}(h:cs.length=4):∃a b c d,cs= [a,b,c,d]:=by match cs,h with| [a,b,c,d],_=>exact⟨_,_,_,_,rfl⟩
theorem Rd.nums{k:IntKind}{t e:TypeId}{b:Nat}{v:Value}(h:Rd enc P w held t [v])(ht:P.underlying t=some (.slice e))(he:P.underlying e=some (.int k))(hc:P.cellsOf e=1)(hb:P.bytesOf e=b)(hb1:1<=b):
    ∃(n:Int) (f:Int->Int),Row w v 1 n (fun j=> .int k (f j))/\b*n<=140737488351232/\∀j,(Lit.int k (f j)).wf=true:=by
  obtain⟨n,c,h1,h2,h3⟩:=h.slice ht hc hb (by omega) hb1
  have h0:(Lit.int k 0).wf=true:=by cases k<;>decide
  have e0:∀i:Int,∃x:Int,(Lit.int k x).wf=true/\(0<=i->i<n->c i= .int k x):=fun i=>by
    by_cases hi:0<=i/\i<n
    · have h4:=h3 i hi.1 hi.2
      simp only [List.range_one,List.map_cons,List.map_nil] at h4
      obtain⟨x,hx,hw⟩:=h4.intv he
      refine⟨x,hw,fun _ _=> ?_⟩
      rw [<-hx];congr 1;omega
    · exact⟨0,h0,fun a0 a1=>absurd ⟨a0,a1⟩ hi⟩
  obtain⟨f,hf⟩:=Classical.axiomOfChoice e0
  exact⟨n,f,h1.congr fun i i0 i1=>(hf i).2 i0 (by omega),h2,fun j=>(hf j).1⟩
theorem Rd.ints{t e:TypeId}{v:Value}(h:Rd enc P w held t [v])(ht:P.underlying t=some (.slice e))(he:P.underlying e=some (.int .i64))(hc:P.cellsOf e=1)(hb:P.bytesOf e=8):∃(n:Int) (f:Int->Int),IAt w v n f:=by
  obtain⟨n,f,h1,_,h2⟩:=h.nums ht he hc hb (by omega)
  exact⟨n,f,h1,fun k=>ZaR (h2 k)⟩
end
end Go.Proofs.Gw
