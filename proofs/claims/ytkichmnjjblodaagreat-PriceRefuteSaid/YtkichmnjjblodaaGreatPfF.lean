import Derived.Test.YtkichmnjjblodaaGreatPfE
set_option linter.unusedVariables false
set_option linter.unusedSimpArgs false
set_option maxRecDepth 20000
set_option maxHeartbeats 4000000
namespace Go.Proofs.YtkichmnjjblodaaGreat
open Go Go.RowKit Go.Proofs.Gw
variable {wi:Int}
def ZiY(p:Prob)(wi u:Int)(f:Int->Int->Int)(e:Int):Prop:=(¬p.Ok/\e=1/\u=0)\/(p.Ok/\¬(0<=wi/\wi<p.m)/\e=2/\u=0)\/
  (p.Ok/\(0<=wi/\wi<p.m)/\300<(MX p wi).length/\e=9/\u=0)\/(p.Ok/\(0<=wi/\wi<p.m)/\(MX p wi).length<=300/\e=0/\Ls p.m u f (MX p wi))
theorem Zdg{p:Prob}{u:Int}{f:Int->Int->Int}(h:Ls p.m u f (([]++exI p wi 0 (fun _=>0) (p.stock+p.kerf)).take 301))(hu:300<u):300<(MX p wi).length:=by
  have h1:=h.1
  rw [List.nil_append,List.length_take] at h1
  unfold MX;omega
theorem TW{p:Prob}{u:Int}{f:Int->Int->Int}(h:Ls p.m u f (([]++exI p wi 0 (fun _=>0) (p.stock+p.kerf)).take 301))(hu:¬300<u):(MX p wi).length<=300/\Ls p.m u f (MX p wi):=by
  have h1:=h.1
  rw [List.nil_append,List.length_take] at h1
  have h2:(MX p wi).length<=300:=by unfold MX;omega
  refine⟨h2,?_⟩
  have h3:=h
  rw [List.nil_append,List.take_of_length_le (by have:(exI p wi 0 (fun _=>0) (p.stock+p.kerf)).length<=300:=h2;omega)] at h3
  exact h3
theorem ZhR{vL vD:Value}{p:Prob}(w0:World)(h:PAt w0 vL vD p):
    Calls Tryz.prog 46 [.agg #[vL,vD,.int .i64 p.stock,.int .i64 p.kerf],.int .i64 wi].toArray w0 fun e w=>∃v,e= .returned v/\∃r u vv f e,v= .tuple #[r,.int .i64 e]/\ZiY p wi u f e/\Slh r u/\Sat w0 w [.own r 1 22 u vv,.sem (Frame.rows 3 u vv (fun _=>p.m) f)]:=by
  have hm:=h.L.slh.n0;have hm1:=h.L.slh.n1;have hd:=h.D.slh.n0;have hd1:=h.D.slh.n1;have hs:=h.is;have hk:=h.ik
  refine zenG Tryz.func46 Tryz.ntmps46 fun w hS=> ?_
  refine zsr<|zla (xbx (cs:= [_,_,_,_]) hS) ?_;rintro _ w ⟨g1,rfl,hS⟩
  refine(zP)<|(zP)<|zlt<|zsq<|zbk<|zsr<|(zV (xls 0 ZV hS))<|zlc (xc0 RG) (Xl (p:=p) w (h.below hS.below)) ?_;rintro _ w ⟨rfl,hS'⟩
  replace hS:=hS.cmp hS';clear hS'
  refine(zP)<|(zP)<|zlt<|Ze ?_ ?_<;>intro hc
  ·
   refine zsr<|(zP)<|(zP)<|XC<|zf2 ⟨_,rfl,?_⟩
   exact⟨_,0,_,_,_,rfl,.inl ⟨‹¬p.Ok›,rfl,rfl⟩,slh_nil,((hS.sub (.cons _ .slnil)).addnil 1 22 (fun _=>Value.slice none 0 0)).addrows 3 (fun _=>Value.slice none 0 0) (fun _=>p.m) (fun _ _=>0)⟩
  refine zsr<|zlv xmv ?_
  have hp:p.Ok:=by first|assumption|exact Classical.not_not.1 ‹_›
  have hpm:=hp.m1;have qz:=hp.m2;have hpd:=hp.d;have hs1:=hp.s1;have hs2:=hp.s2;have hk1:=hp.k1;have hk2:=hp.k2
  refine(zP)<|(zP)<|zlb 14 ?_ ?_<;>intro hc
  ·
   iterate 5 refine zlo ?_
   refine(zP)<|(zP)<|zlt<|zct<|zsr ?_
   refine(zP)<|(zP)<|XC<|zf2 ⟨_,rfl,?_⟩
   exact⟨_,0,_,_,_,rfl,.inr (.inl ⟨hp,by omega,rfl,rfl⟩),slh_nil,((hS.sub (.cons _ .slnil)).addnil 1 22 (fun _=>Value.slice none 0 0)).addrows 3 (fun _=>Value.slice none 0 0) (fun _=>p.m) (fun _ _=>0)⟩
  refine(zP)<|(zV (xfb 0 fd_24_0))<|(zV (xlb 0 pl_22 hS))<|(zV (xln Zb h.L.slh))<|(zP)<|(zP)<|(zP)<|zlt<|Ze ?_ ?_<;>intro hc
  ·
   refine zsr<|(zP)<|(zP)<|XC<|zf2 ⟨_,rfl,?_⟩
   exact⟨_,0,_,_,_,rfl,.inr (.inl ⟨hp,by omega,rfl,rfl⟩),slh_nil,((hS.sub (.cons _ .slnil)).addnil 1 22 (fun _=>Value.slice none 0 0)).addrows 3 (fun _=>Value.slice none 0 0) (fun _=>p.m) (fun _ _=>0)⟩
  refine zsk<|zbn<|ztn<|zsr<|(zV (xls 0 ZV hS))<|zlv xmv ?_
  replace hS:=(hS.addnil 1 22 (fun _=>Value.slice none 0 0)).addrows 3 (fun _=>Value.slice none 0 0) (fun _=>p.m) (fun _ _=>0)
  replace hS:=hS.addnil 1 3 (ints (fun _=>0))
  refine zlc (xc0 TD) (Zlh (p:=p) (wi:=wi) hp (by omega) _ (i:=0) (a:=fun _=>0) (l:=p.stock+p.kerf) (out:= []) w0 w (Sat.bundle (l1:= [_,_,_]) (hS.pk [1,2,3,0])) h slh_nil slh_nil (by omega) (by omega) (Pfx.start hp) Ls.nil (by omega) (by omega) (Nat.lt_succ_self _)) ?_;rintro qU w ⟨_,ux1,qC,fx1,rfl,qI,zN,xG,hS⟩
  replace hS:=Sat.unbundle (l1:= [_,_]) (l3:= []) hS
  have xn:=fun k (k0:0<=k) (k1:k<ux1)=>hS.slhIn 1 rfl k0 k1
  refine(zP)<|zx5<|(zP)<|(zV (xln Zl qI))<|(zP)<|zlt<|Ze ?_ ?_<;>intro hc
  ·
   refine zsr<|(zP)<|(zP)<|zx14<|zf2 ⟨_,rfl,?_⟩
   exact⟨_,0,_,_,_,rfl,.inr (.inr (.inl ⟨hp,by omega,Zdg xG (by omega),rfl,rfl⟩)),slh_nil,((hS.sub (.cons _ (.cons _ (.cons _ .slnil)))).addnil 1 22 (fun _=>Value.slice none 0 0)).addrows 3 (fun _=>Value.slice none 0 0) (fun _=>p.m) (fun _ _=>0)⟩
  refine ZS<|(zP)<|(zP)<|(zP)<|zx1<|zf2 ⟨_,rfl,?_⟩
  exact⟨_,_,_,_,0,rfl,.inr (.inr (.inr ⟨hp,by omega,(TW xG (by omega)).1,rfl,(TW xG (by omega)).2⟩)),qI,hS.pk [0,1]⟩
end Go.Proofs.YtkichmnjjblodaaGreat
namespace Go.Proofs.YtkichmnjjblodaaGreat
open Go Go.RowKit Go.Proofs.Gw
theorem ZkO:Zc Tryz.prog 152=true:=by kernel_rfl
theorem Zlr{x:Int}(w0:World):
    Calls Tryz.prog 152 [.int .i64 x].toArray w0 fun e w=>∃v,e= .returned v/\v=B (0<x)/\Sat w0 w []:=by
  refine zenG Tryz.func152 Tryz.ntmps152 fun w hS=> ?_
  refine zsr<|(zP)<|zlz<|(zP)<|(zP)<|(zP)<|zx1<|zf1 ⟨_,rfl,?_⟩
  exact⟨Zm (by omega),hS⟩
theorem Zly{v:Value}{n:Int}{f:Int->Int}(w0:World)(hR:Row w0 v 1 n (ints f)):
    Calls Tryz.prog 159 [v,.func (.func 152) #[] #[]].toArray w0 fun e w=>∃v,e= .returned v/\∃r:Int,v= .int .i64 r/\((r= -1/\∀k,0<=k->k<n->¬(0<f k))\/(0<=r/\r<n/\(0<f r)))/\Sat w0 w []:=by
  have hn:=hR.slh.n0;have hn1:=hR.slh.n1
  refine zenG Tryz.func159 Tryz.ntmps159 fun w hS=> ?_
  refine zsr<|(zP)<|zx5<|(zP)<|(zV (xln Zb hR.slh))<|(zP)<|zx6<|zlp (fun mm M w=>∃(i:Int),mm=((n-i).toNat)/\(0<=i)/\(i<=n)/\(∀k,0<=k->k<i->¬(0<f k))/\M= [(0,v),(1,.func (.func 152) #[] #[]),(7,.int .i64 n),(8,.int .i64 i)]/\Sat w0 w []) ⟨0,rfl,(by omega),(by omega),?_,rfl,hS⟩ ?_
  ·
   intro k h0 h1;omega
  clear hS w
  rintro mm M w ⟨i,rfl,h0,h1,qa,rfl,hS⟩
  refine zsr<|(zP)<|zx7<|Ze ?_ ?_<;>intro hc
  ·
   refine zx3<|(zP)<|(zP)<|zlz<|(zP)<|(zP)<|(zP)<|(zV (xix (kk:=i) Zb hR.slh))<|(zV (xlr (u:= .int .i64 (f i)) pl_3 (hR.below hS.below)))<|zlc (xc0 ZkO) (Zlr (x:=(f i)) w) ?_;rintro _ w ⟨rfl,hS'⟩
   replace hS:=hS.cmp hS';clear hS'
   refine zlt<|Ze ?_ ?_<;>intro hc
   ·
    refine zsr<|(zP)<|(zP)<|zx2<|zf1 ⟨_,rfl,?_⟩
    exact⟨i,rfl,.inr ⟨by omega,by omega,‹0<f i›⟩,hS⟩
   refine zx4<|(zV (Zh (r:=i+1)))<|(zP)<|zln<|zlq ⟨i+1,rfl,(by omega),(by omega),?_,rfl,hS⟩
   ·
    intro k h0' h1';rcases Int.lt_or_eq_of_le (show k<=i by omega) with hk|hk;exact qa k h0' hk;rw [hk];assumption
  refine zx8<|(zP)<|zx1<|zf1 ⟨_,rfl,?_⟩
  exact⟨-1,rfl,.inl ⟨rfl,fun k h0 h1=>qa k h0 (by omega)⟩,hS⟩
theorem ZlK{v:Value}{n:Int}{f:Int->Int}(w0:World)(hR:Row w0 v 1 n (ints f)):
    Calls Tryz.prog 151 [v,.func (.func 152) #[] #[]].toArray w0 fun e w=>∃v,e= .returned v/\v=B (∃k,0<=k/\k<n/\0<f k)/\Sat w0 w []:=by
  refine zenG Tryz.func151 Tryz.ntmps151 fun w hS=> ?_
  refine zsr<|(zP)<|zlz<|(zP)<|(zP)<|zlc (xc0 WO) (Zly (n:=n) (f:=f) w (hR.below hS.below)) ?_;rintro _ w ⟨r1,rfl,hr1,hS'⟩
  replace hS:=hS.cmp hS';clear hS'
  refine(zP)<|(zP)<|zx1<|zf1 ⟨_,rfl,?_⟩
  exact⟨Zm (by
   rcases hr1 with⟨h1,h2⟩|⟨h1,h2,h3⟩
   · exact⟨fun h=>by omega,fun⟨k,h4,h5,h6⟩=>absurd h6 (h2 k h4 h5)⟩
   · exact⟨fun _=>⟨_,h1,h2,h3⟩,fun _=>h1⟩),hS⟩
end Go.Proofs.YtkichmnjjblodaaGreat
namespace Go.Proofs.Gw
open Go Go.RowKit
noncomputable def Frame.cd(p:Prop)(F G:Frame):Frame:= @ite _ p (Classical.propDecidable p) F G
theorem Y8{p:Prop}{F G:Frame}(h:p):Frame.cd p F G=F:=if_pos h
theorem WB{p:Prop}{F G:Frame}(h:¬p):Frame.cd p F G=G:=if_neg h
structure BX where
  v:Value
  n:Int
  f:Int->Int
theorem Vz{f:Int->Int}{i x:Int}(h:f i=x):upd f i x=f:=by
  funext k;unfold upd;split
  · rename_i e;rw [e,h]
  · rfl
theorem Xx(f:Int->Int)(i x y:Int):upd (ints (upd f i x)) i (.int .i64 y)=ints (upd f i y):=by
  funext k;unfold upd ints;dsimp only;split<;>rfl
end Go.Proofs.Gw
namespace Go.Proofs.YtkichmnjjblodaaGreat
open Go Go.RowKit Go.Proofs.Gw
theorem ZdQ{vL vD:Value}{p:Prob}{wi:Int}(w0:World)(h:PAt w0 vL vD p)(hp:p.Ok):
    Calls Tryz.prog 114 [.agg #[vL,vD,.int .i64 p.stock,.int .i64 p.kerf],.int .i64 wi].toArray w0 fun e w=>∃v,e= .returned v/\∃g2 g3 g5 g6 vl,v= .func (.func 149) #[] #[.pointer (some ⟨g5,0,none⟩),.pointer (some ⟨g6,0,none⟩),.pointer (some ⟨g3,0,none⟩),.pointer (some ⟨g2,0,none⟩)]/\Slh vl (p.m+1)/\Sat w0 w [.blk g2 [vL,vD,.int .i64 p.stock,.int .i64 p.kerf],.blk g3 [.int .i64 wi],.blk g5 [.int .i64 p.m],.blk g6 [vl],.own vl 1 3 (p.m+1) (ints (Xw p))]:=by
  have hm:=h.L.slh.n0;have hm1:=h.L.slh.n1;have hd:=h.D.slh.n0;have hd1:=h.D.slh.n1;have hs:=h.is;have hk:=h.ik
  have hpm:=hp.m1;have qz:=hp.m2;have hpd:=hp.d;have hs1:=hp.s1;have hs2:=hp.s2;have hk1:=hp.k1;have hk2:=hp.k2
  refine zenG Tryz.func114 Tryz.ntmps114 fun w hS=> ?_
  refine zsr<|zla (xbx (cs:= [_,_,_,_]) hS) ?_;rintro _ w ⟨g1,rfl,hS⟩
  refine zla (xbx (cs:= [_]) hS) ?_;rintro _ w ⟨g2,rfl,hS⟩
  refine(zP)<|zlz<|(zV (xfb 0 fd_32_0))<|(zV (xlb 0 pl_22 hS))<|(zV (xln Zb h.L.slh))<|zla (xal (cs:= [_]) Zt hS) ?_;rintro _ w ⟨g3,rfl,hS⟩
  refine zle (xsb 2 pl_3 hS) ?_;clear hS;rintro w hS
  refine zlz<|(zV (xlb 2 pl_3 hS))<|(zV (Zh (r:=p.m+1)))<|zla (xmk Zb Zt hS) ?_;rintro v1 w ⟨hS,hv1⟩
  refine zla (xal (cs:= [_]) Z3 hS) ?_;rintro _ w ⟨g4,rfl,hS⟩
  refine zle (xsb 4 pl_22 hS (hv:=hv1.one)) ?_;clear hS;rintro w hS
  refine zx5<|(zV (xlb 2 pl_3 hS))<|(zV (Zp (r:=p.m-1)))<|(zP)<|zx6<|zlp (fun mm M w=>∃(g:Int->Int) (i:Int),mm=((i+1).toNat)/\(-1<=i)/\(i<p.m)/\(∀k,i<k->k<=p.m->g k=Xw p k)/\M= [(2,.pointer (some ⟨g1,0,none⟩)),(3,.pointer (some ⟨g2,0,none⟩)),(4,(Value.nilFunc)),(5,.pointer (some ⟨g3,0,none⟩)),(6,.pointer (some ⟨g4,0,none⟩)),(7,.int .i64 i)]/\Sat w0 w [.blk g1 [vL,vD,.int .i64 p.stock,.int .i64 p.kerf],.blk g2 [.int .i64 wi],.blk g3 [.int .i64 p.m],.own v1 1 3 (p.m+1) (ints g),.blk g4 [v1]]) ⟨(fun _=>0),p.m-1,rfl,(by omega),(by omega),?_,rfl,hS⟩ ?_
  ·
   intro k k0 k1;rw [LatI_end (by omega)]
  clear hS w
  rintro mm M w ⟨g,i,rfl,h0,h1,hg,rfl,hS⟩
  refine zx11<|(zP)<|(zP)<|zlt<|Ze ?_ ?_<;>intro hc
  ·
   refine zx29<|zdst [0,1,2,3,4] [0,1,2,4] 18 mx_ hS ?_;clear hS;intro w hS
   refine(zDl 0 (fun w hS=>(xlb 3 pl_22 hS)))<|(zDw 1 xmv)<|(zDl 2 (fun w hS=>(xlb 3 pl_22 hS)))<|(zDw 3 xmv)<|(zDw 4 (Zh (r:=i+1)))<|(zDw 5 (xix (kk:=i+1) Zb hv1))<|zdl 6 (fun w hS=>(xlr (u:= .int .i64 (g (i+1))) pl_3 (hS.rowN 3 rfl))) ?_
   have hei:=hp.all i (by omega) (by omega);unfold Prob.each at hei
   have hLn:=K1 hp (i:=i+1) (by omega)
   have hgn:=hg (i+1) (by omega) (by omega)
   have hml:0<=p.D i*(p.L i+p.kerf)/\p.D i*(p.L i+p.kerf)<=2100000:=⟨Int.mul_nonneg (by omega) (by omega),Int.le_trans (Int.mul_le_mul (show p.D i<=1000 by omega) (show p.L i+p.kerf<=2100 by omega) (by omega) (by omega)) (by omega)⟩
   refine(zDw 7 (xfb 1 fd_32_1))<|(zDl 8 (fun w hS=>(xlb 0 pl_22 hS)))<|(zDw 9 xmv)<|(zDw 10 (xix (kk:=i) Zb h.D.slh))<|zdla 11 (fun w hS=>(xlr (u:= .int .i64 (p.D i)) pl_3 (h.D.below hS.below))) ?_
   have hbv:=h.iD i
   refine(zDl 12 (fun w hS=>(xls 0 st_32 hS)))<|(zDw 13 xmv)<|zdc 14 (xc0 XL) (XM (p:=p) (i:=i) w (h.below hS.below) hp (by omega) (by omega)) ?_;rintro _ w ⟨rfl,hS'⟩
   replace hS:=hS.cmp hS';clear hS'
   refine⟨⟨fun _=>hS,hS.pk [0,1,2,4]⟩,?_⟩
   refine zDrv 15 (Z7 (r:=((p.D i)*(p.L i+p.kerf))) (e:=rfl) (hr:=(by unfold I64;omega))) ?_
   refine(zDw 16 (Zh (r:=g (i+1)+((p.D i)*(p.L i+p.kerf)))))<|(zDw 17 (xix (kk:=i) Zb hv1))<|zde 18 (xso 3 pl_3 hS (Zq _ _ _)) ?_;clear hS;rintro w hS
   refine⟨⟨fun h=>absurd h (by decide),hS.pk [0,1,2,4]⟩,?_⟩
   refine zdd<|zbn<|ztn<|zrg ?_
   refine(zP)<|(zV (Zp (r:=i-1)))<|(zP)<|zln<|zlq ⟨(upd g i (g (i+1)+((p.D i)*(p.L i+p.kerf)))),i-1,rfl,(by omega),(by omega),?_,rfl,hS⟩
   ·
    intro k k0 k1;by_cases e:k=i
    · rw [e,Zk,Uy (by omega) h1,<-hg (i+1) (by omega) (by omega)]
    · rw [upd_ne _ _ e];exact hg k (by omega) k1
  refine zx8<|(zV xmf)<|(zP)<|zx1<|zf1 ⟨_,rfl,?_⟩
  have hi:i= -1:=by omega
  replace hS:=hS.recont 3 rfl (d:=ints (Xw p)) (fun k k0 k1=>by unfold ints;rw [hg k (by omega) (by omega)])
  exact⟨_,_,_,_,_,rfl,hv1,hS.pk [0,1,2,4,3]⟩
end Go.Proofs.YtkichmnjjblodaaGreat
namespace Go.Proofs.YtkichmnjjblodaaGreat
open Go Go.RowKit Go.Proofs.Gw
theorem TE:Zc Tryz.prog 150=true:=by kernel_rfl
theorem Ug:ZN Tryz.prog 209=true:=by kernel_rfl
theorem ZhI {vL vD:Value} {p:Prob} (hp:p.Ok) {wi:Int} {St Tt:Type} (qd:St->List (Int->Int)) (Inv:St->Prop) (Stp:Tt->Prop) (t0:Tt) {g2 g3 g5 g6:Nat} {vl:Value} (hvl:Slh vl (p.m+1)) {lq:Nat} {C:St->Gw.Frame} {D:Tt->Gw.Frame} (N:Nat):∀{F:Gw.Frame} {s:St} {ga gy gv:Nat} {va:Value} {a:Int->Int} {i l need:Int} {pre post:List (Int->Int)} (w0 w:World) (hS:Sat w0 w [.sem (C s),.blk g2 [vL,vD,.int .i64 p.stock,.int .i64 p.kerf],.blk g3 [.int .i64 wi],.blk g5 [.int .i64 p.m],.blk g6 [vl],.own vl 1 3 (p.m+1) (ints (Xw p)),.blk ga [va],.own va 1 3 p.m (ints a),.blk gy [.func (.yield lq) #[] #[]],.blk gv [.func (.func 150) #[] #[.pointer (some ⟨g6,0,none⟩),.pointer (some ⟨g5,0,none⟩),.pointer (some ⟨ga,0,none⟩),.pointer (some ⟨gy,0,none⟩),.pointer (some ⟨g3,0,none⟩),.pointer (some ⟨g2,0,none⟩),.pointer (some ⟨gv,0,none⟩)]],.sem F]) (h:PAt w0 vL vD p) (hva:Slh va p.m) (h0:0<=i) (h1:i<=p.m) (hx:Pfx p i a l) (hn:NeedP p a i need) (hI:Inv s) (hh:qd s=pre) (hM:MX p wi=pre++(exI p wi i a l++post)) (hY:∀(s:St) (x:BX) (rest:Gw.Frame) (w:World),(fun(s:St) (x:BX) (rest:Gw.Frame)=>Inv s/\Slh x.v x.n/\x.n=p.m/\∃r,MX p wi=qd s++x.f::r) s x rest->Sat w0 w (.sem (C s)::([.blk g2 [vL,vD,.int .i64 p.stock,.int .i64 p.kerf],.blk g3 [.int .i64 wi],.blk g5 [.int .i64 p.m],.blk g6 [vl],.own vl 1 3 (p.m+1) (ints (Xw p))]++((fun(x:BX)=> [.own x.v 1 3 x.n (ints x.f)]) x++ [.sem rest])))->Yld Tryz.prog lq [x.v] w fun v w'=>(v= .bool true/\∃s',(fun(s:St) (x:BX) (s1:St)=>qd s1=qd s++ [x.f]/\Inv s1) s x s'/\Sat w0 w' (.sem (C s')::([.blk g2 [vL,vD,.int .i64 p.stock,.int .i64 p.kerf],.blk g3 [.int .i64 wi],.blk g5 [.int .i64 p.m],.blk g6 [vl],.own vl 1 3 (p.m+1) (ints (Xw p))]++ [.sem rest])))\/(v= .bool false/\∃t,Stp t/\Sat w0 w' (.sem (D t)::([.blk g2 [vL,vD,.int .i64 p.stock,.int .i64 p.kerf],.blk g3 [.int .i64 wi],.blk g5 [.int .i64 p.m],.blk g6 [vl],.own vl 1 3 (p.m+1) (ints (Xw p))]++ [.sem rest])))) (hN:(p.m-i).toNat<N),
    Calls Tryz.prog 150 [.int .i64 i,.int .i64 l,.int .i64 need,.pointer (some ⟨g6,0,none⟩),.pointer (some ⟨g5,0,none⟩),.pointer (some ⟨ga,0,none⟩),.pointer (some ⟨gy,0,none⟩),.pointer (some ⟨g3,0,none⟩),.pointer (some ⟨g2,0,none⟩),.pointer (some ⟨gv,0,none⟩)].toArray w fun e w=>∃v,e= .returned v/\∃(ok:Prop) (s2:St) (t2:Tt) (a2:Int->Int),v=B ok/\(ok->a2=a/\Inv s2/\qd s2=pre++exI p wi i a l)/\(¬ok->Stp t2)/\Sat w0 w [.sem (Frame.cd ok (C s2) (D t2)),.blk g2 [vL,vD,.int .i64 p.stock,.int .i64 p.kerf],.blk g3 [.int .i64 wi],.blk g5 [.int .i64 p.m],.blk g6 [vl],.own vl 1 3 (p.m+1) (ints (Xw p)),.blk ga [va],.own va 1 3 p.m (ints a2),.blk gy [.func (.yield lq) #[] #[]],.blk gv [.func (.func 150) #[] #[.pointer (some ⟨g6,0,none⟩),.pointer (some ⟨g5,0,none⟩),.pointer (some ⟨ga,0,none⟩),.pointer (some ⟨gy,0,none⟩),.pointer (some ⟨g3,0,none⟩),.pointer (some ⟨g2,0,none⟩),.pointer (some ⟨gv,0,none⟩)]],.sem F]:=by
  induction N with
  |zero=>intros;omega
  | succ N ih=>
    intro F s ga gy gv va a i l need pre post w0 w hS h hva h0 h1 hx hn hI hh hM hY hN
    have hm:=h.L.slh.n0;have hm1:=h.L.slh.n1;have hdn:=h.D.slh.n0;have fT:=h.D.slh.n1;have hs:=h.is;have hk:=h.ik
    have hpm:=hp.m1;have qz:=hp.m2;have hpd:=hp.d;have hs1:=hp.s1;have hs2:=hp.s2;have hk1:=hp.k1;have hk2:=hp.k2
    have hlx:=Zeq hp hx h0 h1;have hl0:=hx.l0;have hLn:=K1 hp h0;have hnt:=hn.top
    refine ZeI Tryz.func150 Tryz.ntmps150 ?_
    refine hsq<|hrz ?_
    refine(zP)<|zln<|zh<|htn<|hsq<|hsq<|hrz ?_
    refine(zP)<|(zV (xlb 4 pl_22 hS))<|(zP)<|(zV (xix (kk:=i) Zb hvl))<|(zV (xlr (u:= .int .i64 (Xw p i)) pl_3 (hS.rowN 5 rfl)))<|(zV (Zp (r:=l-(Xw p i))))<|(zP)<|(zP)<|zln<|zh<|htn ?_
    refine YZ ?_ ?_<;>intro hc
    ·
     refine hsq<|hrz ?_
     refine(zP)<|zln<|zh<|htn<|hrt<|ztr<|zf1 ⟨_,rfl,?_⟩
     exact⟨True,s,t0,a,(ZI trivial).symm,fun _=>⟨rfl,hI,by first|rw [Zck hp h0 h1 hx hn (by omega),hh,List.append_nil]|rw [UT (by omega) ‹_›,hh,List.append_nil]⟩,fun hq=>absurd trivial hq,by rw [Y8 trivial];exact hS.pk [0,1,2,3,4,5,6,7,8,9,10]⟩
    refine hsk<|htn<|hsq<|hsq<|hrz ?_
    refine(zP)<|(zV (xlb 3 pl_3 hS))<|(zP)<|zln<|zh<|htn ?_
    refine YZ ?_ ?_<;>intro hc
    ·
     refine hsq<|hrz ?_
     refine(zV (xlb 6 pl_22 hS))<|zlc (xc0 WP) (ZlK (n:=p.m) (f:=a) w (hS.rowN 7 rfl)) ?_;rintro _ w ⟨rfl,hS'⟩
     replace hS:=hS.cmp hS';clear hS'
     refine(zP)<|(zP)<|zlb 14 ?_ ?_<;>intro hc
     ·
      refine zln<|zh<|htn<|hsq ?_
      refine hdr 8 mx_ hS ?_;clear hS;intro w hS
      refine hd1 0 ?_
      refine hov xmv ?_
      refine hd1 1 ?_
      refine hov xmv ?_
      refine hd2 2 3 ?_ ?_
      ·
       refine hof ?_
       refine hd1 3 ?_
       refine hof ?_
       refine hd1 4 ?_
       refine hof ?_
       refine hd1 5 ?_
       refine hof ?_
       refine hd1 6 ?_
       refine hov xpt ?_
       refine hd1 7 ?_
       refine hov xas ?_
       refine hd0<|htn<|hrt<|ztr<|zf1 ⟨_,rfl,?_⟩
       exact⟨True,s,t0,a,(ZI trivial).symm,fun _=>⟨rfl,hI,by first|rw [Zck hp h0 h1 hx hn (by omega),hh,List.append_nil]|rw [UT (by omega) ‹_›,hh,List.append_nil]⟩,fun hq=>absurd trivial hq,by rw [Y8 trivial];exact hS.pk [0,1,2,3,4,5,6,7,8,9,10]⟩
      ·
       refine hof ?_
       refine hd2 2 4 ?_ ?_
       ·
        refine hof ?_
        refine hd1 4 ?_
        refine hof ?_
        refine hd1 5 ?_
        refine hof ?_
        refine hd1 6 ?_
        refine hov xpt ?_
        refine hd1 7 ?_
        refine hov xas ?_
        refine hd0<|htn<|hrt<|ztr<|zf1 ⟨_,rfl,?_⟩
        exact⟨True,s,t0,a,(ZI trivial).symm,fun _=>⟨rfl,hI,by first|rw [Zck hp h0 h1 hx hn (by omega),hh,List.append_nil]|rw [UT (by omega) ‹_›,hh,List.append_nil]⟩,fun hq=>absurd trivial hq,by rw [Y8 trivial];exact hS.pk [0,1,2,3,4,5,6,7,8,9,10]⟩
       ·
        refine hof ?_
        refine hd1 2 ?_
        refine hof ?_
        refine hd1 5 ?_
        refine hof ?_
        refine hd1 6 ?_
        refine hov xpt ?_
        refine hd1 7 ?_
        refine hov xas ?_
        refine hd0<|htn<|hrt<|ztr<|zf1 ⟨_,rfl,?_⟩
        exact⟨True,s,t0,a,(ZI trivial).symm,fun _=>⟨rfl,hI,by first|rw [Zck hp h0 h1 hx hn (by omega),hh,List.append_nil]|rw [UT (by omega) ‹_›,hh,List.append_nil]⟩,fun hq=>absurd trivial hq,by rw [Y8 trivial];exact hS.pk [0,1,2,3,4,5,6,7,8,9,10]⟩
     refine zln<|zh<|htn<|hsq ?_
     refine hdr 8 mx_ hS ?_;clear hS;intro w hS
     refine hd1 0 ?_
     refine hov xmv ?_
     refine hd1 1 ?_
     refine hov xmv ?_
     refine hd2 2 3 ?_ ?_
     ·
      refine hov (xlb 8 pl_208 hS) ?_
      refine hd1 3 ?_
      refine hov (xlb 6 pl_22 hS) ?_
      refine hd1 4 ?_
      refine hoc (xc0 cl_65) (c_clone (n:=p.m) (f:=a) w (hS.rowN 7 rfl) (by omega)) ?_;rintro vq1 w ⟨_,rfl,qb,hS'⟩
      replace hS:=(hS.comp hS').n12;clear hS'
      refine hd1 5 ?_
      replace hS:=hS.pk [0,1,2,3,4,5,11,6,7,8,9,10]
      refine hoy (hY s ⟨vq1,p.m,a⟩ _ w ⟨hI,qb,rfl,post,by rw [hM,Wc (by omega) hn (by rw [LatI_end (by omega)] at*;omega) (Classical.not_not.1 ‹_›),hh];rfl⟩ (Sat.bundle (l1:= [_,_,_,_,_,_,_]) hS)) ?_;rintro _ w (⟨rfl,sy1,qu,hS⟩|⟨rfl,ty1,xd,hS⟩)
      ·
       replace hS:=Sat.unbundle (l1:= [_,_,_,_,_,_]) (l3:= []) hS
       refine hd1 6 ?_
       refine hov xpf ?_
       refine hd1 7 ?_
       refine hov xas ?_
       refine hd0<|htn<|hrt<|ztr<|zf1 ⟨_,rfl,?_⟩
       exact⟨True,sy1,t0,a,(ZI trivial).symm,fun _=>⟨rfl,qu.2,by rw [Wc (by omega) hn (by rw [LatI_end (by omega)] at*;omega) (Classical.not_not.1 ‹_›),qu.1,hh]⟩,fun hq=>absurd trivial hq,by rw [Y8 trivial];exact hS.pk [0,1,2,3,4,5,6,7,8,9,10]⟩
      ·
       replace hS:=Sat.unbundle (l1:= [_,_,_,_,_,_]) (l3:= []) hS
       refine hd1 6 ?_
       refine hov xpf ?_
       refine hd1 7 ?_
       refine hov xas ?_
       refine hd0<|htn<|hrt<|ztr<|zf1 ⟨_,rfl,?_⟩
       exact⟨False,s,ty1,a,(ZC not_false).symm,fun hq=>hq.elim,fun _=>xd,by rw [WB not_false];exact hS.pk [0,1,2,3,4,5,6,7,8,9,10]⟩
     ·
      refine hov (xlb 6 pl_22 hS) ?_
      refine hd2 2 4 ?_ ?_
      ·
       refine hov (xlb 8 pl_208 hS) ?_
       refine hd1 4 ?_
       refine hoc (xc0 cl_65) (c_clone (n:=p.m) (f:=a) w (hS.rowN 7 rfl) (by omega)) ?_;rintro vq1 w ⟨_,rfl,qb,hS'⟩
       replace hS:=(hS.comp hS').n12;clear hS'
       refine hd1 5 ?_
       replace hS:=hS.pk [0,1,2,3,4,5,11,6,7,8,9,10]
       refine hoy (hY s ⟨vq1,p.m,a⟩ _ w ⟨hI,qb,rfl,post,by rw [hM,Wc (by omega) hn (by rw [LatI_end (by omega)] at*;omega) (Classical.not_not.1 ‹_›),hh];rfl⟩ (Sat.bundle (l1:= [_,_,_,_,_,_,_]) hS)) ?_;rintro _ w (⟨rfl,sy1,qu,hS⟩|⟨rfl,ty1,xd,hS⟩)
       ·
        replace hS:=Sat.unbundle (l1:= [_,_,_,_,_,_]) (l3:= []) hS
        refine hd1 6 ?_
        refine hov xpf ?_
        refine hd1 7 ?_
        refine hov xas ?_
        refine hd0<|htn<|hrt<|ztr<|zf1 ⟨_,rfl,?_⟩
        exact⟨True,sy1,t0,a,(ZI trivial).symm,fun _=>⟨rfl,qu.2,by rw [Wc (by omega) hn (by rw [LatI_end (by omega)] at*;omega) (Classical.not_not.1 ‹_›),qu.1,hh]⟩,fun hq=>absurd trivial hq,by rw [Y8 trivial];exact hS.pk [0,1,2,3,4,5,6,7,8,9,10]⟩
       ·
        replace hS:=Sat.unbundle (l1:= [_,_,_,_,_,_]) (l3:= []) hS
        refine hd1 6 ?_
        refine hov xpf ?_
        refine hd1 7 ?_
        refine hov xas ?_
        refine hd0<|htn<|hrt<|ztr<|zf1 ⟨_,rfl,?_⟩
        exact⟨False,s,ty1,a,(ZC not_false).symm,fun hq=>hq.elim,fun _=>xd,by rw [WB not_false];exact hS.pk [0,1,2,3,4,5,6,7,8,9,10]⟩
      ·
       refine hoc (xc0 cl_65) (c_clone (n:=p.m) (f:=a) w (hS.rowN 7 rfl) (by omega)) ?_;rintro vq1 w ⟨_,rfl,qb,hS'⟩
       replace hS:=(hS.comp hS').n12;clear hS'
       refine hd1 2 ?_
       refine hov (xlb 8 pl_208 hS) ?_
       refine hd1 5 ?_
       replace hS:=hS.pk [0,1,2,3,4,5,11,6,7,8,9,10]
       refine hoy (hY s ⟨vq1,p.m,a⟩ _ w ⟨hI,qb,rfl,post,by rw [hM,Wc (by omega) hn (by rw [LatI_end (by omega)] at*;omega) (Classical.not_not.1 ‹_›),hh];rfl⟩ (Sat.bundle (l1:= [_,_,_,_,_,_,_]) hS)) ?_;rintro _ w (⟨rfl,sy1,qu,hS⟩|⟨rfl,ty1,xd,hS⟩)
       ·
        replace hS:=Sat.unbundle (l1:= [_,_,_,_,_,_]) (l3:= []) hS
        refine hd1 6 ?_
        refine hov xpf ?_
        refine hd1 7 ?_
        refine hov xas ?_
        refine hd0<|htn<|hrt<|ztr<|zf1 ⟨_,rfl,?_⟩
        exact⟨True,sy1,t0,a,(ZI trivial).symm,fun _=>⟨rfl,qu.2,by rw [Wc (by omega) hn (by rw [LatI_end (by omega)] at*;omega) (Classical.not_not.1 ‹_›),qu.1,hh]⟩,fun hq=>absurd trivial hq,by rw [Y8 trivial];exact hS.pk [0,1,2,3,4,5,6,7,8,9,10]⟩
       ·
        replace hS:=Sat.unbundle (l1:= [_,_,_,_,_,_]) (l3:= []) hS
        refine hd1 6 ?_
        refine hov xpf ?_
        refine hd1 7 ?_
        refine hov xas ?_
        refine hd0<|htn<|hrt<|ztr<|zf1 ⟨_,rfl,?_⟩
        exact⟨False,s,ty1,a,(ZC not_false).symm,fun hq=>hq.elim,fun _=>xd,by rw [WB not_false];exact hS.pk [0,1,2,3,4,5,6,7,8,9,10]⟩
    refine hsk<|htn<|hsq<|hrz ?_
    refine(zP)<|zln<|zh<|htn<|hsq<|hsq<|hrz ?_
    refine(zP)<|(zV (xlb 2 pl_3 hS))<|(zP)<|zln<|zh<|htn ?_
    refine YZ ?_ ?_<;>intro hc
    ·
     refine hrz ?_
     refine(zP)<|zln<|zh<|htn<|hsq<|hsq ?_
     refine hdst [0,1,2,3,4,5,6,7,8,9,10] [0,1,2,3,4,5,6,7,8,9,10] 1000 mx_ hS ?_;clear hS;intro w hS
     refine(zDw 0 (xfb 1 fd_32_1))<|(zDl 1 (fun w hS=>(xlb 1 pl_22 hS)))<|(zDw 2 xmv)<|(zDw 3 (xix (kk:=i) Zb h.D.slh))<|zdla 4 (fun w hS=>(xlr (u:= .int .i64 (p.D i)) pl_3 (h.D.below hS.below))) ?_
     have hbv:=h.iD i
     have hei:=hp.all i h0 (by omega);unfold Prob.each at hei
     have hqd:=Yw (a:=l) (b:=p.L i+p.kerf) (by omega) (by omega)
     have hml:min (p.D i) (Int.tdiv l (p.L i+p.kerf))=most p i l:=rfl
     refine(zDw 5 xmv)<|(zDl 6 (fun w hS=>(xls 1 st_32 hS)))<|(zDw 7 xmv)<|zdc 8 (xc0 XL) (XM (p:=p) (i:=i) w (h.below hS.below) hp (by omega) (by omega)) ?_;rintro _ w ⟨rfl,hS'⟩
     replace hS:=hS.cmp hS';clear hS'
     refine⟨⟨fun _=>hS,hS⟩,?_⟩
     refine(zDw 9 (Vx (r:=(Int.tdiv l (p.L i+p.kerf)))))<|(zDw 10 (UJ (r:=(min (p.D i) (Int.tdiv l (p.L i+p.kerf))))))<|(zDw 11 xas)<|zdd<|zh<|htn<|hbk ?_
     have hlw:least wi i=1:=by unfold least;first|rw [if_pos (by omega)]|rw [if_neg (by omega)]
     rw [<-Vz (show a i=0 from hx.zero i (by omega))] at hS
     refine hlp (fun mm M w=>∃(s2:St) (z:Int) (k:Int),mm=((k+1-least wi i).toNat)/\(least wi i-1<=k\/k=most p i l)/\(k<=most p i l)/\(Inv s2)/\(MX p wi=qd s2++(dn (kid p wi i a l) (least wi i) (k+1-least wi i).toNat++post))/\M= [(0,.int .i64 i),(1,.int .i64 l),(2,.int .i64 need),(5,.pointer (some ⟨ga,0,none⟩)),(8,.pointer (some ⟨g2,0,none⟩)),(9,.pointer (some ⟨gv,0,none⟩)),(15,.int .i64 1),(16,.int .i64 k)]/\Sat w0 w [.sem (C s2),.blk g2 [vL,vD,.int .i64 p.stock,.int .i64 p.kerf],.blk g3 [.int .i64 wi],.blk g5 [.int .i64 p.m],.blk g6 [vl],.own vl 1 3 (p.m+1) (ints (Xw p)),.blk ga [va],.own va 1 3 p.m (ints (upd a i z)),.blk gy [.func (.yield lq) #[] #[]],.blk gv [.func (.func 150) #[] #[.pointer (some ⟨g6,0,none⟩),.pointer (some ⟨g5,0,none⟩),.pointer (some ⟨ga,0,none⟩),.pointer (some ⟨gy,0,none⟩),.pointer (some ⟨g3,0,none⟩),.pointer (some ⟨g2,0,none⟩),.pointer (some ⟨gv,0,none⟩)]],.sem F]) ⟨s,0,(min (p.D i) (Int.tdiv l (p.L i+p.kerf))),rfl,(by omega),(by omega),?_,?_,rfl,hS⟩ ?_
     ·
      exact hI
     ·
      rw [hM,XJ h0 (by omega),hh];rfl
     clear hS w
     rintro mm M w ⟨s2,z,k,rfl,k0,k1,hI2,hM2,rfl,hS⟩
     refine hsq<|hsq<|hrz ?_
     refine(zP)<|(zP)<|(zP)<|zln<|zh<|htn ?_
     refine YZ ?_ ?_<;>intro hc
     ·
      refine hsk<|htn<|hsq<|hbk<|hsq<|hrz ?_
      refine(zP)<|(zP)<|zln<|zh<|htn<|hsq<|hsq<|hrz ?_
      refine(zP)<|(zV (xfb 1 fd_32_1))<|(zV (xlb 1 pl_22 hS))<|(zP)<|(zV (xix (kk:=i) Zb h.D.slh))<|zlv (xlr (u:= .int .i64 (p.D i)) pl_3 (h.D.below hS.below)) ?_
      have hbv:=h.iD i
      refine(zP)<|zln<|zh<|htn ?_
      refine YZ ?_ ?_<;>intro hc
      ·
       refine hrz ?_
       refine(zP)<|(zV (xls 1 st_32 hS))<|(zP)<|zlc (xc0 XL) (XM (p:=p) (i:=i) w (h.below hS.below) hp (by omega) (by omega)) ?_;rintro _ w ⟨rfl,hS'⟩
       replace hS:=hS.cmp hS';clear hS'
       refine(zV (UJ (r:=(min need (p.L i+p.kerf)))))<|(zP)<|zln<|zh<|htn<|hsq<|hrz ?_
       refine(zV (xlb 6 pl_22 hS))<|(zP)<|(zP)<|(zV (xix (kk:=i) Zb hva))<|zle (xso 7 pl_3 hS (Xx a i z k)) ?_;clear hS;rintro w hS
       refine zln<|zh<|htn<|hsq ?_
       refine hdst [1,2,3,4,6,8,9,5] [1,2,3,4,6,8,9,5] 1000 mx_ hS ?_;clear hS;intro w hS
       refine(zDl 0 (fun w hS=>(xlb 6 Ug hS)))<|(zDw 1 xmv)<|(zDw 2 (Zh (r:=i+1)))<|(zDw 3 xmv)<|(zDw 4 xmv)<|zdla 5 (fun w hS=>(xls 0 st_32 hS)) ?_
       have hmm:=XH hp h0 (by omega) hx.l0 (k:=k) (by omega) (by omega)
       refine(zDw 6 xmv)<|(zDw 10 xmv)<|zdc 7 (xc0 XL) (XM (p:=p) (i:=i) w (h.below hS.below) hp (by omega) (by omega)) ?_;rintro _ w ⟨rfl,hS'⟩
       replace hS:=hS.cmp hS';clear hS'
       refine⟨⟨fun _=>hS.pk [1,2,3,4,6,8,9,5],hS.pk [1,2,3,4,6,8,9,5]⟩,?_⟩
       refine(zDw 8 (Z7 (r:=(k*(p.L i+p.kerf))) (e:=rfl)))<|(zDw 9 (Zp (r:=l-(k*(p.L i+p.kerf)))))<|zdc 11 (xcc (vs:= [_,_,_]) TE) (ih (s:=s2) (i:=i+1) (a:=upd a i k) (l:=l-k*(p.L i+p.kerf)) (need:=(min need (p.L i+p.kerf))) (pre:=qd s2) (post:=dn (kid p wi i a l) (least wi i) (k-least wi i).toNat++post) w0 w (Sat.bundle (l1:= [_,_,_,_,_,_,_,_,_,_]) (hS.pk [0,1,2,3,4,5,6,7,8,9,10])) h hva (by omega) (by omega) (hx.step hp h0 (by omega) (by omega) (by omega)) (hn.yes h0 (by omega)) hI2 rfl (by rw [hM2,X0 (k:=k) _ (by omega),List.append_assoc];rfl) hY (by omega)) ?_;rintro _ w ⟨qV,sz1,tz1,za,rfl,yG,yS,hS⟩
       replace hS:=Sat.unbundle (l1:= [_,_,_,_,_,_,_,_,_,_]) (l3:= []) hS
       refine⟨⟨fun _=>hS.pk [1,2,3,4,6,8,9,5],hS.pk [1,2,3,4,6,8,9,5]⟩,?_⟩
       refine(zDw 12 Yz)<|zdd<|zh<|htn ?_
       refine YZ ?_ ?_<;>intro hc
       ·
        refine hsq<|hrz ?_
        refine(zP)<|zln<|zh<|htn<|hrt<|zbr<|ztr<|ztr<|zbr<|ztr<|zf1 ⟨_,rfl,?_⟩
        have yr:=Classical.not_not.1 (fun hh9=>hh9 ‹¬qV›)
        exact⟨False,s,tz1,za,(ZC not_false).symm,fun hq=>hq.elim,fun _=>yS yr,by rw [WB not_false];rw [WB yr] at hS;exact hS.pk [0,1,2,3,4,5,6,7,8,9,10]⟩
       refine hsk<|zbn<|htn<|hrz ?_
       refine zlv xmv ?_
       obtain⟨rfl,xj,zo⟩:=yG (Classical.not_not.1 ‹¬¬qV›)
       rw [Y8 (Classical.not_not.1 ‹¬¬qV›)] at hS
       refine(zV (Zp (r:=k-1)))<|(zP)<|zln<|zh<|hlq ⟨sz1,k,k-1,rfl,(by omega),(by omega),?_,?_,rfl,hS⟩
       ·
        exact xj
       ·
        rw [zo,hM2,X0 (k:=k) _ (by omega),show k-1+1-least wi i=k-least wi i by omega,List.append_assoc,List.append_assoc];rfl
      refine hsk<|htn<|hsq<|hrz ?_
      refine(zV (xlb 6 pl_22 hS))<|(zP)<|(zP)<|(zV (xix (kk:=i) Zb hva))<|zle (xso 7 pl_3 hS (Xx a i z k)) ?_;clear hS;rintro w hS
      refine zln<|zh<|htn<|hsq ?_
      refine hdst [1,2,3,4,6,8,9,5] [1,2,3,4,6,8,9,5] 1000 mx_ hS ?_;clear hS;intro w hS
      refine(zDl 0 (fun w hS=>(xlb 6 Ug hS)))<|(zDw 1 xmv)<|(zDw 2 (Zh (r:=i+1)))<|(zDw 3 xmv)<|(zDw 4 xmv)<|zdla 5 (fun w hS=>(xls 0 st_32 hS)) ?_
      have hmm:=XH hp h0 (by omega) hx.l0 (k:=k) (by omega) (by omega)
      refine(zDw 6 xmv)<|(zDw 10 xmv)<|zdc 7 (xc0 XL) (XM (p:=p) (i:=i) w (h.below hS.below) hp (by omega) (by omega)) ?_;rintro _ w ⟨rfl,hS'⟩
      replace hS:=hS.cmp hS';clear hS'
      refine⟨⟨fun _=>hS.pk [1,2,3,4,6,8,9,5],hS.pk [1,2,3,4,6,8,9,5]⟩,?_⟩
      refine(zDw 8 (Z7 (r:=(k*(p.L i+p.kerf))) (e:=rfl)))<|(zDw 9 (Zp (r:=l-(k*(p.L i+p.kerf)))))<|zdc 11 (xcc (vs:= [_,_,_]) TE) (ih (s:=s2) (i:=i+1) (a:=upd a i k) (l:=l-k*(p.L i+p.kerf)) (need:=need) (pre:=qd s2) (post:=dn (kid p wi i a l) (least wi i) (k-least wi i).toNat++post) w0 w (Sat.bundle (l1:= [_,_,_,_,_,_,_,_,_,_]) (hS.pk [0,1,2,3,4,5,6,7,8,9,10])) h hva (by omega) (by omega) (hx.step hp h0 (by omega) (by omega) (by omega)) (hn.no h0 (by omega)) hI2 rfl (by rw [hM2,X0 (k:=k) _ (by omega),List.append_assoc];rfl) hY (by omega)) ?_;rintro _ w ⟨qV,sz1,tz1,za,rfl,yG,yS,hS⟩
      replace hS:=Sat.unbundle (l1:= [_,_,_,_,_,_,_,_,_,_]) (l3:= []) hS
      refine⟨⟨fun _=>hS.pk [1,2,3,4,6,8,9,5],hS.pk [1,2,3,4,6,8,9,5]⟩,?_⟩
      refine(zDw 12 Yz)<|zdd<|zh<|htn ?_
      refine YZ ?_ ?_<;>intro hc
      ·
       refine hsq<|hrz ?_
       refine(zP)<|zln<|zh<|htn<|hrt<|zbr<|ztr<|ztr<|zbr<|ztr<|zf1 ⟨_,rfl,?_⟩
       have yr:=Classical.not_not.1 (fun hh9=>hh9 ‹¬qV›)
       exact⟨False,s,tz1,za,(ZC not_false).symm,fun hq=>hq.elim,fun _=>yS yr,by rw [WB not_false];rw [WB yr] at hS;exact hS.pk [0,1,2,3,4,5,6,7,8,9,10]⟩
      refine hsk<|zbn<|htn<|hrz ?_
      refine zlv xmv ?_
      obtain⟨rfl,xj,zo⟩:=yG (Classical.not_not.1 ‹¬¬qV›)
      rw [Y8 (Classical.not_not.1 ‹¬¬qV›)] at hS
      refine(zV (Zp (r:=k-1)))<|(zP)<|zln<|zh<|hlq ⟨sz1,k,k-1,rfl,(by omega),(by omega),?_,?_,rfl,hS⟩
      ·
       exact xj
      ·
       rw [zo,hM2,X0 (k:=k) _ (by omega),show k-1+1-least wi i=k-least wi i by omega,List.append_assoc,List.append_assoc];rfl
     refine hxt<|ztx<|ztx<|zbh<|htn<|hsq<|hrz ?_
     refine(zV (xlb 6 pl_22 hS))<|(zP)<|(zV (xix (kk:=i) Zb hva))<|zle (xso 7 pl_3 hS (Xx a i z 0)) ?_;clear hS;rintro w hS
     refine zln<|zh<|htn<|hsq<|hrz ?_
     refine(zP)<|zln<|zh<|htn<|hrt<|zf1 ⟨_,rfl,?_⟩
     rw [Vz (show a i=0 from hx.zero i (by omega))] at hS
     have hk9:k+1-least wi i=0:=by omega
     rw [show(k+1-least wi i).toNat=0 by omega] at hM2
     exact⟨True,s2,t0,a,(ZI trivial).symm,fun _=>⟨rfl,hI2,List.append_cancel_right (by rw [<-hM2,hM,List.append_assoc];rfl)⟩,fun hq=>absurd trivial hq,by rw [Y8 trivial];exact hS.pk [0,1,2,3,4,5,6,7,8,9,10]⟩
    refine hsk<|htn<|hsq<|hsq ?_
    refine hdst [0,1,2,3,4,5,6,7,8,9,10] [0,1,2,3,4,5,6,7,8,9,10] 1000 mx_ hS ?_;clear hS;intro w hS
    refine(zDw 0 (xfb 1 fd_32_1))<|(zDl 1 (fun w hS=>(xlb 1 pl_22 hS)))<|(zDw 2 xmv)<|(zDw 3 (xix (kk:=i) Zb h.D.slh))<|zdla 4 (fun w hS=>(xlr (u:= .int .i64 (p.D i)) pl_3 (h.D.below hS.below))) ?_
    have hbv:=h.iD i
    have hei:=hp.all i h0 (by omega);unfold Prob.each at hei
    have hqd:=Yw (a:=l) (b:=p.L i+p.kerf) (by omega) (by omega)
    have hml:min (p.D i) (Int.tdiv l (p.L i+p.kerf))=most p i l:=rfl
    refine(zDw 5 xmv)<|(zDl 6 (fun w hS=>(xls 1 st_32 hS)))<|(zDw 7 xmv)<|zdc 8 (xc0 XL) (XM (p:=p) (i:=i) w (h.below hS.below) hp (by omega) (by omega)) ?_;rintro _ w ⟨rfl,hS'⟩
    replace hS:=hS.cmp hS';clear hS'
    refine⟨⟨fun _=>hS,hS⟩,?_⟩
    refine(zDw 9 (Vx (r:=(Int.tdiv l (p.L i+p.kerf)))))<|(zDw 10 (UJ (r:=(min (p.D i) (Int.tdiv l (p.L i+p.kerf))))))<|(zDw 11 xas)<|zdd<|zh<|htn<|hbk ?_
    have hlw:least wi i=0:=by unfold least;first|rw [if_pos (by omega)]|rw [if_neg (by omega)]
    rw [<-Vz (show a i=0 from hx.zero i (by omega))] at hS
    refine hlp (fun mm M w=>∃(s2:St) (z:Int) (k:Int),mm=((k+1-least wi i).toNat)/\(least wi i-1<=k\/k=most p i l)/\(k<=most p i l)/\(Inv s2)/\(MX p wi=qd s2++(dn (kid p wi i a l) (least wi i) (k+1-least wi i).toNat++post))/\M= [(0,.int .i64 i),(1,.int .i64 l),(2,.int .i64 need),(5,.pointer (some ⟨ga,0,none⟩)),(8,.pointer (some ⟨g2,0,none⟩)),(9,.pointer (some ⟨gv,0,none⟩)),(15,.int .i64 0),(16,.int .i64 k)]/\Sat w0 w [.sem (C s2),.blk g2 [vL,vD,.int .i64 p.stock,.int .i64 p.kerf],.blk g3 [.int .i64 wi],.blk g5 [.int .i64 p.m],.blk g6 [vl],.own vl 1 3 (p.m+1) (ints (Xw p)),.blk ga [va],.own va 1 3 p.m (ints (upd a i z)),.blk gy [.func (.yield lq) #[] #[]],.blk gv [.func (.func 150) #[] #[.pointer (some ⟨g6,0,none⟩),.pointer (some ⟨g5,0,none⟩),.pointer (some ⟨ga,0,none⟩),.pointer (some ⟨gy,0,none⟩),.pointer (some ⟨g3,0,none⟩),.pointer (some ⟨g2,0,none⟩),.pointer (some ⟨gv,0,none⟩)]],.sem F]) ⟨s,0,(min (p.D i) (Int.tdiv l (p.L i+p.kerf))),rfl,(by omega),(by omega),?_,?_,rfl,hS⟩ ?_
    ·
     exact hI
    ·
     rw [hM,XJ h0 (by omega),hh];rfl
    clear hS w
    rintro mm M w ⟨s2,z,k,rfl,k0,k1,hI2,hM2,rfl,hS⟩
    refine hsq<|hsq<|hrz ?_
    refine(zP)<|(zP)<|(zP)<|zln<|zh<|htn ?_
    refine YZ ?_ ?_<;>intro hc
    ·
     refine hsk<|htn<|hsq<|hbk<|hsq<|hrz ?_
     refine(zP)<|(zP)<|zln<|zh<|htn<|hsq<|hsq<|hrz ?_
     refine(zP)<|(zV (xfb 1 fd_32_1))<|(zV (xlb 1 pl_22 hS))<|(zP)<|(zV (xix (kk:=i) Zb h.D.slh))<|zlv (xlr (u:= .int .i64 (p.D i)) pl_3 (h.D.below hS.below)) ?_
     have hbv:=h.iD i
     refine(zP)<|zln<|zh<|htn ?_
     refine YZ ?_ ?_<;>intro hc
     ·
      refine hrz ?_
      refine(zP)<|(zV (xls 1 st_32 hS))<|(zP)<|zlc (xc0 XL) (XM (p:=p) (i:=i) w (h.below hS.below) hp (by omega) (by omega)) ?_;rintro _ w ⟨rfl,hS'⟩
      replace hS:=hS.cmp hS';clear hS'
      refine(zV (UJ (r:=(min need (p.L i+p.kerf)))))<|(zP)<|zln<|zh<|htn<|hsq<|hrz ?_
      refine(zV (xlb 6 pl_22 hS))<|(zP)<|(zP)<|(zV (xix (kk:=i) Zb hva))<|zle (xso 7 pl_3 hS (Xx a i z k)) ?_;clear hS;rintro w hS
      refine zln<|zh<|htn<|hsq ?_
      refine hdst [1,2,3,4,6,8,9,5] [1,2,3,4,6,8,9,5] 1000 mx_ hS ?_;clear hS;intro w hS
      refine(zDl 0 (fun w hS=>(xlb 6 Ug hS)))<|(zDw 1 xmv)<|(zDw 2 (Zh (r:=i+1)))<|(zDw 3 xmv)<|(zDw 4 xmv)<|zdla 5 (fun w hS=>(xls 0 st_32 hS)) ?_
      have hmm:=XH hp h0 (by omega) hx.l0 (k:=k) (by omega) (by omega)
      refine(zDw 6 xmv)<|(zDw 10 xmv)<|zdc 7 (xc0 XL) (XM (p:=p) (i:=i) w (h.below hS.below) hp (by omega) (by omega)) ?_;rintro _ w ⟨rfl,hS'⟩
      replace hS:=hS.cmp hS';clear hS'
      refine⟨⟨fun _=>hS.pk [1,2,3,4,6,8,9,5],hS.pk [1,2,3,4,6,8,9,5]⟩,?_⟩
      refine(zDw 8 (Z7 (r:=(k*(p.L i+p.kerf))) (e:=rfl)))<|(zDw 9 (Zp (r:=l-(k*(p.L i+p.kerf)))))<|zdc 11 (xcc (vs:= [_,_,_]) TE) (ih (s:=s2) (i:=i+1) (a:=upd a i k) (l:=l-k*(p.L i+p.kerf)) (need:=(min need (p.L i+p.kerf))) (pre:=qd s2) (post:=dn (kid p wi i a l) (least wi i) (k-least wi i).toNat++post) w0 w (Sat.bundle (l1:= [_,_,_,_,_,_,_,_,_,_]) (hS.pk [0,1,2,3,4,5,6,7,8,9,10])) h hva (by omega) (by omega) (hx.step hp h0 (by omega) (by omega) (by omega)) (hn.yes h0 (by omega)) hI2 rfl (by rw [hM2,X0 (k:=k) _ (by omega),List.append_assoc];rfl) hY (by omega)) ?_;rintro _ w ⟨qV,sz1,tz1,za,rfl,yG,yS,hS⟩
      replace hS:=Sat.unbundle (l1:= [_,_,_,_,_,_,_,_,_,_]) (l3:= []) hS
      refine⟨⟨fun _=>hS.pk [1,2,3,4,6,8,9,5],hS.pk [1,2,3,4,6,8,9,5]⟩,?_⟩
      refine(zDw 12 Yz)<|zdd<|zh<|htn ?_
      refine YZ ?_ ?_<;>intro hc
      ·
       refine hsq<|hrz ?_
       refine(zP)<|zln<|zh<|htn<|hrt<|zbr<|ztr<|ztr<|zbr<|ztr<|zf1 ⟨_,rfl,?_⟩
       have yr:=Classical.not_not.1 (fun hh9=>hh9 ‹¬qV›)
       exact⟨False,s,tz1,za,(ZC not_false).symm,fun hq=>hq.elim,fun _=>yS yr,by rw [WB not_false];rw [WB yr] at hS;exact hS.pk [0,1,2,3,4,5,6,7,8,9,10]⟩
      refine hsk<|zbn<|htn<|hrz ?_
      refine zlv xmv ?_
      obtain⟨rfl,xj,zo⟩:=yG (Classical.not_not.1 ‹¬¬qV›)
      rw [Y8 (Classical.not_not.1 ‹¬¬qV›)] at hS
      refine(zV (Zp (r:=k-1)))<|(zP)<|zln<|zh<|hlq ⟨sz1,k,k-1,rfl,(by omega),(by omega),?_,?_,rfl,hS⟩
      ·
       exact xj
      ·
       rw [zo,hM2,X0 (k:=k) _ (by omega),show k-1+1-least wi i=k-least wi i by omega,List.append_assoc,List.append_assoc];rfl
     refine hsk<|htn<|hsq<|hrz ?_
     refine(zV (xlb 6 pl_22 hS))<|(zP)<|(zP)<|(zV (xix (kk:=i) Zb hva))<|zle (xso 7 pl_3 hS (Xx a i z k)) ?_;clear hS;rintro w hS
     refine zln<|zh<|htn<|hsq ?_
     refine hdst [1,2,3,4,6,8,9,5] [1,2,3,4,6,8,9,5] 1000 mx_ hS ?_;clear hS;intro w hS
     refine(zDl 0 (fun w hS=>(xlb 6 Ug hS)))<|(zDw 1 xmv)<|(zDw 2 (Zh (r:=i+1)))<|(zDw 3 xmv)<|(zDw 4 xmv)<|zdla 5 (fun w hS=>(xls 0 st_32 hS)) ?_
     have hmm:=XH hp h0 (by omega) hx.l0 (k:=k) (by omega) (by omega)
     refine(zDw 6 xmv)<|(zDw 10 xmv)<|zdc 7 (xc0 XL) (XM (p:=p) (i:=i) w (h.below hS.below) hp (by omega) (by omega)) ?_;rintro _ w ⟨rfl,hS'⟩
     replace hS:=hS.cmp hS';clear hS'
     refine⟨⟨fun _=>hS.pk [1,2,3,4,6,8,9,5],hS.pk [1,2,3,4,6,8,9,5]⟩,?_⟩
     refine(zDw 8 (Z7 (r:=(k*(p.L i+p.kerf))) (e:=rfl)))<|(zDw 9 (Zp (r:=l-(k*(p.L i+p.kerf)))))<|zdc 11 (xcc (vs:= [_,_,_]) TE) (ih (s:=s2) (i:=i+1) (a:=upd a i k) (l:=l-k*(p.L i+p.kerf)) (need:=need) (pre:=qd s2) (post:=dn (kid p wi i a l) (least wi i) (k-least wi i).toNat++post) w0 w (Sat.bundle (l1:= [_,_,_,_,_,_,_,_,_,_]) (hS.pk [0,1,2,3,4,5,6,7,8,9,10])) h hva (by omega) (by omega) (hx.step hp h0 (by omega) (by omega) (by omega)) (hn.no h0 (by omega)) hI2 rfl (by rw [hM2,X0 (k:=k) _ (by omega),List.append_assoc];rfl) hY (by omega)) ?_;rintro _ w ⟨qV,sz1,tz1,za,rfl,yG,yS,hS⟩
     replace hS:=Sat.unbundle (l1:= [_,_,_,_,_,_,_,_,_,_]) (l3:= []) hS
     refine⟨⟨fun _=>hS.pk [1,2,3,4,6,8,9,5],hS.pk [1,2,3,4,6,8,9,5]⟩,?_⟩
     refine(zDw 12 Yz)<|zdd<|zh<|htn ?_
     refine YZ ?_ ?_<;>intro hc
     ·
      refine hsq<|hrz ?_
      refine(zP)<|zln<|zh<|htn<|hrt<|zbr<|ztr<|ztr<|zbr<|ztr<|zf1 ⟨_,rfl,?_⟩
      have yr:=Classical.not_not.1 (fun hh9=>hh9 ‹¬qV›)
      exact⟨False,s,tz1,za,(ZC not_false).symm,fun hq=>hq.elim,fun _=>yS yr,by rw [WB not_false];rw [WB yr] at hS;exact hS.pk [0,1,2,3,4,5,6,7,8,9,10]⟩
     refine hsk<|zbn<|htn<|hrz ?_
     refine zlv xmv ?_
     obtain⟨rfl,xj,zo⟩:=yG (Classical.not_not.1 ‹¬¬qV›)
     rw [Y8 (Classical.not_not.1 ‹¬¬qV›)] at hS
     refine(zV (Zp (r:=k-1)))<|(zP)<|zln<|zh<|hlq ⟨sz1,k,k-1,rfl,(by omega),(by omega),?_,?_,rfl,hS⟩
     ·
      exact xj
     ·
      rw [zo,hM2,X0 (k:=k) _ (by omega),show k-1+1-least wi i=k-least wi i by omega,List.append_assoc,List.append_assoc];rfl
    refine hxt<|ztx<|ztx<|zbh<|htn<|hsq<|hrz ?_
    refine(zV (xlb 6 pl_22 hS))<|(zP)<|(zV (xix (kk:=i) Zb hva))<|zle (xso 7 pl_3 hS (Xx a i z 0)) ?_;clear hS;rintro w hS
    refine zln<|zh<|htn<|hsq<|hrz ?_
    refine(zP)<|zln<|zh<|htn<|hrt<|zf1 ⟨_,rfl,?_⟩
    rw [Vz (show a i=0 from hx.zero i (by omega))] at hS
    have hk9:k+1-least wi i=0:=by omega
    rw [show(k+1-least wi i).toNat=0 by omega] at hM2
    exact⟨True,s2,t0,a,(ZI trivial).symm,fun _=>⟨rfl,hI2,List.append_cancel_right (by rw [<-hM2,hM,List.append_assoc];rfl)⟩,fun hq=>absurd trivial hq,by rw [Y8 trivial];exact hS.pk [0,1,2,3,4,5,6,7,8,9,10]⟩
end Go.Proofs.YtkichmnjjblodaaGreat
namespace Go.Proofs.YtkichmnjjblodaaGreat
open Go Go.RowKit Go.Proofs.Gw
theorem ZjH:ZY Tryz.prog 209=some (.nilFunc,1,8):=by kernel_rfl
theorem Zls{vL vD:Value}{p:Prob}{wi:Int}{St Tt:Type}(qd:St->List (Int->Int))(Inv:St->Prop)(Stp:Tt->Prop)(t0:Tt)(s0:St)(hs0:qd s0= [])(hI0:Inv s0){g2 g3 g5 g6:Nat}{vl:Value}(w0:World)(hvl:Slh vl (p.m+1))(hp:p.Ok)(h:PAt w0 vL vD p):ItG (St:=St) (X:=BX) (Tt:=Tt) Tryz.prog w0 149 [.pointer (some ⟨g5,0,none⟩),.pointer (some ⟨g6,0,none⟩),.pointer (some ⟨g3,0,none⟩),.pointer (some ⟨g2,0,none⟩)] [.blk g2 [vL,vD,.int .i64 p.stock,.int .i64 p.kerf],.blk g3 [.int .i64 wi],.blk g5 [.int .i64 p.m],.blk g6 [vl],.own vl 1 3 (p.m+1) (ints (Xw p))] (fun x=> [x.v]) (fun x=> [.own x.v 1 3 x.n (ints x.f)]) (fun(s:St) (x:BX) (rest:Gw.Frame)=>Inv s/\Slh x.v x.n/\x.n=p.m/\∃r,MX p wi=qd s++x.f::r) (fun(s:St) (x:BX) (s1:St)=>qd s1=qd s++ [x.f]/\Inv s1) (fun _ _ t=>Stp t) (s0) (fun s rest=>Inv s/\qd s=MX p wi) (fun t _=>Stp t):=by
  intro l C D w hS hY
  have hm:=h.L.slh.n0;have hm1:=h.L.slh.n1;have hdn:=h.D.slh.n0;have fT:=h.D.slh.n1;have hs:=h.is;have hk:=h.ik
  have hpm:=hp.m1;have qz:=hp.m2;have hpd:=hp.d;have hs1:=hp.s1;have hs2:=hp.s2;have hk1:=hp.k1;have hk2:=hp.k2
  refine ZeI Tryz.func149 Tryz.ntmps149 ?_
  refine hsq<|hrz ?_
  refine zla (xbx (cs:= [_]) hS) ?_;rintro _ w ⟨g7,rfl,hS⟩
  replace hS:=hS.n7
  refine zln<|zh<|htn<|hsq<|hrz ?_
  refine zlv (xlb 3 pl_3 hS) ?_
  refine zla (xmk Zb Zt hS) ?_;rintro v1 w ⟨hS,hv1⟩
  replace hS:=hS.n8
  refine zla (xal (cs:= [_]) Z3 hS) ?_;rintro _ w ⟨g8,rfl,hS⟩
  replace hS:=hS.n9
  refine zle (xsb 8 pl_22 hS (hv:=hv1.one)) ?_;clear hS;rintro w hS
  replace hS:=hS.n9
  refine zln<|zh<|htn<|hsq<|hrz ?_
  refine zla (xal (cs:= [_]) ZjH hS) ?_;rintro _ w ⟨g9,rfl,hS⟩
  replace hS:=hS.n10
  refine zln<|zh<|htn<|hsq<|hrz ?_
  refine zlv xmf ?_
  refine zle (xsb 9 Ug hS) ?_;clear hS;rintro w hS
  replace hS:=hS.n10
  refine zln<|zh<|htn<|hrz ?_
  refine zlv (xlb 9 Ug hS) ?_
  refine zlv (xfb 2 fd_32_2) ?_
  refine zlv (xlb 1 pl_3 hS) ?_
  refine zlv (xfb 3 fd_32_3) ?_
  refine zlv (xlb 1 pl_3 hS) ?_
  refine zlv (Zh (r:=p.stock+p.kerf)) ?_
  refine zlv (xfb 2 fd_32_2) ?_
  refine zlv (xlb 1 pl_3 hS) ?_
  refine zlv (xfb 3 fd_32_3) ?_
  refine zlv (xlb 1 pl_3 hS) ?_
  refine zlv (Zh (r:=p.stock+p.kerf)) ?_
  refine zlv (Zh (r:=p.stock+p.kerf+1)) ?_
  refine zlc (xcc (vs:= [_,_,_]) TE) (ZhI hp qd Inv Stp t0 hvl _ (s:=s0) (i:=0) (a:=fun _=>0) (l:=p.stock+p.kerf) (need:=p.stock+p.kerf+1) (pre:= []) (post:= []) w0 w (Sat.bundle (l1:= [_,_,_,_,_,_,_,_,_,_]) (l2:= []) (hS.pk [0,1,2,3,4,5,8,7,6,9])) h hv1 (by omega) (by omega) (Pfx.start hp) (NeedP.start p) hI0 hs0 (by rw [List.nil_append,List.append_nil];rfl) hY (Nat.lt_succ_self _)) ?_;rintro _ w ⟨qV,sz1,tz1,za,rfl,yG,yS,hS⟩
  replace hS:=Sat.unbundle (l1:= [_,_,_,_,_,_,_,_,_,_]) (l3:= []) hS
  replace hS:=hS.n10
  refine zln<|zh<|XD ⟨_,rfl,?_⟩
  by_cases hok:qV
  · obtain⟨_,hi,hh⟩:=yG hok
    rw [Y8 hok] at hS
    exact .inl ⟨sz1,_,⟨hi,by rw [hh,List.nil_append];rfl⟩,Sat.bundle (l1:= [_,_,_,_,_,_]) hS⟩
  · rw [WB hok] at hS
    exact .inr ⟨tz1,_,yS hok,Sat.bundle (l1:= [_,_,_,_,_,_]) hS⟩
end Go.Proofs.YtkichmnjjblodaaGreat
namespace Go.Proofs.YtkichmnjjblodaaGreat
open Go Go.RowKit Go.Proofs.Gw
theorem Zk8:Zc Tryz.prog 114=true:=by kernel_rfl
theorem ZkP:Zc Tryz.prog 149=true:=by kernel_rfl
theorem Zmm:ZY Tryz.prog 49=some (.int .i64 0,1,8):=by kernel_rfl
structure WSt where
  v:Value
  n:Int
  vv:Int->Value
  f:Int->Int->Int
  l:List (Int->Int)
def ZnC(p:Prob)(s:WSt):Prop:=Slh s.v s.n/\Ls p.m s.n s.f s.l/\s.n<=300
def Zl0(p:Prob)(wi u:Int)(f:Int->Int->Int)(e:Int):Prop:=(300<(MX p wi).length/\e=9/\u=0)\/((MX p wi).length<=300/\e=0/\Ls p.m u f (MX p wi))
theorem Zf0{vL vD:Value}{p:Prob}{wi:Int}(w0:World)(h:PAt w0 vL vD p)(hp:p.Ok):
    Calls Tryz.prog 77 [.agg #[vL,vD,.int .i64 p.stock,.int .i64 p.kerf],.int .i64 wi].toArray w0 fun e w=>∃v,e= .returned v/\∃r u vv f e,v= .tuple #[r,.int .i64 e]/\Zl0 p wi u f e/\Slh r u/\Sat w0 w [.own r 1 22 u vv,.sem (Frame.rows 3 u vv (fun _=>p.m) f)]:=by
  have hm:=h.L.slh.n0;have hm1:=h.L.slh.n1;have hd:=h.D.slh.n0;have hd1:=h.D.slh.n1;have hs:=h.is;have hk:=h.ik
  have hpm:=hp.m1;have qz:=hp.m2;have hpd:=hp.d;have hs1:=hp.s1;have hs2:=hp.s2;have hk1:=hp.k1;have hk2:=hp.k2
  refine Zhg Tryz.func77 Tryz.ntmps77 fun w hS=> ?_
  refine hsq<|hrz ?_
  refine zla (xbx (cs:= [_,_,_,_]) hS) ?_;rintro _ w ⟨g1,rfl,hS⟩
  refine zla (xal (cs:= [_]) Ze6 hS) ?_;rintro _ w ⟨g2,rfl,hS⟩
  refine zla (xal (cs:= [_]) Zmm hS) ?_;rintro _ w ⟨g3,rfl,hS⟩
  refine zln<|zh<|htn<|hsq<|hrz ?_
  refine zla (xal (cs:= [_]) Ze6 hS) ?_;rintro _ w ⟨g4,rfl,hS⟩
  refine zln<|zh<|htn<|hsq<|hsq<|hrz ?_
  refine(zV (xls 0 st_32 hS))<|(zP)<|zlc (xc0 Zk8) (ZdQ (p:=p) (wi:=wi) w (h.below hS.below) hp) ?_;rintro _ w ⟨g5,g6,g7,g8,vl1,rfl,fh,hS'⟩
  replace hS:=(hS.comp hS').n9;clear hS'
  refine zln<|zh<|htn<|hbk ?_
  replace hS:=hS.addnil 1 22 (fun _=>Value.slice none 0 0)
  replace hS:=hS.addrows 3 (fun _=>Value.slice none 0 0) (fun _=>p.m) (fun _ _=>0)
  refine Zmd (St:=WSt) (X:=BX) (Tt:=Unit) (fun s=> [.blk g1 [vL,vD,.int .i64 p.stock,.int .i64 p.kerf],.blk g2 [.slice none 0 0],.blk g3 [.int .i64 0],.blk g4 [s.v],.own s.v 1 22 s.n s.vv,.sem (Frame.rows 3 s.n s.vv (fun _=>p.m) s.f)]) (fun t=> [.blk g2 [.slice none 0 0],.blk g3 [.int .i64 9]]) (fun _=> .ret) (⟨.slice none 0 0,0,fun _=> .slice none 0 0,fun _ _=>0, []⟩:WSt) (fun x M es=>M= [(0,.agg #[vL,vD,.int .i64 p.stock,.int .i64 p.kerf]),(1,.int .i64 wi),(2,.pointer (some ⟨g1,0,none⟩)),(4,.pointer (some ⟨g2,0,none⟩)),(5,.pointer (some ⟨g3,0,none⟩)),(6,.pointer (some ⟨g4,0,none⟩)),(8,.agg #[vL,vD,.int .i64 p.stock,.int .i64 p.kerf]),(9,.int .i64 wi),(10,.func (.func 149) #[] #[.pointer (some ⟨g7,0,none⟩),.pointer (some ⟨g8,0,none⟩),.pointer (some ⟨g6,0,none⟩),.pointer (some ⟨g5,0,none⟩)]),(11,x.v),(7,x.v)]/\es= [.own x.v 1 3 x.n (ints x.f)]) (Zls (wi:=wi) (fun s=>s.l) (ZnC p) (fun(_:Unit)=>300<(MX p wi).length) () (⟨.slice none 0 0,0,fun _=> .slice none 0 0,fun _ _=>0, []⟩:WSt) rfl ⟨slh_nil,Ls.nil,by show(0:Int)<=300;omega⟩ w0 fh hp h) (hS.pk [0,1,2,3,9,10,4,5,6,7,8]) ZkP (fun _=>rfl) (fun _=> .inl rfl) ?_ ?_ ?_ ?_
  ·
   intro lq s x rest w qr qL hrr hS
   refine hrz ?_
   refine(zP)<|zln<|zh<|ZeJ ⟨rfl,rfl⟩ hS
  ·
   rintro lq s x _ _ rest w qr ⟨rfl,rfl⟩ qL hrr hS
   obtain⟨⟨hlO,hls,hn3⟩,hxv,hxn,r9,hM9⟩:=qr
   have hrO:=fun k (k0:0<=k) (k1:k<s.n)=>hS.slhIn 5 rfl k0 k1
   have hsn:=hlO.n0
   have xH:=hls.1
   refine hbk<|hsq<|hsq<|hrz ?_
   refine(zV (xlb 3 ZR hS))<|(zV (xln Zl hlO))<|(zP)<|zln<|zh<|htn ?_
   refine YZ ?_ ?_<;>intro hc
   ·
    refine hsq<|hrz ?_
    refine zle (xsb 1 ZR hS) ?_;clear hS;rintro w hS
    refine zle (xsb 2 pl_49 hS) ?_;clear hS;rintro w hS
    refine zln<|zh<|htn<|hrt<|ztr<|zbr<|ZeH () (by show 300<(MX p wi).length;rw [hM9,List.length_append,List.length_cons];omega) rfl (hS.pk [1,2,6,7,8,9,10,11])
   refine hsk<|htn<|hrz ?_
   refine(zV (xlb 3 ZR hS))<|(zP)<|zla (xli (n:=1) (len:=1) (pv:= [(0,x.v)]) (cs:= [x.v]) (c:=(fun _=>x.v)) Zl Z3 hS (hf:=by have hz:=hxv;revert hz;generalize x.v=z;rintro⟨_,_,_,_,rfl,_⟩;show _=_;kernel_rfl)) ?_;rintro v1 w ⟨hS,hv1⟩
   refine zla (xap 4 (r:=s.n+1) Zl Z3 hS (hS.rowN 13 rfl) (Xu _ _ _) (h1:=fun _ _ _=>hxv.one)) ?_;rintro v2 w ⟨hS,hv2⟩
   replace hS:=Sat.merge (l1:= [_,_,_,_,_]) (l2:= [_,_,_,_,_,_]) (l3:= [_]) hS (by omega)
   have qW:=fun k (k0:0<=k) (k1:k<s.n+1)=>hS.slhIn 5 rfl k0 k1
   refine zle (xsb 3 ZR hS (hv:=hv2.one)) ?_;clear hS;rintro w hS
   refine zln<|zh<|zbn ?_
   replace hS:=hS.rerows (vv':=(gsn s.vv s.n x.v)) (ln':=fun _=>p.m) (f':=(gsn s.f s.n x.f)) 5 rfl (fun k k0 k1=>⟨rfl,by unfold gsn;split<;>(try dsimp only)<;>omega,fun _ _ _=>rfl⟩)
   refine ZbK ⟨v2,s.n+1,gsn s.vv s.n x.v,gsn s.f s.n x.f,s.l++ [x.f]⟩ ⟨rfl,hv2,hls.snoc fun _ _ _=>rfl,by show s.n+1<=300;omega⟩ (hS.pk [0,1,2,3,4,5,6,7,8,9,10,11])
  ·
   intro Dk s rest w qB hS
   obtain⟨⟨hlO,hls,hn3⟩,hh9⟩:=qB
   have hrO:=fun k (k0:0<=k) (k1:k<s.n)=>hS.slhIn 5 rfl k0 k1
   have hsn:=hlO.n0
   have xH:=hls.1
   refine zbn<|htn<|hsq<|hrz ?_
   refine(zV (xlb 3 ZR hS))<|zle (xsb 1 ZR hS (hv:=hlO.one)) ?_;clear hS;rintro w hS
   refine zle (xsb 2 pl_49 hS) ?_;clear hS;rintro w hS
   refine zln<|zh<|htn<|hrt<|ZbL 12 hS fun w hS=>Zl3 ZR pl_49 (hS.cellN 1 rfl rfl) (hS.cellN 2 rfl rfl) ⟨_,rfl,?_⟩
   exact⟨_,_,_,_,0,rfl,.inr ⟨by rw [<-hh9];omega,rfl,by rw [<-hh9];exact hls⟩,hlO,hS.pk [4,5]⟩
  ·
   intro Dk t rest w qB hS
   show Ge _ _ _ .ret _ _
   refine zbr<|ztr<|ZbL 8 hS fun w hS=>Zl3 ZR pl_49 (hS.cellN 0 rfl rfl) (hS.cellN 1 rfl rfl) ⟨_,rfl,?_⟩
   exact⟨_,0,_,_,_,rfl,.inl ⟨qB,rfl,rfl⟩,slh_nil,((hS.sub (.cons _ (.cons _ (.cons _ (.cons _ (.cons _ (.cons _ (.cons _ (.cons _ (.cons _ .slnil)))))))))).addnil 1 22 (fun _=>Value.slice none 0 0)).addrows 3 (fun _=>Value.slice none 0 0) (fun _=>p.m) (fun _ _=>0)⟩
end Go.Proofs.YtkichmnjjblodaaGreat
namespace Go.Proofs.YtkichmnjjblodaaGreat
open Go Go.RowKit Go.Proofs.Gw
theorem Zmy:Zc Tryz.prog 77=true:=by kernel_rfl
theorem ZhV{vL vD:Value}{p:Prob}{wi:Int}(w0:World)(h:PAt w0 vL vD p):
    Calls Tryz.prog 44 [.agg #[vL,vD,.int .i64 p.stock,.int .i64 p.kerf],.int .i64 wi].toArray w0 fun e w=>∃v,e= .returned v/\∃r u vv f e,v= .tuple #[r,.int .i64 e]/\ZiY p wi u f e/\Slh r u/\Sat w0 w [.own r 1 22 u vv,.sem (Frame.rows 3 u vv (fun _=>p.m) f)]:=by
  have hm:=h.L.slh.n0;have hm1:=h.L.slh.n1;have hd:=h.D.slh.n0;have hd1:=h.D.slh.n1;have hs:=h.is;have hk:=h.ik
  refine zenG Tryz.func44 Tryz.ntmps44 fun w hS=> ?_
  refine zsr<|zla (xbx (cs:= [_,_,_,_]) hS) ?_;rintro _ w ⟨g1,rfl,hS⟩
  refine(zP)<|(zP)<|zlt<|zsq<|zbk<|zsr<|(zV (xls 0 st_32 hS))<|zlc (xc0 XK) (Yc (p:=p) w (h.below hS.below)) ?_;rintro _ w ⟨rfl,hS'⟩
  replace hS:=hS.cmp hS';clear hS'
  refine(zP)<|(zP)<|zlt<|Ze ?_ ?_<;>intro hc
  ·
   refine zsr<|(zP)<|(zP)<|XC<|zf2 ⟨_,rfl,?_⟩
   exact⟨_,0,_,_,_,rfl,.inl ⟨‹¬p.Ok›,rfl,rfl⟩,slh_nil,((hS.sub (.cons _ .slnil)).addnil 1 22 (fun _=>Value.slice none 0 0)).addrows 3 (fun _=>Value.slice none 0 0) (fun _=>p.m) (fun _ _=>0)⟩
  refine zsr<|zs2 ?_
  have hp:p.Ok:=by first|assumption|exact Classical.not_not.1 ‹_›
  have hpm:=hp.m1;have qz:=hp.m2;have hpd:=hp.d;have hs1:=hp.s1;have hs2:=hp.s2;have hk1:=hp.k1;have hk2:=hp.k2
  refine(zP)<|zlb 13 ?_ ?_<;>intro hc
  ·
   iterate 5 refine zlo ?_
   refine(zP)<|(zP)<|zlt<|zct<|zsr ?_
   refine(zP)<|(zP)<|XC<|zf2 ⟨_,rfl,?_⟩
   exact⟨_,0,_,_,_,rfl,.inr (.inl ⟨hp,by omega,rfl,rfl⟩),slh_nil,((hS.sub (.cons _ .slnil)).addnil 1 22 (fun _=>Value.slice none 0 0)).addrows 3 (fun _=>Value.slice none 0 0) (fun _=>p.m) (fun _ _=>0)⟩
  refine(zP)<|(zV (xfb 0 fd_32_0))<|(zV (xlb 0 pl_22 hS))<|(zV (xln Zb h.L.slh))<|(zP)<|(zP)<|(zP)<|zlt<|Ze ?_ ?_<;>intro hc
  ·
   refine zsr<|(zP)<|(zP)<|XC<|zf2 ⟨_,rfl,?_⟩
   exact⟨_,0,_,_,_,rfl,.inr (.inl ⟨hp,by omega,rfl,rfl⟩),slh_nil,((hS.sub (.cons _ .slnil)).addnil 1 22 (fun _=>Value.slice none 0 0)).addrows 3 (fun _=>Value.slice none 0 0) (fun _=>p.m) (fun _ _=>0)⟩
  refine zsk<|zbn<|ztn<|zsr<|(zV (xls 0 st_32 hS))<|(zP)<|zlc (xc0 Zmy) (Zf0 (p:=p) (wi:=wi) w (h.below hS.below) hp) ?_;rintro _ w ⟨qU,ux1,qC,fx1,ex1,rfl,x9,qI,hS'⟩
  replace hS:=(hS.comp hS').n3;clear hS'
  have xn:∀k,0<=k->k<ux1->Slh (qC k) p.m:=fun k k0 k1=>hS.slhIn 2 rfl k0 k1
  refine zs4 ?_
  refine zx1<|zf2 ⟨_,rfl,?_⟩
  exact⟨_,_,_,_,_,rfl,(by rcases x9 with⟨h8,h9⟩|⟨h8,h9,h7⟩;exact .inr (.inr (.inl ⟨hp,by omega,h8,h9⟩));exact .inr (.inr (.inr ⟨hp,by omega,h8,h9,h7⟩))),qI,hS.pk [1,2]⟩
end Go.Proofs.YtkichmnjjblodaaGreat
namespace Go.Proofs.Gw
open Go Go.RowKit
variable {i j k:Int}
def pr2{α:Type}(x y:α):Int->α:=fun j=>if j=0 then x else y
def ZG(vv:Int->Value)(s k b:Int):Int->Value:=fun j=>if j%5=0 then vv (2*(j/5)) else if j%5=1 then vv (2*(j/5)+1) else if j%5=2 then .int .i64 s else if j%5=3 then .int .i64 k else .int .i64 b
theorem Zhl(vv:Int->Value)(s k b:Int)(h:j=5*i):ZG vv s k b j=vv (2*i):=by
  unfold ZG;rw [if_pos (by omega),show j/5=i by omega]
theorem Zhk(vv:Int->Value)(s k b:Int)(h:j=5*i+1):ZG vv s k b j=vv (2*i+1):=by
  unfold ZG;rw [if_neg (by omega),if_pos (by omega),show j/5=i by omega]
theorem Zhj(vv:Int->Value)(s k b:Int)(h:j=5*i+2):ZG vv s k b j= .int .i64 s:=by
  unfold ZG;rw [if_neg (by omega),if_neg (by omega),if_pos (by omega)]
theorem Zhi(vv:Int->Value)(s k b:Int)(h:j=5*i+3):ZG vv s k b j= .int .i64 k:=by
  unfold ZG;rw [if_neg (by omega),if_neg (by omega),if_neg (by omega),if_pos (by omega)]
theorem Zhh(vv:Int->Value)(s k b:Int)(h:j=5*i+4):ZG vv s k b j= .int .i64 b:=by
  unfold ZG;rw [if_neg (by omega),if_neg (by omega),if_neg (by omega),if_neg (by omega)]
theorem Un(vv:Int->Value)(s k b:Int){q:Int}(h:q=5*i):∀(j:Nat) u, [vv (2*i),vv (2*i+1),Value.int .i64 s,.int .i64 k,.int .i64 b][j]? =some u->ZG vv s k b (q+j)=u:=fun j u hu=>by
  rcases j with _|_|_|_|_|j
  · cases hu;exact Zhl vv s k b (by omega)
  · cases hu;exact Zhk vv s k b (by omega)
  · cases hu;exact Zhj vv s k b (i:=i) (by omega)
  · cases hu;exact Zhi vv s k b (i:=i) (by omega)
  · cases hu;exact Zhh vv s k b (i:=i) (by omega)
  · simp at hu
theorem Ts{vv:Int->Value}{s b:Int}(h:∀i,(vv i).oneCell'=true)(j:Int):(ZG vv s k b j).oneCell'=true:=by
  unfold ZG
  split
  · exact h _
  · split
    · exact h _
    · split
      · rfl
      · split<;>rfl
theorem Zcm{x y:Value}(hx:x.oneCell'=true)(hy:y.oneCell'=true)(i:Int):(pr2 x y i).oneCell'=true:=by
  unfold pr2;split
  · exact hx
  · exact hy
theorem TH(vv:Int->Value)(s k b n:Int)(x y:Value):cat (n*5) (ZG vv s k b) (ZG (pr2 x y) s k b)=ZG (gsn (gsn vv (2*n) x) (2*n+1) y) s k b:=by
  funext j
  unfold cat ZG gsn pr2
  by_cases h:j<n*5
  · simp only [if_pos h]
    have h1:2*(j/5)<2*n:=by omega
    have h2:2*(j/5)+1<2*n:=by omega
    have h3:2*(j/5)<2*n+1:=by omega
    have h4:2*(j/5)+1<2*n+1:=by omega
    simp only [if_pos h1,if_pos h2,if_pos h3,if_pos h4]
  · simp only [if_neg h]
    have e1:(j-n*5)%5=j%5:=by omega
    have e2:(j-n*5)/5=j/5-n:=by omega
    rw [e1,e2]
    have h1:¬2*(j/5)<2*n:=by omega
    have h2:¬2*(j/5)+1<2*n+1:=by omega
    have h3:¬2*(j/5-n)+1=0:=by omega
    simp only [if_neg h1,if_neg h2,if_neg h3]
    by_cases h5:2*(j/5)<2*n+1
    · have h6:2*(j/5-n)=0:=by omega
      simp only [if_pos h5,if_pos h6]
    · have h6:¬2*(j/5-n)=0:=by omega
      simp only [if_neg h5,if_neg h6]
theorem Sat.rowsn{w w0:World}{l:List Ent}{E:TypeId}{n m:Int}{vv:Int->Value}{ln:Int->Int}{f:Int->Int->Int}(i:Nat)(h:Sat w0 w l)(hi:l[i]? =some (.sem (Frame.rows E n vv ln f)))(e:n=m):Sat w0 w (l.set i (.sem (Frame.rows E m vv ln f))):=by
  subst e
  rw [YA hi,<-Z0 hi];exact h
def gfn(p:Prob)(X:List (Int->Int)):Int->Int->Int:=fun k=>if k%2=0 then p.L else fun j=>p.D j-YB X (k/2) j
theorem Zmh(p:Prob)(X:List (Int->Int))(h:k=2*i):gfn p X k=p.L:=by unfold gfn;rw [if_pos (by omega)]
theorem Zjh(p:Prob)(X:List (Int->Int))(h:k=2*i+1):gfn p X k=fun j=>p.D j-YB X i j:=by unfold gfn;rw [if_neg (by omega),show k/2=i by omega]
theorem Ry{p:Prob}(hd:p.d=p.m){X:List (Int->Int)}{x:Int->Int}(i0:0<=i)(hx:∀j,0<=j->j<p.m->x j=YB X i j)(vv:Int->Value):∀k,0<=k->k<2*i+2->vv k=vv k/\gsn (gsn (fun _=>p.m) (2*i) p.m) (2*i+1) p.d k=(fun _=>p.m) k/\
    ∀j,0<=j->j<gsn (gsn (fun _=>p.m) (2*i) p.m) (2*i+1) p.d k->gsn (gsn (gfn p X) (2*i) p.L) (2*i+1) (fun j=>p.D j-x j) k j=gfn p X k j:=fun k k0 k1=>by
  refine⟨rfl,by unfold gsn;split<;>(try split)<;>first|rfl|exact hd,fun j j0 j1=> ?_⟩
  have hl:gsn (gsn (fun _=>p.m) (2*i) p.m) (2*i+1) p.d k=p.m:=by unfold gsn;split<;>(try split)<;>first|rfl|exact hd
  rw [hl] at j1
  by_cases e1:k<2*i
  · rw [Zv (by omega),Zv e1]
  · by_cases e2:k<2*i+1
    · rw [Zv e2,ZL e1,Zmh p X (i:=i) (by omega)]
    · rw [ZL e2,Zjh p X (i:=i) (by omega)]
      show p.D j-x j=p.D j-YB X i j
      rw [hx j j0 j1]
end Go.Proofs.Gw
namespace Go.Proofs.YtkichmnjjblodaaGreat
open Go Go.RowKit Go.Proofs.Gw
variable {b wi:Int} {vD:Value}
theorem ZcU:Zc Tryz.prog 37=true:=by kernel_rfl
theorem ZcT:Zc Tryz.prog 43=true:=by kernel_rfl
theorem ZmH:Zc Tryz.prog 48=true:=by kernel_rfl
theorem Za4:ZY Tryz.prog 34=some (.agg #[.slice none 0 0,.slice none 0 0,.int .i64 0,.int .i64 0,.int .i64 0],5,72):=by kernel_rfl
theorem fd_26_0:Zs Tryz.prog 26 0=some 0:=by kernel_rfl
theorem fd_26_1:Zs Tryz.prog 26 1=some 4:=by kernel_rfl
theorem fd_34_0:Zs Tryz.prog 34 0=some 0:=by kernel_rfl
theorem fd_34_1:Zs Tryz.prog 34 1=some 4:=by kernel_rfl
theorem Vi:Zz Tryz.prog 26=some 5:=by kernel_rfl
theorem Yq:Zz Tryz.prog 34=some 5:=by kernel_rfl
def ZE(p:Prob)(b:Int):Prop:=p.Ok/\0<=b/\b<=1000
def ZF(p:Prob)(b wi:Int):Prop:=ZE p b/\1<=b/\(0<=wi/\wi<p.m)/\p.D wi≠0/\(MX p wi).length<=300
noncomputable def Zn(p:Prob)(b wi:Int):Int:= @ite _ (ZF p b wi) (Classical.propDecidable _) ((MX p wi).length:Int) 0
theorem Yi{p:Prob}(h:ZF p b wi):Zn p b wi=(MX p wi).length:=if_pos h
theorem Xg{p:Prob}(h:¬ZF p b wi):Zn p b wi=0:=if_neg h
theorem ZaA{p:Prob}(hp:p.Ok){u:Int}{f:Int->Int->Int}(h:Ls p.m u f (MX p wi)){i:Int}(i0:0<=i)(i1:i<u):∀k,0<=k->k<p.m->0<=f i k/\f i k<=p.D k:=fun k k0 k1=>by
  rw [h.2 i i0 i1 k k0 k1]
  exact(ZgA hp (Zay i0 (by have:=h.1;omega))).1.rng k k0 k1
def XN(p:Prob)(b n:Int)(l:Int->Int):Prop:=ZE p b/\2<=n/\Chk p (n-1) (fun k=>l (k+1)) (l 0)=0/\b<YU p (n-1) (fun k=>l (k+1)) (l 0)
theorem KN{vL:Value}{p:Prob}(w0:World)(h:PAt w0 vL vD p):
    Calls Tryz.prog 43 [.agg #[vL,vD,.int .i64 p.stock,.int .i64 p.kerf,.int .i64 b]].toArray w0 fun e w=>∃v,e= .returned v/\v=B (ZE p b)/\Sat w0 w []:=by
  have hm:=h.L.slh.n0;have hm1:=h.L.slh.n1;have hd:=h.D.slh.n0;have hd1:=h.D.slh.n1;have hs:=h.is;have hk:=h.ik
  refine zenG Tryz.func43 Tryz.ntmps43 fun w hS=> ?_
  refine zsr<|zla (xbx (cs:= [_,_,_,_,_]) hS) ?_;rintro _ w ⟨g1,rfl,hS⟩
  refine(zP)<|zlz<|(zV (xfb 0 fd_34_0))<|(zV (xlp 0 (ds:= [vL,vD,.int .i64 p.stock,.int .i64 p.kerf]) st_32 hS))<|zlc (xc0 XK) (Yc (p:=p) w (h.below hS.below)) ?_;rintro _ w ⟨rfl,hS'⟩
  replace hS:=hS.cmp hS';clear hS'
  refine(zP)<|zlb 6 ?_ ?_<;>intro hc
  ·
   refine(zV (xfb 4 fd_34_1))<|(zV (xlb 0 pl_3 hS))<|(zP)<|(zP)<|(zP)<|zlb 11 ?_ ?_<;>intro hc
   ·
    refine(zV (xfb 4 fd_34_1))<|(zV (xlb 0 pl_3 hS))<|(zP)<|(zP)<|(zP)<|zx1<|zf1 ⟨_,rfl,?_⟩
    exact⟨Zm ⟨fun hh=>⟨by first|assumption|exact Classical.not_not.1 ‹_›,by omega,hh⟩,fun hh=>hh.2.2⟩,hS.nl⟩
   iterate 3 refine zlo ?_
   refine(zP)<|(zP)<|zx1<|zf1 ⟨_,rfl,?_⟩
   exact⟨Zf (by rintro⟨h1,h2,h3⟩;first|omega|exact absurd h1 ‹¬p.Ok›),hS.nl⟩
  iterate 3 refine zlo ?_
  refine zs2 ?_
  iterate 3 refine zlo ?_
  refine(zP)<|(zP)<|zx1<|zf1 ⟨_,rfl,?_⟩
  exact⟨Zf (by rintro⟨h1,h2,h3⟩;first|omega|exact absurd h1 ‹¬p.Ok›),hS.nl⟩
theorem UW{vL:Value}{p:Prob}(w0:World)(h:PAt w0 vL vD p):
    Calls Tryz.prog 37 [.agg #[vL,vD,.int .i64 p.stock,.int .i64 p.kerf,.int .i64 b]].toArray w0 fun e w=>∃v,e= .returned v/\v=B (ZE p b)/\Sat w0 w []:=by
  have hm:=h.L.slh.n0;have hm1:=h.L.slh.n1;have hd:=h.D.slh.n0;have hd1:=h.D.slh.n1;have hs:=h.is;have hk:=h.ik
  refine zenG Tryz.func37 Tryz.ntmps37 fun w hS=> ?_
  refine zsr<|zla (xbx (cs:= [_,_,_,_,_]) hS) ?_;rintro _ w ⟨g1,rfl,hS⟩
  refine(zP)<|zlz<|(zV (xfb 0 fd_26_0))<|(zV (xlp 0 (ds:= [vL,vD,.int .i64 p.stock,.int .i64 p.kerf]) ZV hS))<|zlc (xc0 RG) (Xl (p:=p) w (h.below hS.below)) ?_;rintro _ w ⟨rfl,hS'⟩
  replace hS:=hS.cmp hS';clear hS'
  refine(zP)<|zlb 6 ?_ ?_<;>intro hc
  ·
   refine(zV (xfb 4 fd_26_1))<|(zV (xlb 0 pl_3 hS))<|(zP)<|(zP)<|(zP)<|zlb 11 ?_ ?_<;>intro hc
   ·
    refine(zV (xfb 4 fd_26_1))<|(zV (xlb 0 pl_3 hS))<|(zP)<|(zP)<|(zP)<|zx1<|zf1 ⟨_,rfl,?_⟩
    exact⟨Zm ⟨fun hh=>⟨by first|assumption|exact Classical.not_not.1 ‹_›,by omega,hh⟩,fun hh=>hh.2.2⟩,hS.nl⟩
   iterate 3 refine zlo ?_
   refine(zP)<|(zP)<|zx1<|zf1 ⟨_,rfl,?_⟩
   exact⟨Zf (by rintro⟨h1,h2,h3⟩;first|omega|exact absurd h1 ‹¬p.Ok›),hS.nl⟩
  iterate 3 refine zlo ?_
  refine zs2 ?_
  iterate 3 refine zlo ?_
  refine(zP)<|(zP)<|zx1<|zf1 ⟨_,rfl,?_⟩
  exact⟨Zf (by rintro⟨h1,h2,h3⟩;first|omega|exact absurd h1 ‹¬p.Ok›),hS.nl⟩
theorem ZhY{vL:Value}{p:Prob}(w0:World)(h:PAt w0 vL vD p):
    Calls Tryz.prog 14 [.agg #[vL,vD,.int .i64 p.stock,.int .i64 p.kerf,.int .i64 b]].toArray w0 fun e w=>∃v,e= .returned v/\v= .agg #[vL,vD,.int .i64 p.stock,.int .i64 p.kerf,.int .i64 b]/\Sat w0 w []:=by
  refine zenG Tryz.func14 Tryz.ntmps14 fun w hS=> ?_
  refine zsr<|zla (xbx (cs:= [_,_,_,_,_]) hS) ?_;rintro _ w ⟨g1,rfl,hS⟩
  refine zla (xal (cs:= [_,_,_,_,_]) Za4 hS) ?_;rintro _ w ⟨g2,rfl,hS⟩
  refine zlz<|(zV (xfb 0 fd_26_0))<|(zV (xlp 0 (ds:= [vL,vD,.int .i64 p.stock,.int .i64 p.kerf]) ZV hS))<|(zV (xfb 4 fd_26_1))<|(zV (xlb 0 pl_3 hS))<|zlv (xany (v:= .agg #[vL,vD,.int .i64 p.stock,.int .i64 p.kerf,.int .i64 b]) (hr:=by obtain⟨_,_,_,_,rfl,_⟩:=h.L.slh;obtain⟨_,_,_,_,rfl,_⟩:=h.D.slh;kernel_rfl)) ?_
  refine zle (xsw 1 Yq hS (hd:=(Za h.L.slh.one (Za h.D.slh.one (Za rfl (Za rfl (Za rfl Zi))))))) ?_;clear hS;rintro w hS
  refine zx1<|zfc 1 Yq hS ⟨_,rfl,?_⟩
  exact⟨rfl,hS.nl⟩
theorem Zf7{vL:Value}{p:Prob}{vl:Value}{nl:Int}{l:Int->Int}(w0:World)(h:PAt w0 vL vD p)(hl:IAt w0 vl nl l)(hrm:Gw.Wg vl):
    Calls Tryz.prog 16 [.agg #[vL,vD,.int .i64 p.stock,.int .i64 p.kerf,.int .i64 b],vl].toArray w0 fun e w=>∃v,e= .returned v/\v=B (XN p b nl l)/\Sat w0 w []:=by
  have hm:=h.L.slh.n0;have hm1:=h.L.slh.n1;have hd:=h.D.slh.n0;have hd1:=h.D.slh.n1;have hs:=h.is;have hk:=h.ik
  have hl0:=hl.n0;have hl1:=hl.n1;have hrm:=hrm
  refine zenG Tryz.func16 Tryz.ntmps16 fun w hS=> ?_
  refine zsr<|zla (xbx (cs:= [_,_,_,_,_]) hS) ?_;rintro _ w ⟨g1,rfl,hS⟩
  refine(zP)<|zx5<|(zV (xls 0 Yq hS))<|zlc (xc0 ZcT) (KN (p:=p) (b:=b) w (h.below hS.below)) ?_;rintro _ w ⟨rfl,hS'⟩
  replace hS:=hS.cmp hS';clear hS'
  refine(zP)<|(zP)<|zlb 10 ?_ ?_<;>intro hc
  ·
   iterate 3 refine zlo ?_
   refine(zP)<|zlt<|zct<|zsr ?_
   refine(zP)<|zx14<|zf1 ⟨_,rfl,?_⟩
   exact⟨Zf (by rintro⟨h1,h2,h3,h4⟩;first|omega|exact absurd h1 ‹¬ZE p b›),hS.nl⟩
  refine(zP)<|(zV (xln Zb hl.row.slh))<|(zP)<|(zP)<|zlt<|Ze ?_ ?_<;>intro hc
  ·
   refine zsr<|(zP)<|zx14<|zf1 ⟨_,rfl,?_⟩
   exact⟨Zf (by rintro⟨h1,h2,h3,h4⟩;first|omega|exact absurd h1 ‹¬ZE p b›),hS.nl⟩
  refine zsk<|ztn<|zsq<|zdst [0] [0] 1000 mx_ hS ?_;clear hS;intro w hS
  refine(zDw 0 (xfb 0 fd_34_0))<|(zDl 1 (fun w hS=>(xlp 0 (ds:= [vL,vD,.int .i64 p.stock,.int .i64 p.kerf]) st_32 hS)))<|(zDw 2 xmv)<|ZgF 3 rfl rfl rfl rfl (by kernel_rfl) rfl (fun w=>(YD (q:=1) rfl Zb rfl rfl rfl hl.row.slh rfl (by omega) (by omega))) ?_
  refine(zDw 4 xmv)<|(zDw 5 (xix (kk:=0) Zb hl.row.slh))<|zdla 6 (fun w hS=>(xlr (u:= .int .i64 (l 0)) pl_3 (hl.row.below hS.below))) ?_
  have hbv:=hl.i 0
  refine zDrv 7 (xany (v:= .agg #[(Xd vl 1),.int .i64 (l 0)]) (hr:=by have hz:=(YM (q:=1) hl.row.slh hrm (by omega)).slh;revert hz;generalize (Xd vl 1)=z;rintro⟨_,_,_,_,rfl,_⟩;show _=_;kernel_rfl)) ?_
  refine zdc 8 (xc0 ZiP) (Zc4 (p:=p) w (h.below hS.below) (show Row _ _ 1 (nl-1) (ints (fun z9=>l (z9+1))) from Suf.row (c:=ints l) (YM (q:=1) hl.row.slh hrm (by omega)) (by omega) (hl.row.below hS.below)) (by omega)) ?_;rintro _ w ⟨rfl,hS'⟩
  replace hS:=hS.cmp hS';clear hS'
  refine⟨⟨fun _=>hS,hS⟩,?_⟩
  refine(zDw 9 xmv)<|(zDw 10 xex)<|(zDw 11 xex)<|(zDw 12 xas)<|(zDw 13 xas)<|zdd<|ztn<|zsr ?_
  refine(zP)<|(zP)<|(zP)<|zlb 29 ?_ ?_<;>intro hc
  ·
   refine(zP)<|(zV (xfb 4 fd_34_1))<|(zV (xlb 0 pl_3 hS))<|(zP)<|(zP)<|(zP)<|zx1<|zf1 ⟨_,rfl,?_⟩
   exact⟨Zm ⟨fun hh=>⟨Classical.not_not.1 ‹_›,by omega,by omega,hh⟩,fun hh=>hh.2.2.2⟩,hS.nl⟩
  iterate 4 refine zlo ?_
  refine(zP)<|(zP)<|zx1<|zf1 ⟨_,rfl,?_⟩
  exact⟨Zf (by rintro⟨h1,h2,h3,h4⟩;first|omega|exact absurd h1 ‹¬ZE p b›),hS.nl⟩
theorem ZhT{vL:Value}{p:Prob}{vl:Value}{nl:Int}{l:Int->Int}(w0:World)(h:PAt w0 vL vD p)(hl:IAt w0 vl nl l)(hrm:Gw.Wg vl):
    Calls Tryz.prog 17 [.agg #[vL,vD,.int .i64 p.stock,.int .i64 p.kerf,.int .i64 b],vl].toArray w0 fun e w=>∃v,e= .returned v/\v=B (XN p b nl l)/\Sat w0 w []:=by
  have hm:=h.L.slh.n0;have hm1:=h.L.slh.n1;have hd:=h.D.slh.n0;have hd1:=h.D.slh.n1;have hs:=h.is;have hk:=h.ik
  have hl0:=hl.n0;have hl1:=hl.n1;have hrm:=hrm
  refine zenG Tryz.func17 Tryz.ntmps17 fun w hS=> ?_
  refine zsr<|zla (xbx (cs:= [_,_,_,_,_]) hS) ?_;rintro _ w ⟨g1,rfl,hS⟩
  refine(zP)<|zx5<|(zV (xls 0 Vi hS))<|zlc (xc0 ZcU) (UW (p:=p) (b:=b) w (h.below hS.below)) ?_;rintro _ w ⟨rfl,hS'⟩
  replace hS:=hS.cmp hS';clear hS'
  refine(zP)<|(zP)<|zlb 10 ?_ ?_<;>intro hc
  ·
   iterate 3 refine zlo ?_
   refine(zP)<|zlt<|zct<|zsr ?_
   refine(zP)<|zx14<|zf1 ⟨_,rfl,?_⟩
   exact⟨Zf (by rintro⟨h1,h2,h3,h4⟩;first|omega|exact absurd h1 ‹¬ZE p b›),hS.nl⟩
  refine(zP)<|(zV (xln Zb hl.row.slh))<|(zP)<|(zP)<|zlt<|Ze ?_ ?_<;>intro hc
  ·
   refine zsr<|(zP)<|zx14<|zf1 ⟨_,rfl,?_⟩
   exact⟨Zf (by rintro⟨h1,h2,h3,h4⟩;first|omega|exact absurd h1 ‹¬ZE p b›),hS.nl⟩
  refine zsk<|ztn<|zsq<|zdst [0] [0] 1000 mx_ hS ?_;clear hS;intro w hS
  refine(zDw 0 (xfb 0 fd_26_0))<|(zDl 1 (fun w hS=>(xlp 0 (ds:= [vL,vD,.int .i64 p.stock,.int .i64 p.kerf]) ZV hS)))<|(zDw 2 xmv)<|ZgF 3 rfl rfl rfl rfl (by kernel_rfl) rfl (fun w=>(YD (q:=1) rfl Zb rfl rfl rfl hl.row.slh rfl (by omega) (by omega))) ?_
  refine(zDw 4 xmv)<|(zDw 5 (xix (kk:=0) Zb hl.row.slh))<|zdla 6 (fun w hS=>(xlr (u:= .int .i64 (l 0)) pl_3 (hl.row.below hS.below))) ?_
  have hbv:=hl.i 0
  refine zDrv 7 (xany (v:= .agg #[(Xd vl 1),.int .i64 (l 0)]) (hr:=by have hz:=(YM (q:=1) hl.row.slh hrm (by omega)).slh;revert hz;generalize (Xd vl 1)=z;rintro⟨_,_,_,_,rfl,_⟩;show _=_;kernel_rfl)) ?_
  refine zdc 8 (xc0 ZmH) (ZfU (p:=p) w (h.below hS.below) (show Row _ _ 1 (nl-1) (ints (fun z9=>l (z9+1))) from Suf.row (c:=ints l) (YM (q:=1) hl.row.slh hrm (by omega)) (by omega) (hl.row.below hS.below)) (by omega)) ?_;rintro _ w ⟨rfl,hS'⟩
  replace hS:=hS.cmp hS';clear hS'
  refine⟨⟨fun _=>hS,hS⟩,?_⟩
  refine(zDw 9 xmv)<|(zDw 10 xex)<|(zDw 11 xex)<|(zDw 12 xas)<|(zDw 13 xas)<|zdd<|ztn<|zsr ?_
  refine(zP)<|(zP)<|(zP)<|zlb 29 ?_ ?_<;>intro hc
  ·
   refine(zP)<|(zV (xfb 4 fd_26_1))<|(zV (xlb 0 pl_3 hS))<|(zP)<|(zP)<|(zP)<|zx1<|zf1 ⟨_,rfl,?_⟩
   exact⟨Zm ⟨fun hh=>⟨Classical.not_not.1 ‹_›,by omega,by omega,hh⟩,fun hh=>hh.2.2.2⟩,hS.nl⟩
  iterate 4 refine zlo ?_
  refine(zP)<|(zP)<|zx1<|zf1 ⟨_,rfl,?_⟩
  exact⟨Zf (by rintro⟨h1,h2,h3,h4⟩;first|omega|exact absurd h1 ‹¬ZE p b›),hS.nl⟩
end Go.Proofs.YtkichmnjjblodaaGreat
namespace Go.Proofs.YtkichmnjjblodaaGreat
open Go Go.RowKit Go.Proofs.Gw
theorem Zlt{vL vD:Value}{p:Prob}{b:Int}{vA:Value}{n:Int}{x:Int->Int}(w0:World)(h:PAt w0 vL vD p)(hp:p.Ok)(hb:0<=b/\b<=1000)(hA:Row w0 vA 1 n (ints x))(hnm:n=p.m)(hx:∀k,0<=k->k<p.m->0<=x k/\x k<=p.D k):
    Calls Tryz.prog 45 [.agg #[vL,vD,.int .i64 p.stock,.int .i64 p.kerf,.int .i64 b],vA].toArray w0 fun e w=>∃v,e= .returned v/\∃r1 r2,v= .agg #[r1,r2,.int .i64 p.stock,.int .i64 p.kerf,.int .i64 (b-1)]/\Slh r1 p.m/\Slh r2 p.d/\Sat w0 w [.own r1 1 3 p.m (ints p.L),.own r2 1 3 p.d (ints fun k=>p.D k-x k)]:=by
  subst hnm
  have hm:=h.L.slh.n0;have hm1:=h.L.slh.n1;have hd:=h.D.slh.n0;have hd1:=h.D.slh.n1;have hs:=h.is;have hk:=h.ik
  have hpm:=hp.m1;have qz:=hp.m2;have hpd:=hp.d;have hs1:=hp.s1;have hs2:=hp.s2;have hk1:=hp.k1;have hk2:=hp.k2
  refine zenG Tryz.func45 Tryz.ntmps45 fun w hS=> ?_
  refine zsr<|zla (xbx (cs:= [_,_,_,_,_]) hS) ?_;rintro _ w ⟨g1,rfl,hS⟩
  refine zla (xal (cs:= [_,_,_,_,_]) Za4 hS) ?_;rintro _ w ⟨g2,rfl,hS⟩
  refine zlz<|(zV (xfb 0 fd_34_0))<|(zV (xlp 0 (ds:= [vL,vD,.int .i64 p.stock,.int .i64 p.kerf]) st_32 hS))<|zla (xal (cs:= [_,_,_,_]) Ze7 hS) ?_;rintro _ w ⟨g3,rfl,hS⟩
  refine zle (xsw 2 st_32 hS (hd:=(Za h.L.slh.one (Za h.D.slh.one (Za rfl (Za rfl Zi)))))) ?_;clear hS;rintro w hS
  refine zx7<|zdst [0,1,2] [0,1,2] 1000 mx_ hS ?_;clear hS;intro w hS
  refine(zDw 0 (xfb 0 fd_32_0))<|(zDl 1 (fun w hS=>(xlb 2 pl_22 hS)))<|(zDw 2 (xln Zb h.L.slh))<|(zDw 4 (xfb 1 fd_32_1))<|(zDl 5 (fun w hS=>(xlb 2 pl_22 hS)))<|(zDw 6 (xln Zb h.D.slh))<|Vd (r:= [3,7]) ((YK ?_ (YK ?_ Vc)))
  ·
   refine zka (xmk Zb Zt hS) ?_;rintro v1 w ⟨hS,hv1⟩
   refine⟨⟨fun _=>hS.pk [0,1,2],hS.pk [0,1,2]⟩,?_⟩
   refine(zDw 8 xas)<|zda 7 (xmk Zb Zt hS) ?_;rintro v2 w ⟨hS,hv2⟩
   refine⟨⟨fun _=>hS.pk [0,1,2],hS.pk [0,1,2]⟩,?_⟩
   refine(zDw 9 xas)<|zdd<|ztn<|zsr ?_
   refine(zP)<|(zV (xfb 0 fd_32_0))<|(zV (xlb 2 pl_22 hS))<|R2 rfl rfl rfl (VZ 3 rfl Zb rfl rfl hS rfl (h.L.below hS.below) (fun _ _ _=>rfl)) ?_;rintro _ w ⟨rfl,hS⟩
   refine zlz<|(zP)<|(zV (xfb 1 fd_32_1))<|(zV (xlb 2 pl_22 hS))<|R2 rfl rfl rfl (VZ 4 rfl Zb rfl rfl hS rfl (h.D.below hS.below) (fun _ _ _=>rfl)) ?_;rintro _ w ⟨rfl,hS⟩
   refine zx5<|(zP)<|(zV (xln Zb hA.slh))<|(zP)<|zx6<|zlp (fun mm M w=>∃(fd:Int->Int) (i:Int),mm=((p.m-i).toNat)/\(0<=i)/\(i<=p.m)/\(∀k,0<=k->k<p.m->fd k=if k<i then p.D k-x k else p.D k)/\M= [(2,.pointer (some ⟨g1,0,none⟩)),(4,.pointer (some ⟨g2,0,none⟩)),(5,.pointer (some ⟨g3,0,none⟩)),(6,v1),(7,v2),(28,vA),(29,.int .i64 p.m),(30,.int .i64 i)]/\Sat w0 w [.blk g1 [vL,vD,.int .i64 p.stock,.int .i64 p.kerf,.int .i64 b],.blk g2 [.slice none 0 0,.slice none 0 0,.int .i64 0,.int .i64 0,.int .i64 0],.blk g3 [vL,vD,.int .i64 p.stock,.int .i64 p.kerf],.own v1 1 3 p.m (ints p.L),.own v2 1 3 p.d (ints fd)]) ⟨p.D,0,rfl,(by omega),(by omega),?_,rfl,hS⟩ ?_
   ·
    intro k k0 k1;rw [if_neg (by omega)]
   clear hS w
   rintro mm M w ⟨fd,i,rfl,h0,h1,hfd,rfl,hS⟩
   refine zsr<|(zP)<|zx7<|Ze ?_ ?_<;>intro hc
   ·
    refine zx3<|(zP)<|(zV (xix (kk:=i) Zb hA.slh))<|zlv (xlr (u:= .int .i64 (x i)) pl_3 (hA.below hS.below)) ?_
    have hxi:=hx i h0 (by omega);have hei:=hp.all i h0 (by omega);unfold Prob.each at hei;have hfi:=hfd i h0 (by omega);rw [if_neg (by omega)] at hfi
    refine(zP)<|(zP)<|zlt<|zrg<|(zP)<|(zP)<|(zV (xix (kk:=i) Zb hv2))<|(zV (xlr (u:= .int .i64 (fd i)) pl_3 (hS.rowN 4 rfl)))<|(zP)<|(zV (Zp (r:=fd i-(x i))))<|(zV (xix (kk:=i) Zb hv2))<|zle (xso 4 pl_3 hS (Zq _ _ _)) ?_;clear hS;rintro w hS
    refine zx10<|(zV (Zh (r:=i+1)))<|(zP)<|zln<|zlq ⟨(upd fd i (fd i-(x i))),i+1,rfl,(by omega),(by omega),?_,rfl,hS⟩
    ·
     intro k k0 k1;unfold upd;by_cases e:k=i
     · rw [if_pos e,if_pos (by omega),e];omega
     · rw [if_neg e,hfd k k0 k1];by_cases e2:k<i
       · rw [if_pos e2,if_pos (by omega)]
       · rw [if_neg e2,if_neg (by omega)]
   refine zx8<|(zP)<|(zP)<|(zV (xfb 0 fd_32_0))<|zle (xsb 2 pl_22 hS (hv:=hv1.one)) ?_;clear hS;rintro w hS
   refine(zV (xfb 1 fd_32_1))<|zle (xsb 2 pl_22 hS (hv:=hv2.one)) ?_;clear hS;rintro w hS
   refine zlz<|(zV (xls 2 st_32 hS))<|(zV (xfb 4 fd_34_1))<|(zV (xlb 0 pl_3 hS))<|(zV (Zp (r:=b-1)))<|zlv (xany (v:= .agg #[v1,v2,.int .i64 p.stock,.int .i64 p.kerf,.int .i64 (b-1)]) (hr:=by obtain⟨_,_,_,_,rfl,_⟩:=hv1;obtain⟨_,_,_,_,rfl,_⟩:=hv2;kernel_rfl)) ?_
   refine zle (xsw 1 Yq hS (hd:=(Za hv1.one (Za hv2.one (Za rfl (Za rfl (Za rfl Zi))))))) ?_;clear hS;rintro w hS
   refine zx1<|zfc 1 Yq hS ⟨_,rfl,?_⟩
   replace hS:=hS.recont 4 rfl (d:=ints fun k=>p.D k-x k) (fun k k0 k1=>by unfold ints;rw [hfd k k0 (by omega),if_pos (by omega)])
   exact⟨_,_,rfl,hv1,hv2,hS.pk [3,4]⟩
  refine zka (xmk Zb Zt hS) ?_;rintro v1 w ⟨hS,hv1⟩
  refine⟨⟨fun _=>hS.pk [0,1,2],hS.pk [0,1,2]⟩,?_⟩
  refine zda 3 (xmk Zb Zt hS) ?_;rintro v2 w ⟨hS,hv2⟩
  refine⟨⟨fun _=>hS.pk [0,1,2],hS.pk [0,1,2]⟩,?_⟩
  refine(zDw 8 xas)<|(zDw 9 xas)<|zdd<|ztn<|zsr ?_
  refine(zP)<|(zV (xfb 0 fd_32_0))<|(zV (xlb 2 pl_22 hS))<|R2 rfl rfl rfl (VZ 4 rfl Zb rfl rfl hS rfl (h.L.below hS.below) (fun _ _ _=>rfl)) ?_;rintro _ w ⟨rfl,hS⟩
  refine zlz<|(zP)<|(zV (xfb 1 fd_32_1))<|(zV (xlb 2 pl_22 hS))<|R2 rfl rfl rfl (VZ 3 rfl Zb rfl rfl hS rfl (h.D.below hS.below) (fun _ _ _=>rfl)) ?_;rintro _ w ⟨rfl,hS⟩
  refine zx5<|(zP)<|(zV (xln Zb hA.slh))<|(zP)<|zx6<|zlp (fun mm M w=>∃(fd:Int->Int) (i:Int),mm=((p.m-i).toNat)/\(0<=i)/\(i<=p.m)/\(∀k,0<=k->k<p.m->fd k=if k<i then p.D k-x k else p.D k)/\M= [(2,.pointer (some ⟨g1,0,none⟩)),(4,.pointer (some ⟨g2,0,none⟩)),(5,.pointer (some ⟨g3,0,none⟩)),(6,v2),(7,v1),(28,vA),(29,.int .i64 p.m),(30,.int .i64 i)]/\Sat w0 w [.blk g1 [vL,vD,.int .i64 p.stock,.int .i64 p.kerf,.int .i64 b],.blk g2 [.slice none 0 0,.slice none 0 0,.int .i64 0,.int .i64 0,.int .i64 0],.blk g3 [vL,vD,.int .i64 p.stock,.int .i64 p.kerf],.own v1 1 3 p.d (ints fd),.own v2 1 3 p.m (ints p.L)]) ⟨p.D,0,rfl,(by omega),(by omega),?_,rfl,hS⟩ ?_
  ·
   intro k k0 k1;rw [if_neg (by omega)]
  clear hS w
  rintro mm M w ⟨fd,i,rfl,h0,h1,hfd,rfl,hS⟩
  refine zsr<|(zP)<|zx7<|Ze ?_ ?_<;>intro hc
  ·
   refine zx3<|(zP)<|(zV (xix (kk:=i) Zb hA.slh))<|zlv (xlr (u:= .int .i64 (x i)) pl_3 (hA.below hS.below)) ?_
   have hxi:=hx i h0 (by omega);have hei:=hp.all i h0 (by omega);unfold Prob.each at hei;have hfi:=hfd i h0 (by omega);rw [if_neg (by omega)] at hfi
   refine(zP)<|(zP)<|zlt<|zrg<|(zP)<|(zP)<|(zV (xix (kk:=i) Zb hv1))<|(zV (xlr (u:= .int .i64 (fd i)) pl_3 (hS.rowN 3 rfl)))<|(zP)<|(zV (Zp (r:=fd i-(x i))))<|(zV (xix (kk:=i) Zb hv1))<|zle (xso 3 pl_3 hS (Zq _ _ _)) ?_;clear hS;rintro w hS
   refine zx10<|(zV (Zh (r:=i+1)))<|(zP)<|zln<|zlq ⟨(upd fd i (fd i-(x i))),i+1,rfl,(by omega),(by omega),?_,rfl,hS⟩
   ·
    intro k k0 k1;unfold upd;by_cases e:k=i
    · rw [if_pos e,if_pos (by omega),e];omega
    · rw [if_neg e,hfd k k0 k1];by_cases e2:k<i
      · rw [if_pos e2,if_pos (by omega)]
      · rw [if_neg e2,if_neg (by omega)]
  refine zx8<|(zP)<|(zP)<|(zV (xfb 0 fd_32_0))<|zle (xsb 2 pl_22 hS (hv:=hv2.one)) ?_;clear hS;rintro w hS
  refine(zV (xfb 1 fd_32_1))<|zle (xsb 2 pl_22 hS (hv:=hv1.one)) ?_;clear hS;rintro w hS
  refine zlz<|(zV (xls 2 st_32 hS))<|(zV (xfb 4 fd_34_1))<|(zV (xlb 0 pl_3 hS))<|(zV (Zp (r:=b-1)))<|zlv (xany (v:= .agg #[v2,v1,.int .i64 p.stock,.int .i64 p.kerf,.int .i64 (b-1)]) (hr:=by obtain⟨_,_,_,_,rfl,_⟩:=hv2;obtain⟨_,_,_,_,rfl,_⟩:=hv1;kernel_rfl)) ?_
  refine zle (xsw 1 Yq hS (hd:=(Za hv2.one (Za hv1.one (Za rfl (Za rfl (Za rfl Zi))))))) ?_;clear hS;rintro w hS
  refine zx1<|zfc 1 Yq hS ⟨_,rfl,?_⟩
  replace hS:=hS.recont 3 rfl (d:=ints fun k=>p.D k-x k) (fun k k0 k1=>by unfold ints;rw [hfd k k0 (by omega),if_pos (by omega)])
  exact⟨_,_,rfl,hv2,hv1,hS.pk [4,3]⟩
end Go.Proofs.YtkichmnjjblodaaGreat
namespace Go.Proofs.YtkichmnjjblodaaGreat
open Go Go.RowKit Go.Proofs.Gw
theorem ZmK:Zc Tryz.prog 44=true:=by kernel_rfl
theorem ZmJ:Zc Tryz.prog 45=true:=by kernel_rfl
theorem VD:ZK Tryz.prog 29=some (34,5):=by kernel_rfl
theorem ZcZ{vL vD:Value}{p:Prob}{b:Int}{wi:Int}(w0:World)(h:PAt w0 vL vD p):
    Calls Tryz.prog 13 [.agg #[vL,vD,.int .i64 p.stock,.int .i64 p.kerf,.int .i64 b],.int .i64 wi].toArray w0 fun e w=>∃v,e= .returned v/\∃r vv,v= .tuple #[r,B (ZF p b wi)]/\Slh r (Zn p b wi)/\Sat w0 w [.own r 5 34 (Zn p b wi) (ZG vv p.stock p.kerf (b-1)),.sem (Frame.rows 3 (2*Zn p b wi) vv (fun _=>p.m) (gfn p (MX p wi)))]:=by
  have hm:=h.L.slh.n0;have hm1:=h.L.slh.n1;have hd:=h.D.slh.n0;have hd1:=h.D.slh.n1;have hs:=h.is;have hk:=h.ik
  refine zenG Tryz.func13 Tryz.ntmps13 fun w hS=> ?_
  refine zsr<|zla (xbx (cs:= [_,_,_,_,_]) hS) ?_;rintro _ w ⟨g1,rfl,hS⟩
  refine(zP)<|(zP)<|zx5<|(zV (xls 0 Yq hS))<|zlc (xc0 ZcT) (KN (p:=p) (b:=b) w (h.below hS.below)) ?_;rintro _ w ⟨rfl,hS'⟩
  replace hS:=hS.cmp hS';clear hS'
  refine(zP)<|(zP)<|zlb 14 ?_ ?_<;>intro hc;rotate_left
  refine(zV (xfb 4 fd_34_1))<|zlv (xlb 0 pl_3 hS) ?_
  have hpo:ZE p b:=by first|assumption|exact Classical.not_not.1 ‹_›
  have hp:=hpo.1;have hpb:=hpo.2
  have hpm:=hp.m1;have qz:=hp.m2;have hpd:=hp.d;have hs1:=hp.s1;have hs2:=hp.s2;have hk1:=hp.k1;have hk2:=hp.k2
  refine(zP)<|(zP)<|(zP)<|zlb 19 ?_ ?_<;>intro hc;rotate_left
  refine zs4 ?_
  refine zlb 23 ?_ ?_<;>intro hc;rotate_left
  refine(zP)<|(zV (xfb 0 fd_34_0))<|(zV (xfb 0 fd_32_0))<|(zV (xlb 0 pl_22 hS))<|(zV (xln Zb h.L.slh))<|(zP)<|(zP)<|(zP)<|zlb 31 ?_ ?_<;>intro hc;rotate_left
  refine(zV (xfb 0 fd_34_0))<|(zV (xfb 1 fd_32_1))<|(zV (xlb 0 pl_22 hS))<|(zP)<|(zV (xix (kk:=wi) Zb h.D.slh))<|zlv (xlr (u:= .int .i64 (p.D wi)) pl_3 (h.D.below hS.below)) ?_
  have hbv:=h.iD wi
  refine(zP)<|(zP)<|zlt<|Ze ?_ ?_<;>intro hc
  ·
   refine zsr<|(zP)<|(zP)<|zx14<|zf2 ⟨_,rfl,?_⟩
   have hno:¬ZF p b wi:=by
     rintro⟨⟨q1,q2,q3⟩,q4,⟨q5,q6⟩,q7,q8⟩
     first|omega|exact absurd (show ZE p b from⟨q1,q2,q3⟩) ‹¬ZE p b›|(rcases x9 with⟨g1,_⟩|⟨_,g1,_⟩|⟨_,_,g1,_⟩|⟨_,_,_,g1,_⟩;exact absurd q1 g1;exact absurd ⟨q5,q6⟩ g1;omega;omega)
   rw [Xg hno]
   exact⟨_,(fun _=>Value.slice none 0 0),by rw [ZC hno],slh_nil,((hS.sub (.cons _ .slnil)).addnil 5 34 (ZG (fun _=>Value.slice none 0 0) p.stock p.kerf (b-1))).addrows 3 (fun _=>Value.slice none 0 0) (fun _=>p.m) (gfn p (MX p wi))⟩
  refine ZS<|(zV (xfb 0 fd_34_0))<|(zV (xlp 0 (ds:= [vL,vD,.int .i64 p.stock,.int .i64 p.kerf]) st_32 hS))<|(zP)<|zlc (xc0 ZmK) (ZhV (p:=p) (wi:=wi) w (h.below hS.below)) ?_;rintro _ w ⟨qU,ux1,qC,fx1,ex1,rfl,x9,qI,hS'⟩
  replace hS:=(hS.comp hS').n3;clear hS'
  have xn:∀k,0<=k->k<ux1->Slh (qC k) p.m:=fun k k0 k1=>hS.slhIn 2 rfl k0 k1
  refine zs5 ?_
  refine zx5<|(zP)<|(zP)<|zlt<|Ze ?_ ?_<;>intro hc
  ·
   refine zsr<|(zP)<|(zP)<|zx14<|zf2 ⟨_,rfl,?_⟩
   have hno:¬ZF p b wi:=by
     rintro⟨⟨q1,q2,q3⟩,q4,⟨q5,q6⟩,q7,q8⟩
     first|omega|exact absurd (show ZE p b from⟨q1,q2,q3⟩) ‹¬ZE p b›|(rcases x9 with⟨g1,_⟩|⟨_,g1,_⟩|⟨_,_,g1,_⟩|⟨_,_,_,g1,_⟩;exact absurd q1 g1;exact absurd ⟨q5,q6⟩ g1;omega;omega)
   rw [Xg hno]
   exact⟨_,(fun _=>Value.slice none 0 0),by rw [ZC hno],slh_nil,((hS.sub (.cons _ (.cons _ (.cons _ .slnil)))).addnil 5 34 (ZG (fun _=>Value.slice none 0 0) p.stock p.kerf (b-1))).addrows 3 (fun _=>Value.slice none 0 0) (fun _=>p.m) (gfn p (MX p wi))⟩
  refine ZS<|(zP)<|zx5<|(zP)<|(zV (xln Zl qI))<|zlv xmv ?_
  have qR:Ls p.m ux1 fx1 (MX p wi)/\(MX p wi).length<=300:=by rcases x9 with⟨_,g1,_⟩|⟨_,_,g1,_⟩|⟨_,_,_,g1,_⟩|⟨_,_,g2,_,g1⟩;omega;omega;omega;exact⟨g1,g2⟩
  have em:=qR.2
  replace qR:=qR.1
  have hun:=qI.n0;have hul:=qR.1
  refine zx6 ?_
  replace hS:=(hS.addnil 5 34 (ZG (fun _=>Value.slice none 0 0) p.stock p.kerf (b-1))).addrows 3 (fun _=>Value.slice none 0 0) (fun _=>p.m) (gfn p (MX p wi))
  replace hS:=hS.rowsn 4 rfl (show(0:Int)=2*0 from rfl)
  refine zlp (fun mm M w=>∃(i:Int) (vv:Int->Value) (wG:Value),mm=((ux1-i).toNat)/\(0<=i)/\(i<=ux1)/\(Slh wG i)/\M= [(2,.pointer (some ⟨g1,0,none⟩)),(4,.slice none 0 0),(5,.bool false),(8,wG),(49,qU),(50,.int .i64 ux1),(51,.int .i64 i)]/\Sat w0 w [.blk g1 [vL,vD,.int .i64 p.stock,.int .i64 p.kerf,.int .i64 b],.own qU 1 22 ux1 qC,.sem (Frame.rows 3 ux1 qC (fun _=>p.m) fx1),.own wG 5 34 i (ZG vv p.stock p.kerf (b-1)),.sem (Frame.rows 3 (2*i) vv (fun _=>p.m) (gfn p (MX p wi)))]) ⟨0,(fun _=>Value.slice none 0 0),(.slice none 0 0),rfl,(by omega),(by omega),?_,rfl,hS⟩ ?_
  ·
   exact slh_nil
  clear hS w
  rintro mm M w ⟨i,vv,wG,rfl,h0,h1,hwG,rfl,hS⟩
  have hrG:∀k,0<=k->k<2*i->Slh (vv k) p.m:=fun k k0 k1=>hS.slhIn 4 rfl k0 k1
  refine zsr<|(zP)<|zx7<|Ze ?_ ?_<;>intro hc
  ·
   refine zx3<|(zV (xix (kk:=i) Zl qI))<|(zV (xlr (u:=(qC i)) pl_22 (hS.rowN 1 rfl)))<|(zP)<|zlt<|zrg<|(zP)<|(zV (xls 0 Yq hS))<|(zP)<|zlc (xc0 ZmJ) (Zlt (p:=p) (b:=b) (x:=(fx1 i)) w (h.below hS.below) hp hpb (show Row _ _ 1 p.m _ from(hS.rowIn (k:=i) 2 rfl (by omega) (by omega))) rfl (ZaA hp qR h0 (by omega))) ?_;rintro _ w ⟨af,ag,rfl,bJ,bK,hS'⟩
   replace hS:=(hS.comp hS').n7;clear hS'
   refine zla (xli (n:=1) (len:=1) (pv:= [(0,.agg #[af,ag,.int .i64 p.stock,.int .i64 p.kerf,.int .i64 (b-1)])]) (cs:= [af,ag,.int .i64 p.stock,.int .i64 p.kerf,.int .i64 (b-1)]) (c:=ZG (pr2 af ag) p.stock p.kerf (b-1)) VD Za4 hS (hf:=by obtain⟨_,_,_,_,rfl,_⟩:=bJ;obtain⟨_,_,_,_,rfl,_⟩:=bK;kernel_rfl)) ?_;rintro v1 w ⟨hS,hv1⟩
   refine zla (xap 3 (r:=i+1) VD Za4 hS (hS.rowN 7 rfl) (TH _ _ _ _ _ _ _) (h1:=fun k _ _=>Ts (Zcm bJ.one bK.one) k)) ?_;rintro v2 w ⟨hS,hv2⟩
   replace hS:=Sat.merge (l1:= [_,_,_,_]) (l2:= []) (l3:= [_,_]) hS (by omega)
   replace hS:=hS.rowsn 4 rfl (show _=2*i+1 by omega)
   have qW:=fun k (k0:0<=k) (k1:k<2*i+1)=>hS.slhIn 4 rfl k0 k1
   replace hS:=Sat.merge (l1:= [_,_,_,_]) (l2:= []) (l3:= [_]) hS (by omega)
   replace hS:=hS.rowsn 4 rfl (show _=2*i+2 by omega)
   have yz:=fun k (k0:0<=k) (k1:k<2*i+2)=>hS.slhIn 4 rfl k0 k1
   replace hS:=hS.rerows (vv':=(gsn (gsn vv (2*i) af) (2*i+1) ag)) (ln':=fun _=>p.m) (f':=(gfn p (MX p wi))) 4 rfl (Ry hpd h0 (qR.2 i h0 (by omega)) _)
   replace hS:=hS.rowsn 4 rfl (show 2*i+2=2*(i+1) by omega)
   refine(zP)<|zx10<|(zV (Zh (r:=i+1)))<|zlv xmv ?_
   have qR:Ls p.m ux1 fx1 (MX p wi)/\(MX p wi).length<=300:=by rcases x9 with⟨_,g1,_⟩|⟨_,_,g1,_⟩|⟨_,_,_,g1,_⟩|⟨_,_,g2,_,g1⟩;omega;omega;omega;exact⟨g1,g2⟩
   have em:=qR.2
   replace qR:=qR.1
   have hun:=qI.n0;have hul:=qR.1
   refine zln<|zlq ⟨i+1,(gsn (gsn vv (2*i) af) (2*i+1) ag),v2,rfl,(by omega),(by omega),?_,rfl,hS.pk [0,1,2,3,4]⟩
   ·
    exact hv2
  refine zx8<|(zP)<|(zP)<|(zP)<|zx1<|zf2 ⟨_,rfl,?_⟩
  have hi9:i=((MX p wi).length:Int):=by have:=qR.1;omega
  have aq:ZF p b wi:=⟨hpo,by omega,by omega,by omega,by have:=qR.1;omega⟩
  rw [Yi aq]
  subst hi9
  exact⟨_,_,by rw [ZI aq],hwG,hS.pk [3,4]⟩
  all_goals
   refine zOps ?_
   refine zlt<|zct<|zsr ?_
   refine zOps ?_
   refine zx14<|zf2 ⟨_,rfl,?_⟩
   have hno:¬ZF p b wi:=by
     rintro⟨⟨q1,q2,q3⟩,q4,⟨q5,q6⟩,q7,q8⟩
     first|omega|exact absurd (show ZE p b from⟨q1,q2,q3⟩) ‹¬ZE p b›|(rcases x9 with⟨g1,_⟩|⟨_,g1,_⟩|⟨_,_,g1,_⟩|⟨_,_,_,g1,_⟩;exact absurd q1 g1;exact absurd ⟨q5,q6⟩ g1;omega;omega)
   rw [Xg hno]
   exact⟨_,(fun _=>Value.slice none 0 0),by rw [ZC hno],slh_nil,((hS.sub (.cons _ .slnil)).addnil 5 34 (ZG (fun _=>Value.slice none 0 0) p.stock p.kerf (b-1))).addrows 3 (fun _=>Value.slice none 0 0) (fun _=>p.m) (gfn p (MX p wi))⟩
end Go.Proofs.YtkichmnjjblodaaGreat
namespace Go.Proofs.YtkichmnjjblodaaGreat
open Go Go.RowKit Go.Proofs.Gw
theorem ZmI:Zc Tryz.prog 46=true:=by kernel_rfl
theorem Ze9:ZY Tryz.prog 24=some (.agg #[.slice none 0 0,.slice none 0 0,.int .i64 0,.int .i64 0],4,64):=by kernel_rfl
theorem ZiC:ZY Tryz.prog 26=some (.agg #[.slice none 0 0,.slice none 0 0,.int .i64 0,.int .i64 0,.int .i64 0],5,72):=by kernel_rfl
theorem Zam:ZK Tryz.prog 36=some (26,5):=by kernel_rfl
theorem ZfP{vL vD:Value}{p:Prob}{b:Int}{wi:Int}(w0:World)(h:PAt w0 vL vD p):
    Calls Tryz.prog 15 [.agg #[vL,vD,.int .i64 p.stock,.int .i64 p.kerf,.int .i64 b],.int .i64 wi].toArray w0 fun e w=>∃v,e= .returned v/\∃r vv,v= .tuple #[r,B (ZF p b wi)]/\Slh r (Zn p b wi)/\Sat w0 w [.own r 5 26 (Zn p b wi) (ZG vv p.stock p.kerf (b-1)),.sem (Frame.rows 3 (2*Zn p b wi) vv (fun _=>p.m) (gfn p (MX p wi)))]:=by
  have hm:=h.L.slh.n0;have hm1:=h.L.slh.n1;have hd:=h.D.slh.n0;have hd1:=h.D.slh.n1;have hs:=h.is;have hk:=h.ik
  refine zenG Tryz.func15 Tryz.ntmps15 fun w hS=> ?_
  refine zsr<|zla (xbx (cs:= [_,_,_,_,_]) hS) ?_;rintro _ w ⟨g1,rfl,hS⟩
  refine(zP)<|(zP)<|zx5<|(zV (xls 0 Vi hS))<|zlc (xc0 ZcU) (UW (p:=p) (b:=b) w (h.below hS.below)) ?_;rintro _ w ⟨rfl,hS'⟩
  replace hS:=hS.cmp hS';clear hS'
  refine(zP)<|(zP)<|zlb 15 ?_ ?_<;>intro hc;rotate_left
  refine zlv xmv ?_
  have hpo:ZE p b:=by first|assumption|exact Classical.not_not.1 ‹_›
  have hp:=hpo.1;have hpb:=hpo.2
  have hpm:=hp.m1;have qz:=hp.m2;have hpd:=hp.d;have hs1:=hp.s1;have hs2:=hp.s2;have hk1:=hp.k1;have hk2:=hp.k2
  refine(zP)<|(zP)<|(zP)<|zlb 19 ?_ ?_<;>intro hc;rotate_left
  refine(zP)<|(zV (xfb 0 fd_26_0))<|(zV (xfb 0 fd_24_0))<|(zV (xlb 0 pl_22 hS))<|(zV (xln Zb h.L.slh))<|(zP)<|(zP)<|(zP)<|zlb 27 ?_ ?_<;>intro hc;rotate_left
  refine(zV (xfb 0 fd_26_0))<|(zV (xfb 1 fd_24_1))<|(zV (xlb 0 pl_22 hS))<|(zP)<|(zV (xix (kk:=wi) Zb h.D.slh))<|zlv (xlr (u:= .int .i64 (p.D wi)) pl_3 (h.D.below hS.below)) ?_
  have hbv:=h.iD wi
  refine(zP)<|(zP)<|(zP)<|zlb 36 ?_ ?_<;>intro hc;rotate_left
  refine(zV (xfb 4 fd_26_1))<|(zV (xlb 0 pl_3 hS))<|(zP)<|(zP)<|zlt<|Ze ?_ ?_<;>intro hc
  ·
   refine zsr<|(zP)<|(zP)<|zx14<|zf2 ⟨_,rfl,?_⟩
   have hno:¬ZF p b wi:=by
     rintro⟨⟨q1,q2,q3⟩,q4,⟨q5,q6⟩,q7,q8⟩
     first|omega|exact absurd (show ZE p b from⟨q1,q2,q3⟩) ‹¬ZE p b›|(rcases x9 with⟨g1,_⟩|⟨_,g1,_⟩|⟨_,_,g1,_⟩|⟨_,_,_,g1,_⟩;exact absurd q1 g1;exact absurd ⟨q5,q6⟩ g1;omega;omega)
   rw [Xg hno]
   exact⟨_,(fun _=>Value.slice none 0 0),by rw [ZC hno],slh_nil,((hS.sub (.cons _ .slnil)).addnil 5 26 (ZG (fun _=>Value.slice none 0 0) p.stock p.kerf (b-1))).addrows 3 (fun _=>Value.slice none 0 0) (fun _=>p.m) (gfn p (MX p wi))⟩
  refine ZS<|(zV (xfb 0 fd_26_0))<|(zV (xlp 0 (ds:= [vL,vD,.int .i64 p.stock,.int .i64 p.kerf]) ZV hS))<|(zP)<|zlc (xc0 ZmI) (ZhR (p:=p) (wi:=wi) w (h.below hS.below)) ?_;rintro _ w ⟨qU,ux1,qC,fx1,ex1,rfl,x9,qI,hS'⟩
  replace hS:=(hS.comp hS').n3;clear hS'
  have xn:∀k,0<=k->k<ux1->Slh (qC k) p.m:=fun k k0 k1=>hS.slhIn 2 rfl k0 k1
  refine zs5 ?_
  refine zx5<|(zP)<|(zP)<|zlt<|Ze ?_ ?_<;>intro hc
  ·
   refine zsr<|(zP)<|(zP)<|zx14<|zf2 ⟨_,rfl,?_⟩
   have hno:¬ZF p b wi:=by
     rintro⟨⟨q1,q2,q3⟩,q4,⟨q5,q6⟩,q7,q8⟩
     first|omega|exact absurd (show ZE p b from⟨q1,q2,q3⟩) ‹¬ZE p b›|(rcases x9 with⟨g1,_⟩|⟨_,g1,_⟩|⟨_,_,g1,_⟩|⟨_,_,_,g1,_⟩;exact absurd q1 g1;exact absurd ⟨q5,q6⟩ g1;omega;omega)
   rw [Xg hno]
   exact⟨_,(fun _=>Value.slice none 0 0),by rw [ZC hno],slh_nil,((hS.sub (.cons _ (.cons _ (.cons _ .slnil)))).addnil 5 26 (ZG (fun _=>Value.slice none 0 0) p.stock p.kerf (b-1))).addrows 3 (fun _=>Value.slice none 0 0) (fun _=>p.m) (gfn p (MX p wi))⟩
  refine ZS<|(zP)<|zx5<|zlv xas ?_
  have qR:Ls p.m ux1 fx1 (MX p wi)/\(MX p wi).length<=300:=by rcases x9 with⟨_,g1,_⟩|⟨_,_,g1,_⟩|⟨_,_,_,g1,_⟩|⟨_,_,g2,_,g1⟩;omega;omega;omega;exact⟨g1,g2⟩
  have em:=qR.2
  replace qR:=qR.1
  have hun:=qI.n0;have hul:=qR.1
  refine zx6 ?_
  replace hS:=(hS.addnil 5 26 (ZG (fun _=>Value.slice none 0 0) p.stock p.kerf (b-1))).addrows 3 (fun _=>Value.slice none 0 0) (fun _=>p.m) (gfn p (MX p wi))
  replace hS:=hS.rowsn 4 rfl (show(0:Int)=2*0 from rfl)
  refine zlp (fun mm M w=>∃(i:Int) (vv:Int->Value) (wG:Value),mm=((ux1-i).toNat)/\(0<=i)/\(i<=ux1)/\(Slh wG i)/\M= [(2,.pointer (some ⟨g1,0,none⟩)),(4,.slice none 0 0),(5,.bool false),(6,qU),(8,wG),(9,.int .i64 i)]/\Sat w0 w [.blk g1 [vL,vD,.int .i64 p.stock,.int .i64 p.kerf,.int .i64 b],.own qU 1 22 ux1 qC,.sem (Frame.rows 3 ux1 qC (fun _=>p.m) fx1),.own wG 5 26 i (ZG vv p.stock p.kerf (b-1)),.sem (Frame.rows 3 (2*i) vv (fun _=>p.m) (gfn p (MX p wi)))]) ⟨0,(fun _=>Value.slice none 0 0),(.slice none 0 0),rfl,(by omega),(by omega),?_,rfl,hS⟩ ?_
  ·
   exact slh_nil
  clear hS w
  rintro mm M w ⟨i,vv,wG,rfl,h0,h1,hwG,rfl,hS⟩
  have hrG:∀k,0<=k->k<2*i->Slh (vv k) p.m:=fun k k0 k1=>hS.slhIn 4 rfl k0 k1
  refine zx11<|(zP)<|(zP)<|(zV (xln Zl qI))<|(zP)<|zlt<|Ze ?_ ?_<;>intro hc
  ·
   refine zx3<|(zV (xfb 0 fd_26_0))<|(zV (xlp 0 (ds:= [vL,vD,.int .i64 p.stock,.int .i64 p.kerf]) ZV hS))<|zla (xal (cs:= [_,_,_,_]) Ze9 hS) ?_;rintro _ w ⟨g2,rfl,hS⟩
   refine zle (xsw 5 ZV hS (hd:=(Za h.L.slh.one (Za h.D.slh.one (Za rfl (Za rfl Zi)))))) ?_;clear hS;rintro w hS
   refine zlz<|zla (xl0 (c:=ints p.L) Zb hS) ?_;rintro v1 w ⟨hS,hv1⟩
   refine(zV (xfb 0 fd_24_0))<|(zV (xlb 5 pl_22 hS))<|zla (xap 6 (r:=p.m) (f:=ints p.L) Zb Zt hS (h.L.below hS.below) (by exact ZU _ _)) ?_;rintro v2 w ⟨hS,hv2⟩
   refine(zV (xfb 0 fd_24_0))<|zle (xsb 5 pl_22 hS (hv:=hv2.one)) ?_;clear hS;rintro w hS
   refine zlz<|zla (xl0 (c:=ints p.D) Zb hS) ?_;rintro v3 w ⟨hS,hv3⟩
   refine(zV (xfb 1 fd_24_1))<|(zV (xlb 5 pl_22 hS))<|zla (xap 7 (r:=p.d) (f:=ints p.D) Zb Zt hS (h.D.below hS.below) (by exact ZU _ _)) ?_;rintro v4 w ⟨hS,hv4⟩
   refine(zV (xfb 1 fd_24_1))<|zle (xsb 5 pl_22 hS (hv:=hv4.one)) ?_;clear hS;rintro w hS
   refine zx5<|(zP)<|zx6<|zlp (fun mm M w=>∃(fd:Int->Int) (n:Int),mm=((p.m-n).toNat)/\(0<=n)/\(n<=p.m)/\(∀k,0<=k->k<p.m->fd k=if k<n then p.D k-fx1 i k else p.D k)/\M= [(2,.pointer (some ⟨g1,0,none⟩)),(4,.slice none 0 0),(5,.bool false),(6,qU),(8,wG),(9,.int .i64 i),(10,.pointer (some ⟨g2,0,none⟩)),(11,.int .i64 n)]/\Sat w0 w [.blk g1 [vL,vD,.int .i64 p.stock,.int .i64 p.kerf,.int .i64 b],.own qU 1 22 ux1 qC,.sem (Frame.rows 3 ux1 qC (fun _=>p.m) fx1),.own wG 5 26 i (ZG vv p.stock p.kerf (b-1)),.sem (Frame.rows 3 (2*i) vv (fun _=>p.m) (gfn p (MX p wi))),.blk g2 [v2,v4,.int .i64 p.stock,.int .i64 p.kerf],.own v2 1 3 p.m (ints p.L),.own v4 1 3 p.d (ints fd)]) ⟨p.D,0,rfl,(by omega),(by omega),?_,rfl,hS⟩ ?_
   ·
    intro k k0 k1;rw [if_neg (by omega)]
   clear hS w
   rintro mm M w ⟨fd,n,rfl,n0,n1,hfd,rfl,hS⟩
   refine zx11<|(zP)<|(zP)<|(zP)<|(zV (xix (kk:=i) Zl qI))<|(zV (xlr (u:=(qC i)) pl_22 (hS.rowN 1 rfl)))<|(zV (xln Zb (xn i (by omega) (by omega))))<|(zP)<|zlt<|Ze ?_ ?_<;>intro hc
   ·
    refine zx29<|zdst [0,1,2,3,4,5,6,7] [0,1,2,3,4,5,6] 14 mx_ hS ?_;clear hS;intro w hS
    refine(zDw 0 (xfb 1 fd_24_1))<|(zDl 1 (fun w hS=>(xlb 5 pl_22 hS)))<|(zDw 2 xmv)<|(zDw 3 (xix (kk:=n) Zb hv4))<|zdl 4 (fun w hS=>(xlr (u:= .int .i64 (fd n)) pl_3 (hS.rowN 7 rfl))) ?_
    have hxi:=ZaA hp qR h0 (show i<ux1 by omega) n n0 (by omega);have hei:=hp.all n n0 (by omega);unfold Prob.each at hei;have hfi:=hfd n n0 (by omega);rw [if_neg (by omega)] at hfi
    refine(zDw 5 xmv)<|(zDw 6 xmv)<|(zDw 7 (xix (kk:=i) Zl qI))<|(zDl 8 (fun w hS=>(xlr (u:=(qC i)) pl_22 (hS.rowN 1 rfl))))<|(zDw 9 xmv)<|(zDw 10 (xix (kk:=n) Zb (xn i (by omega) (by omega))))<|(zDl 11 (fun w hS=>(xlr (u:= .int .i64 (fx1 i n)) pl_3 (show Row _ _ 1 p.m _ from(hS.rowIn (k:=i) 2 rfl (by omega) (by omega))))))<|(zDw 12 (Zp (r:=fd n-(fx1 i n))))<|(zDw 13 (xix (kk:=n) Zb hv4))<|zde 14 (xso 7 pl_3 hS (Zq _ _ _)) ?_;clear hS;rintro w hS
    refine⟨⟨fun h=>absurd h (by decide),hS.pk [0,1,2,3,4,5,6]⟩,?_⟩
    refine zdd<|zbn<|ztn<|zrg ?_
    refine(zP)<|(zV (Zh (r:=n+1)))<|(zP)<|zln<|zlq ⟨(upd fd n (fd n-(fx1 i n))),n+1,rfl,(by omega),(by omega),?_,rfl,hS⟩
    ·
     intro k k0 k1;unfold upd;by_cases e:k=n
     · rw [if_pos e,if_pos (by omega),e];omega
     · rw [if_neg e,hfd k k0 k1];by_cases e2:k<n
       · rw [if_pos e2,if_pos (by omega)]
       · rw [if_neg e2,if_neg (by omega)]
   refine zxt<|ztx<|ztx<|zbh<|ztn<|zrg<|zlv xmv ?_
   replace hS:=hS.recont 7 rfl (d:=ints (fun k=>p.D k-(fx1 i) k)) (fun k k0 k1=>by unfold ints;rw [hfd k k0 (by omega),if_pos (by omega)])
   refine(zV (xls 5 ZV hS))<|(zV (xfb 4 fd_26_1))<|(zV (xlb 0 pl_3 hS))<|(zV (Zp (r:=b-1)))<|zlv (xany (v:= .agg #[v2,v4,.int .i64 p.stock,.int .i64 p.kerf,.int .i64 (b-1)]) (hr:=by obtain⟨_,_,_,_,rfl,_⟩:=hv2;obtain⟨_,_,_,_,rfl,_⟩:=hv4;kernel_rfl)) ?_
   refine zla (xli (n:=1) (len:=1) (pv:= [(0,.agg #[v2,v4,.int .i64 p.stock,.int .i64 p.kerf,.int .i64 (b-1)])]) (cs:= [v2,v4,.int .i64 p.stock,.int .i64 p.kerf,.int .i64 (b-1)]) (c:=ZG (pr2 v2 v4) p.stock p.kerf (b-1)) Zam ZiC hS (hf:=by obtain⟨_,_,_,_,rfl,_⟩:=hv2;obtain⟨_,_,_,_,rfl,_⟩:=hv4;kernel_rfl)) ?_;rintro v5 w ⟨hS,hv5⟩
   refine zla (xap 3 (r:=i+1) Zam ZiC hS (hS.rowN 8 rfl) (TH _ _ _ _ _ _ _) (h1:=fun k _ _=>Ts (Zcm hv2.one hv4.one) k)) ?_;rintro v6 w ⟨hS,hv6⟩
   replace hS:=Sat.merge (l1:= [_,_,_,_]) (l2:= [_]) (l3:= [_,_]) hS (by omega)
   replace hS:=hS.rowsn 4 rfl (show _=2*i+1 by omega)
   have qW:=fun k (k0:0<=k) (k1:k<2*i+1)=>hS.slhIn 4 rfl k0 k1
   replace hS:=Sat.merge (l1:= [_,_,_,_]) (l2:= [_]) (l3:= [_]) hS (by omega)
   replace hS:=hS.rowsn 4 rfl (show _=2*i+2 by omega)
   have yz:=fun k (k0:0<=k) (k1:k<2*i+2)=>hS.slhIn 4 rfl k0 k1
   replace hS:=hS.rerows (vv':=(gsn (gsn vv (2*i) v2) (2*i+1) v4)) (ln':=fun _=>p.m) (f':=(gfn p (MX p wi))) 4 rfl (Ry hpd h0 (qR.2 i h0 (by omega)) _)
   replace hS:=hS.rowsn 4 rfl (show 2*i+2=2*(i+1) by omega)
   refine(zP)<|zx10<|(zP)<|(zV (Zh (r:=i+1)))<|(zP)<|zln<|zlq ⟨i+1,(gsn (gsn vv (2*i) v2) (2*i+1) v4),v6,rfl,(by omega),(by omega),?_,rfl,hS.pk [0,1,2,3,4]⟩
   ·
    exact hv6
  refine zx8<|(zP)<|(zP)<|(zP)<|zx1<|zf2 ⟨_,rfl,?_⟩
  have hi9:i=((MX p wi).length:Int):=by have:=qR.1;omega
  have aq:ZF p b wi:=⟨hpo,by omega,by omega,by omega,by have:=qR.1;omega⟩
  rw [Yi aq]
  subst hi9
  exact⟨_,_,by rw [ZI aq],hwG,hS.pk [3,4]⟩
  all_goals
   refine zOps ?_
   refine zlt<|zct<|zsr ?_
   refine zOps ?_
   refine zx14<|zf2 ⟨_,rfl,?_⟩
   have hno:¬ZF p b wi:=by
     rintro⟨⟨q1,q2,q3⟩,q4,⟨q5,q6⟩,q7,q8⟩
     first|omega|exact absurd (show ZE p b from⟨q1,q2,q3⟩) ‹¬ZE p b›|(rcases x9 with⟨g1,_⟩|⟨_,g1,_⟩|⟨_,_,g1,_⟩|⟨_,_,_,g1,_⟩;exact absurd q1 g1;exact absurd ⟨q5,q6⟩ g1;omega;omega)
   rw [Xg hno]
   exact⟨_,(fun _=>Value.slice none 0 0),by rw [ZC hno],slh_nil,((hS.sub (.cons _ .slnil)).addnil 5 26 (ZG (fun _=>Value.slice none 0 0) p.stock p.kerf (b-1))).addrows 3 (fun _=>Value.slice none 0 0) (fun _=>p.m) (gfn p (MX p wi))⟩
end Go.Proofs.YtkichmnjjblodaaGreat
namespace Go.Proofs.Gw
open Go Go.RowKit
variable {i:Int} {w w0:World}
inductive Tr where
  |nil
  |mk (s:Int) (vK:Value) (n:Int) (kid:Int->Tr) (vL:Value) (nl:Int) (l:Int->Int)
def Tr.s:Tr->Int| .nil=>0| .mk s _ _ _ _ _ _=>s
def Tr.vK:Tr->Value| .nil=> .slice none 0 0| .mk _ v _ _ _ _ _=>v
def Tr.n:Tr->Int| .nil=>0| .mk _ _ n _ _ _ _=>n
def Tr.kid:Tr->Int->Tr| .nil=>fun _=> .nil| .mk _ _ _ k _ _ _=>k
def Tr.vL:Tr->Value| .nil=> .slice none 0 0| .mk _ _ _ _ v _ _=>v
def Tr.nl:Tr->Int| .nil=>0| .mk _ _ _ _ _ n _=>n
def Tr.l:Tr->Int->Int| .nil=>fun _=>0| .mk _ _ _ _ _ _ l=>l
theorem Tr.ind{P:Tr->Prop}(h:∀t,(∀i,0<=i->i<t.n->P (t.kid i))->P t):∀t,P t
  | .nil=>h .nil fun i i0 i1=>by have i1':i<0:=i1;omega
  | .mk s vK n kid vL nl l=>h (.mk s vK n kid vL nl l) fun i _ _=>Tr.ind h (kid i)
def XF(S:Int->Int)(K L:Int->Value):Int->Value:=fun j=>if j%3=0 then .int .i64 (S (j/3)) else if j%3=1 then K (j/3) else L (j/3)
abbrev Yl(kid:Int->Tr):Int->Value:=XF (fun i=>(kid i).s) (fun i=>(kid i).vK) (fun i=>(kid i).vL)
theorem Zdh(S:Int->Int)(K L:Int->Value){q:Int}(h:q=3*i):∀(j:Nat) u, [Value.int .i64 (S i),K i,L i][j]? =some u->XF S K L (q+j)=u:=fun j u hu=>by
  rcases j with _|_|_|j
  · cases hu;unfold XF;rw [if_pos (by omega)];congr 2;omega
  · cases hu;unfold XF;rw [if_neg (by omega),if_pos (by omega)];congr 1;omega
  · cases hu;unfold XF;rw [if_neg (by omega),if_neg (by omega)];congr 1;omega
  · simp at hu
theorem Yk(kid:Int->Tr){q:Int}(h:q=3*i):∀(j:Nat) u, [Value.int .i64 (kid i).s,(kid i).vK,(kid i).vL][j]? =some u->Yl kid (q+j)=u:=Zdh (fun i=>(kid i).s) (fun i=>(kid i).vK) (fun i=>(kid i).vL) h
theorem U6{S:Int->Int}{K L:Int->Value}(hK:∀i,(K i).oneCell'=true)(hL:∀i,(L i).oneCell'=true)(j:Int):(XF S K L j).oneCell'=true:=by
  unfold XF
  split
  · rfl
  · split
    · exact hK _
    · exact hL _
theorem TG(kid:Int->Tr)(n:Int)(t:Tr):cat (n*3) (Yl kid) (XF (fun _=>t.s) (fun _=>t.vK) (fun _=>t.vL))=Yl (gsn kid n t):=by
  funext j
  unfold cat Yl XF gsn
  by_cases h:j<n*3
  · have h1:j/3<n:=by omega
    simp only [if_pos h,if_pos h1]
  · have h1:¬j/3<n:=by omega
    have e:(j-n*3)%3=j%3:=by omega
    simp only [if_neg h,if_neg h1,e]
def KAt(w:World):Tr->Prop
  | .nil=>True
  | .mk s vK n kid vL nl l=>(Row w vK 3 n (Yl kid)/\56*n<=140737488351232)/\∀i,0<=i->i<n->KAt w (kid i)
def LvAt(w:World):Tr->Prop
  | .nil=>True
  | .mk s vK n kid vL nl l=>(IAt w vL nl l/\Wg vL/\(-9223372036854775808<=s/\s<=9223372036854775807))/\∀i,0<=i->i<n->LvAt w (kid i)
theorem KAt.row{t:Tr}(h:KAt w t):Row w t.vK 3 t.n (Yl t.kid):=by
  cases t with
  |nil=>exact UQ _ _ _
  |mk=>exact h.1.1
theorem KAt.bd{t:Tr}(h:KAt w t):56*t.n<=140737488351232:=by
  cases t with
  |nil=>show 56*0<=_;omega
  |mk=>exact h.1.2
theorem KAt.sub{t:Tr}(h:KAt w t)(i0:0<=i)(i1:i<t.n):KAt w (t.kid i):=by
  cases t with
  |nil=>exact trivial
  |mk=>exact h.2 i i0 i1
theorem LvAt.leaf{t:Tr}(h:LvAt w t):IAt w t.vL t.nl t.l:=by
  cases t with
  |nil=>exact⟨UQ _ _ _,fun k=>by show _<=(0:Int)/\(0:Int)<=_;omega⟩
  |mk=>exact h.1.1
theorem LvAt.room{t:Tr}(h:LvAt w t):Wg t.vL:=by
  cases t with
  |nil=>intro a len cap e;cases e;exact Nat.le_refl _
  |mk=>exact h.1.2.1
theorem LvAt.s{w:World}{t:Tr}(h:LvAt w t): -9223372036854775808<=t.s/\t.s<=9223372036854775807:=by
  cases t with
  |nil=>show _<=(0:Int)/\(0:Int)<=_;omega
  |mk=>exact h.1.2.2
theorem LvAt.sub{t:Tr}(h:LvAt w t)(i0:0<=i)(i1:i<t.n):LvAt w (t.kid i):=by
  cases t with
  |nil=>exact trivial
  |mk=>exact h.2 i i0 i1
theorem KAt.below{w w':World}(hb:Below w.heap.size w w'):∀{t:Tr},KAt w t->KAt w' t
  | .nil,_=>trivial
  | .mk s vK n kid vL nl l,h=>⟨⟨h.1.1.below hb,h.1.2⟩,fun i i0 i1=>KAt.below hb (h.2 i i0 i1)⟩
theorem LvAt.below{w w':World}(hb:Below w.heap.size w w'):∀{t:Tr},LvAt w t->LvAt w' t
  | .nil,_=>trivial
  | .mk s vK n kid vL nl l,h=>⟨⟨h.1.1.below hb,h.1.2.1,h.1.2.2⟩,fun i i0 i1=>LvAt.below hb (h.2 i i0 i1)⟩
def VB(f:Int->Int):Nat->Int
  |0=>1
  |k+1=>IntKind.i64.wrap (VB f k+f k)
def Ve(f:Int->Int):Nat->Int
  |0=>0
  |k+1=>max (Ve f k) (f k)
theorem Ua(f:Int->Int)(h:0<=i):VB f (i+1).toNat=IntKind.i64.wrap (VB f i.toNat+f i):=by
  rw [show(i+1).toNat=i.toNat+1 by omega]
  simp only [VB]
  rw [show((i.toNat:Nat):Int)=i by omega]
theorem Uh(f:Int->Int)(h:0<=i):Ve f (i+1).toNat=max (Ve f i.toNat) (f i):=by
  rw [show(i+1).toNat=i.toNat+1 by omega]
  simp only [Ve]
  rw [show((i.toNat:Nat):Int)=i by omega]
theorem Vm{f g:Int->Int}:∀{k:Nat},(∀i,0<=i->i<(k:Int)->f i=g i)->VB f k=VB g k
  |0,_=>rfl
  |k+1,h=>by simp only [VB];rw [Vm (k:=k) fun i a b=>h i a (by omega),h k (by omega) (by omega)]
theorem Vt{f g:Int->Int}:∀{k:Nat},(∀i,0<=i->i<(k:Int)->f i=g i)->Ve f k=Ve g k
  |0,_=>rfl
  |k+1,h=>by simp only [Ve];rw [Vt (k:=k) fun i a b=>h i a (by omega),h k (by omega) (by omega)]
def Tr.nodes:Tr->Int| .nil=>1| .mk _ _ n kid _ _ _=>VB (fun i=>(kid i).nodes) n.toNat
def Tr.depth:Tr->Int| .nil=>IntKind.i64.wrap (0+1)| .mk _ _ n kid _ _ _=>IntKind.i64.wrap (Ve (fun i=>(kid i).depth) n.toNat+1)
theorem Tr.nodes_eq(t:Tr):t.nodes=VB (fun i=>(t.kid i).nodes) t.n.toNat:=by cases t<;>rfl
theorem Tr.depth_eq(t:Tr):t.depth=IntKind.i64.wrap (Ve (fun i=>(t.kid i).depth) t.n.toNat+1):=by cases t<;>rfl
theorem Zcd{P:Program}{L:List (Nat×Value)}{w:World}{o:Oper}{x y:Operand}{T T':TypeId}{m n:Int}(ho:o.op= .binOp .add T x y T':=by exact rfl)(hx:evL L x=some (.int .i64 m):=by exact rfl)(hy:evL L y=some (.int .i64 n):=by exact rfl):Runs P L w o (.value (.int .i64 (IntKind.i64.wrap (m+n)))) w:=fun ρ h=>by
  simp [execOp,ho,h _ _ hx,h _ _ hy,go_sem,Op.intArith]
def Zo(x:Int):Prop:= -1073741824<=x/\x<=1073741824
def OkN(t:Tr):Prop:=Zo t.s/\t.n<=100/\t.nl<=40/\(t.n=0\/t.nl=0)/\(t.n=0->t.s=0)/\∀k,0<=k->k<t.nl->Zo (t.l k)
def Tr.ok:Tr->Prop| .nil=>OkN .nil| .mk s vK n kid vL nl l=>OkN (.mk s vK n kid vL nl l)/\∀i,0<=i->i<n->(kid i).ok
theorem Tr.ok_iff(t:Tr):t.ok↔OkN t/\∀i,0<=i->i<t.n->(t.kid i).ok:=by
  cases t with
  |nil=>exact⟨fun h=>⟨h,fun i i0 i1=>by have i1':i<0:=i1;omega⟩,fun h=>h.1⟩
  |mk=>rfl
def Yd(t:Tr):Prop:=t.ok/\t.nodes<=2000/\t.depth<=40
def Sim:Tr->Tr->Prop
  | .nil,t=>t.s=0/\t.n=0/\t.vL= .slice none 0 0/\t.nl=0/\t.l=fun _=>0
  | .mk s vK n kid vL nl l,t=>t.s=s/\t.n=n/\t.vL=vL/\t.nl=nl/\t.l=l/\∀i,0<=i->i<n->Sim (kid i) (t.kid i)
theorem Sim.of{t u:Tr}(h:Sim t u):u.s=t.s/\u.n=t.n/\u.vL=t.vL/\u.nl=t.nl/\u.l=t.l/\∀i,0<=i->i<t.n->Sim (t.kid i) (u.kid i):=by
  cases t with
  |nil=>obtain⟨h1,h2,h3,h4,h5⟩:=h;exact⟨h1,h2,h3,h4,h5,fun i i0 i1=>by have i1':i<0:=i1;omega⟩
  |mk=>exact h
theorem Sim.mk'{t u:Tr}(h1:u.s=t.s)(h2:u.n=t.n)(h3:u.vL=t.vL)(h4:u.nl=t.nl)(h5:u.l=t.l)(h6:∀i,0<=i->i<t.n->Sim (t.kid i) (u.kid i)):Sim t u:=by
  cases t with
  |nil=>exact⟨h1,h2,h3,h4,h5⟩
  |mk=>exact⟨h1,h2,h3,h4,h5,h6⟩
theorem Sim.nodes:∀t:Tr,∀{u:Tr},Sim t u->u.nodes=t.nodes:=Tr.ind fun t ih u h=>by
  obtain⟨_,h2,_,_,_,h6⟩:=h.of
  rw [u.nodes_eq,t.nodes_eq,h2]
  exact Vm fun i i0 i1=>ih i i0 (by omega) (h6 i i0 (by omega))
theorem Sim.depth:∀t:Tr,∀{u:Tr},Sim t u->u.depth=t.depth:=Tr.ind fun t ih u h=>by
  obtain⟨_,h2,_,_,_,h6⟩:=h.of
  rw [u.depth_eq,t.depth_eq,h2]
  rw [Vt fun i i0 i1=>ih i i0 (by omega) (h6 i i0 (by omega))]
theorem Sim.ok:∀t:Tr,∀{u:Tr},Sim t u->(u.ok↔t.ok):=Tr.ind fun t ih u h=>by
  obtain⟨h1,h2,_,h4,h5,h6⟩:=h.of
  rw [u.ok_iff,t.ok_iff]
  have e:OkN u↔OkN t:=by unfold OkN;rw [h1,h2,h4,h5]
  rw [e,h2]
  exact⟨fun⟨a,b⟩=>⟨a,fun i i0 i1=>(ih i i0 i1 (h6 i i0 i1)).1 (b i i0 i1)⟩,fun⟨a,b⟩=>⟨a,fun i i0 i1=>(ih i i0 i1 (h6 i i0 i1)).2 (b i i0 i1)⟩⟩
theorem Sim.vat:∀t:Tr,∀{u:Tr},Sim t u->LvAt w t->LvAt w u:=Tr.ind fun t ih u h hv=>by
  obtain⟨h1,h2,h3,h4,h5,h6⟩:=h.of
  have g1:=hv.leaf;have g2:=hv.room;have g3:=hv.s
  rw [<-h3,<-h4,<-h5] at g1
  rw [<-h3] at g2
  rw [<-h1] at g3
  cases u with
  |nil=>exact trivial
  |mk s vK n kid vL nl l=>exact⟨⟨g1,g2,g3⟩,fun i i0 i1=>ih i i0 (by have h2':n=t.n:=h2;omega) (h6 i i0 (by have h2':n=t.n:=h2;omega)) (hv.sub i0 (by have h2':n=t.n:=h2;omega))⟩
theorem Sim.valid{t u:Tr}(h:Sim t u):Yd u↔Yd t:=by unfold Yd;rw [h.ok,h.nodes,h.depth]
def Frame.all(n:Int)(F:Int->Frame):Frame where
  holds w:=(∀i,0<=i->i<n->(F i).holds w)/\∀i j,0<=i->i<n->0<=j->j<n->i≠j->∀g,(F i).has g->¬(F j).has g
  has g:=∃i,0<=i/\i<n/\(F i).has g
  keep h hk:=⟨fun i i0 i1=>(F i).keep (h.1 i i0 i1) fun g hg=>hk g ⟨i,i0,i1,hg⟩,h.2⟩
  lt h hg:=by obtain⟨i,i0,i1,hg⟩:=hg;exact(F i).lt (h.1 i i0 i1) hg
def Tr.frame(E:TypeId):Tr->Frame| .nil=>Frame.bun []| .mk s vK n kid vL nl l=>Frame.bun [.own vK 3 E n (Yl kid),.sem (Frame.all n fun i=>(kid i).frame E)]
theorem Tr.frame_kat{E:TypeId}:∀t:Tr,∀{u:Tr},Sim t u->KAt w0 t->(u.frame E).holds w->KAt w u:=Tr.ind fun t ih u h hk hf=>by
  obtain⟨h1,h2,h3,h4,h5,h6⟩:=h.of
  have hbd:=hk.bd
  cases u with
  |nil=>exact trivial
  | mk s vK n kid vL nl l=>
    have hf':(Frame.bun [.own vK 3 E n (Yl kid),.sem (Frame.all n fun i=>(kid i).frame E)]).holds w:=hf
    have g1:=hf'.1 _ (List.mem_cons_self ..)
    have g2:=hf'.1 (.sem _) (List.mem_cons_of_mem _ (List.mem_cons_self ..))
    have h2':n=t.n:=h2
    exact⟨⟨g1.row,by omega⟩,fun i i0 i1=>ih i i0 (by omega) (h6 i i0 (by omega)) (hk.sub i0 (by omega)) (g2.1 i i0 i1)⟩
theorem Sat.addall{l:List Ent}(h:Sat w0 w l)(F:Int->Frame):Sat w0 w (l++ [.sem (Frame.all 0 F)]):=by
  refine h.comp (m:= [.sem (Frame.all 0 F)]) ⟨Below.refl _ _,?_,?_,List.pairwise_singleton _ _⟩
  · intro e he;obtain rfl:=List.mem_singleton.1 he;exact⟨fun i i0 i1=>by omega,fun i j i0 i1=>by omega⟩
  · intro e he g hg;obtain rfl:=List.mem_singleton.1 he;obtain⟨i,i0,i1,_⟩:=hg;omega
theorem Sat.allsnoc {l1 l2 l3:List Ent} {n:Int} {F:Int->Frame} {G:Frame} (h:Sat w0 w (l1++ .sem (Frame.all n F)::(l2++ .sem G::l3))) (hn:0<=n) {H:Int->Frame} (hH:∀i,0<=i->i<n->H i=F i) (hG:H n=G):Sat w0 w (l1++ .sem (Frame.all (n+1) H)::(l2++l3)):=by
  have hs:=List.pairwise_append.1 h.sep
  have hs2:=List.pairwise_cons.1 hs.2.1
  have hs3:=List.pairwise_append.1 hs2.2
  have hs4:=List.pairwise_cons.1 hs3.2.1
  have hF:=h.holds (.sem (Frame.all n F)) (by simp)
  have hg:=h.holds (.sem G) (by simp)
  have hAG:∀k,(∃i,0<=i/\i<n/\(F i).has k)->¬G.has k:=fun k hk hk'=>hs2.1 (.sem G) (by simp) k hk hk'
  have hH1:∀i,0<=i->i<n+1->H i=F i/\i<n\/H i=G/\i=n:=fun i i0 i1=>by
    by_cases e:i<n
    · exact .inl ⟨hH i i0 e,e⟩
    · obtain rfl:i=n:=by omega
      exact .inr ⟨hG,rfl⟩
  have cP:∀k,(Frame.all (n+1) H).has k->(Frame.all n F).has k\/G.has k:=fun k ⟨i,i0,i1,hk⟩=>by
    rcases hH1 i i0 i1 with⟨e,e1⟩|⟨e,e1⟩
    · rw [e] at hk;exact .inl ⟨i,i0,e1,hk⟩
    · rw [e] at hk;exact .inr hk
  refine⟨h.below,fun e he=> ?_,fun e he g hg'=> ?_,List.pairwise_append.2 ⟨hs.1,List.pairwise_cons.2 ⟨fun e he g hg' hg2=> ?_,List.pairwise_append.2 ⟨hs3.1,hs4.2,fun d hd e he=>hs3.2.2 d hd e (by simp [he])⟩⟩,fun d hd e he=> ?_⟩⟩
  · rcases List.mem_append.1 he with he|he
    · exact h.holds e (by simp [he])
    · rcases List.mem_cons.1 he with rfl|he
      · refine⟨fun i i0 i1=> ?_,fun i j i0 i1 j0 j1 hij k hk hk'=> ?_⟩
        · rcases hH1 i i0 i1 with⟨e,e1⟩|⟨e,e1⟩
          · rw [e];exact hF.1 i i0 e1
          · rw [e];exact hg
        · rcases hH1 i i0 i1 with⟨e,e1⟩|⟨e,e1⟩<;>rcases hH1 j j0 j1 with⟨d,d1⟩|⟨d,d1⟩<;>rw [e] at hk<;>rw [d] at hk'
          · exact hF.2 i j i0 e1 j0 d1 hij k hk hk'
          · exact hAG k ⟨i,i0,e1,hk⟩ hk'
          · exact hAG k ⟨j,j0,d1,hk'⟩ hk
          · omega
      · rcases List.mem_append.1 he with he|he
        · exact h.holds e (by simp [he])
        · exact h.holds e (by simp [he])
  · rcases List.mem_append.1 he with he|he
    · exact h.new e (by simp [he]) g hg'
    · rcases List.mem_cons.1 he with rfl|he
      · rcases cP g hg' with hg'|hg'
        · exact h.new (.sem (Frame.all n F)) (by simp) g hg'
        · exact h.new (.sem G) (by simp) g hg'
      · rcases List.mem_append.1 he with he|he
        · exact h.new e (by simp [he]) g hg'
        · exact h.new e (by simp [he]) g hg'
  · rcases cP g hg' with hg'|hg'
    · rcases List.mem_append.1 he with he|he
      · exact hs2.1 e (by simp [he]) g hg' hg2
      · exact hs2.1 e (by simp [he]) g hg' hg2
    · rcases List.mem_append.1 he with he|he
      · exact hs3.2.2 e he (.sem G) (by simp) g hg2 hg'
      · exact hs4.1 e he g hg' hg2
  · intro g hg1 hg2
    rcases List.mem_cons.1 he with rfl|he
    · rcases cP g hg2 with hg2|hg2
      · exact hs.2.2 d hd (.sem (Frame.all n F)) (by simp) g hg1 hg2
      · exact hs.2.2 d hd (.sem G) (by simp) g hg1 hg2
    · rcases List.mem_append.1 he with he|he
      · exact hs.2.2 d hd e (by simp [he]) g hg1 hg2
      · exact hs.2.2 d hd e (by simp [he]) g hg1 hg2
theorem Sat.tree{l:List Ent}{E:TypeId}{v:Value}{n:Int}{kid:Int->Tr}(h:Sat w0 w (l++ [.own v 3 E n (Yl kid),.sem (Frame.all n fun i=>(kid i).frame E)]))(s:Int)(vL:Value)(nl:Int)(f:Int->Int):Sat w0 w (l++ [.sem ((Tr.mk s v n kid vL nl f).frame E)]):=by
  exact h.bundle (l2:= [.own v 3 E n (Yl kid),.sem (Frame.all n fun i=>(kid i).frame E)])
end Go.Proofs.Gw
namespace Go.Proofs.YtkichmnjjblodaaGreat
open Go Go.RowKit Go.Proofs.Gw
theorem ZfA:Zc Tryz.prog 100=true:=by kernel_rfl
theorem ZiO:Zc Tryz.prog 49=true:=by kernel_rfl
theorem ZiF:Zc Tryz.prog 83=true:=by kernel_rfl
theorem ZiD:Zc Tryz.prog 99=true:=by kernel_rfl
theorem We:ZY Tryz.prog 54=some (.agg #[.int .i64 0,.slice none 0 0,.slice none 0 0],3,56):=by kernel_rfl
theorem fd_45_1:Zs Tryz.prog 45 1=some 1:=by kernel_rfl
theorem fd_54_1:Zs Tryz.prog 54 1=some 1:=by kernel_rfl
theorem YX:ZN Tryz.prog 43=true:=by kernel_rfl
theorem Xs:ZN Tryz.prog 52=true:=by kernel_rfl
theorem YW:ZK Tryz.prog 43=some (45,3):=by kernel_rfl
theorem YI:ZK Tryz.prog 52=some (54,3):=by kernel_rfl
theorem st_45:Zz Tryz.prog 45=some 3:=by kernel_rfl
theorem st_54:Zz Tryz.prog 54=some 3:=by kernel_rfl
theorem ZhZ:∀(t:Tr) (w0:World) (hK:KAt w0 t) (hV:LvAt w0 t),
    Calls Tryz.prog 99 [.agg #[.int .i64 t.s,t.vK,t.vL]].toArray w0 fun e w=>∃v,e= .returned v/\v= .int .i64 t.nodes/\Sat w0 w []:=by
  refine Tr.ind fun t ih=> ?_
  intro w0 hK hV
  have hn:=hK.row.slh.n0;have hn1:=hK.row.slh.n1
  refine zenG Tryz.func99 Tryz.ntmps99 fun w hS=> ?_
  refine zsr<|zla (xbx (cs:= [_,_,_]) hS) ?_;rintro _ w ⟨g1,rfl,hS⟩
  refine(zP)<|zlz<|(zP)<|zx5<|(zV (xfb 1 fd_54_1))<|(zV (xlb 0 Xs hS))<|(zV (xln YI (hK).row.slh))<|(zP)<|zx6<|zlp (fun mm M w=>∃(s:Int) (i:Int),mm=((t.n-i).toNat)/\(0<=i)/\(i<=t.n)/\(s=VB (fun i=>(t.kid i).nodes) i.toNat)/\M= [(2,.int .i64 0),(3,.int .i64 s),(7,t.vK),(8,.int .i64 t.n),(9,.int .i64 i)]/\Sat w0 w [.blk g1 [.int .i64 t.s,t.vK,t.vL]]) ⟨1,0,rfl,(by omega),(by omega),?_,rfl,hS⟩ ?_
  ·
   rfl
  clear hS w
  rintro mm M w ⟨s,i,rfl,h0,h1,hs9,rfl,hS⟩
  refine zsr<|(zP)<|zx7<|Ze ?_ ?_<;>intro hc
  ·
   refine zx3<|(zV (xix (kk:=3*i) YI (hK).row.slh))<|(zV (xlw (cs:= [.int .i64 ((t.kid i).s),(t.kid i).vK,(t.kid i).vL]) st_54 ((hK).row.below hS.below) (Yk (q:=3*i) (i:=i) _ (by omega))))<|zla (xal (cs:= [_,_,_]) We hS) ?_;rintro _ w ⟨g2,rfl,hS⟩
   refine zle (xsw 1 st_54 hS (hd:=(Za rfl (Za ((hK).sub (i:=i) (by omega) (by omega)).row.slh.one (Za ((hV).sub (i:=i) (by omega) (by omega)).leaf.row.slh.one Zi))))) ?_;clear hS;rintro w hS
   refine zlt<|zrg<|(zP)<|(zV (xls 1 st_54 hS))<|zlc (xc0 ZiD) (ih i (by omega) (by omega) w (KAt.below hS.below ((hK).sub (i:=i) (by omega) (by omega))) (LvAt.below hS.below ((hV).sub (i:=i) (by omega) (by omega)))) ?_;rintro _ w ⟨rfl,hS'⟩
   replace hS:=hS.cmp hS';clear hS'
   refine(zV Zcd)<|(zP)<|zx10<|(zV (Zh (r:=i+1)))<|(zP)<|zln<|zlq ⟨(IntKind.i64.wrap (s+((t.kid i).nodes))),i+1,rfl,(by omega),(by omega),?_,rfl,hS.pk [0]⟩
   ·
    rw [Ua _ h0,<-hs9]
  refine zx8<|(zP)<|(zP)<|zx1<|zf1 ⟨_,rfl,?_⟩
  obtain rfl:i=t.n:=by omega
  exact⟨by rw [t.nodes_eq,<-hs9],hS.nl⟩
theorem ZfQ:∀(t:Tr) (w0:World) (hK:KAt w0 t) (hV:LvAt w0 t),
    Calls Tryz.prog 49 [.agg #[.int .i64 t.s,t.vK,t.vL]].toArray w0 fun e w=>∃v,e= .returned v/\v= .int .i64 t.nodes/\Sat w0 w []:=by
  refine Tr.ind fun t ih=> ?_
  intro w0 hK hV
  have hn:=hK.row.slh.n0;have hn1:=hK.row.slh.n1
  refine zenG Tryz.func49 Tryz.ntmps49 fun w hS=> ?_
  refine zsr<|zla (xbx (cs:= [_,_,_]) hS) ?_;rintro _ w ⟨g1,rfl,hS⟩
  refine(zP)<|zlz<|(zP)<|zx5<|(zP)<|zx6<|zlp (fun mm M w=>∃(s:Int) (i:Int),mm=((t.n-i).toNat)/\(0<=i)/\(i<=t.n)/\(s=VB (fun i=>(t.kid i).nodes) i.toNat)/\M= [(1,.pointer (some ⟨g1,0,none⟩)),(2,.int .i64 0),(3,.int .i64 s),(4,.int .i64 i)]/\Sat w0 w [.blk g1 [.int .i64 t.s,t.vK,t.vL]]) ⟨1,0,rfl,(by omega),(by omega),?_,rfl,hS⟩ ?_
  ·
   rfl
  clear hS w
  rintro mm M w ⟨s,i,rfl,h0,h1,hs9,rfl,hS⟩
  refine zx11<|(zP)<|(zV (xfb 1 fd_45_1))<|(zV (xlb 0 YX hS))<|(zV (xln YW (hK).row.slh))<|(zP)<|zlt<|Ze ?_ ?_<;>intro hc
  ·
   refine zsk<|ztn<|zsq<|zbk<|zrg<|(zP)<|(zV (xfb 1 fd_45_1))<|(zV (xlb 0 YX hS))<|(zP)<|(zV (xix (kk:=3*i) YW (hK).row.slh))<|(zV (xlw (cs:= [.int .i64 ((t.kid i).s),(t.kid i).vK,(t.kid i).vL]) st_45 ((hK).row.below hS.below) (Yk (q:=3*i) (i:=i) _ (by omega))))<|zlc (xc0 ZiO) (ih i (by omega) (by omega) w (KAt.below hS.below ((hK).sub (i:=i) (by omega) (by omega))) (LvAt.below hS.below ((hV).sub (i:=i) (by omega) (by omega)))) ?_;rintro _ w ⟨rfl,hS'⟩
   replace hS:=hS.cmp hS';clear hS'
   refine(zV Zcd)<|(zP)<|zx10<|(zP)<|(zV (Zh (r:=i+1)))<|(zP)<|zln<|zlq ⟨(IntKind.i64.wrap (s+((t.kid i).nodes))),i+1,rfl,(by omega),(by omega),?_,rfl,hS⟩
   ·
    rw [Ua _ h0,<-hs9]
  refine zx8<|(zP)<|(zP)<|zx1<|zf1 ⟨_,rfl,?_⟩
  obtain rfl:i=t.n:=by omega
  exact⟨by rw [t.nodes_eq,<-hs9],hS.nl⟩
theorem Zib:∀(t:Tr) (w0:World) (hK:KAt w0 t) (hV:LvAt w0 t),
    Calls Tryz.prog 100 [.agg #[.int .i64 t.s,t.vK,t.vL]].toArray w0 fun e w=>∃v,e= .returned v/\v= .int .i64 t.depth/\Sat w0 w []:=by
  refine Tr.ind fun t ih=> ?_
  intro w0 hK hV
  have hn:=hK.row.slh.n0;have hn1:=hK.row.slh.n1
  refine zenG Tryz.func100 Tryz.ntmps100 fun w hS=> ?_
  refine zsr<|zla (xbx (cs:= [_,_,_]) hS) ?_;rintro _ w ⟨g1,rfl,hS⟩
  refine(zP)<|zlz<|(zP)<|zx5<|(zV (xfb 1 fd_54_1))<|(zV (xlb 0 Xs hS))<|(zV (xln YI (hK).row.slh))<|(zP)<|zx6<|zlp (fun mm M w=>∃(s:Int) (i:Int),mm=((t.n-i).toNat)/\(0<=i)/\(i<=t.n)/\(s=Ve (fun i=>(t.kid i).depth) i.toNat)/\M= [(2,.int .i64 0),(3,.int .i64 s),(7,t.vK),(8,.int .i64 t.n),(9,.int .i64 i)]/\Sat w0 w [.blk g1 [.int .i64 t.s,t.vK,t.vL]]) ⟨0,0,rfl,(by omega),(by omega),?_,rfl,hS⟩ ?_
  ·
   rfl
  clear hS w
  rintro mm M w ⟨s,i,rfl,h0,h1,hs9,rfl,hS⟩
  refine zsr<|(zP)<|zx7<|Ze ?_ ?_<;>intro hc
  ·
   refine zx3<|(zV (xix (kk:=3*i) YI (hK).row.slh))<|(zV (xlw (cs:= [.int .i64 ((t.kid i).s),(t.kid i).vK,(t.kid i).vL]) st_54 ((hK).row.below hS.below) (Yk (q:=3*i) (i:=i) _ (by omega))))<|zla (xal (cs:= [_,_,_]) We hS) ?_;rintro _ w ⟨g2,rfl,hS⟩
   refine zle (xsw 1 st_54 hS (hd:=(Za rfl (Za ((hK).sub (i:=i) (by omega) (by omega)).row.slh.one (Za ((hV).sub (i:=i) (by omega) (by omega)).leaf.row.slh.one Zi))))) ?_;clear hS;rintro w hS
   refine zlt<|zrg<|(zP)<|(zV (xls 1 st_54 hS))<|zlc (xc0 ZfA) (ih i (by omega) (by omega) w (KAt.below hS.below ((hK).sub (i:=i) (by omega) (by omega))) (LvAt.below hS.below ((hV).sub (i:=i) (by omega) (by omega)))) ?_;rintro _ w ⟨rfl,hS'⟩
   replace hS:=hS.cmp hS';clear hS'
   refine(zV (Zbt (r:=(max s ((t.kid i).depth)))))<|(zP)<|zx10<|(zV (Zh (r:=i+1)))<|(zP)<|zln<|zlq ⟨(max s ((t.kid i).depth)),i+1,rfl,(by omega),(by omega),?_,rfl,hS.pk [0]⟩
   ·
    rw [Uh _ h0,<-hs9]
  refine zx8<|(zP)<|(zV Zcd)<|(zP)<|zx1<|zf1 ⟨_,rfl,?_⟩
  obtain rfl:i=t.n:=by omega
  exact⟨by rw [t.depth_eq,<-hs9],hS.nl⟩
theorem ZfS:∀(t:Tr) (w0:World) (hK:KAt w0 t) (hV:LvAt w0 t),
    Calls Tryz.prog 83 [.agg #[.int .i64 t.s,t.vK,t.vL]].toArray w0 fun e w=>∃v,e= .returned v/\v= .int .i64 t.depth/\Sat w0 w []:=by
  refine Tr.ind fun t ih=> ?_
  intro w0 hK hV
  have hn:=hK.row.slh.n0;have hn1:=hK.row.slh.n1
  refine zenG Tryz.func83 Tryz.ntmps83 fun w hS=> ?_
  refine zsr<|zla (xbx (cs:= [_,_,_]) hS) ?_;rintro _ w ⟨g1,rfl,hS⟩
  refine(zP)<|zlz<|(zP)<|zx5<|(zP)<|zx6<|zlp (fun mm M w=>∃(s:Int) (i:Int),mm=((t.n-i).toNat)/\(0<=i)/\(i<=t.n)/\(s=Ve (fun i=>(t.kid i).depth) i.toNat)/\M= [(1,.pointer (some ⟨g1,0,none⟩)),(2,.int .i64 0),(3,.int .i64 s),(4,.int .i64 i)]/\Sat w0 w [.blk g1 [.int .i64 t.s,t.vK,t.vL]]) ⟨0,0,rfl,(by omega),(by omega),?_,rfl,hS⟩ ?_
  ·
   rfl
  clear hS w
  rintro mm M w ⟨s,i,rfl,h0,h1,hs9,rfl,hS⟩
  refine zx11<|(zP)<|(zV (xfb 1 fd_45_1))<|(zV (xlb 0 YX hS))<|(zV (xln YW (hK).row.slh))<|(zP)<|zlt<|Ze ?_ ?_<;>intro hc
  ·
   refine zsk<|ztn<|zsq<|zbk<|zrg<|(zP)<|(zV (xfb 1 fd_45_1))<|(zV (xlb 0 YX hS))<|(zP)<|(zV (xix (kk:=3*i) YW (hK).row.slh))<|(zV (xlw (cs:= [.int .i64 ((t.kid i).s),(t.kid i).vK,(t.kid i).vL]) st_45 ((hK).row.below hS.below) (Yk (q:=3*i) (i:=i) _ (by omega))))<|zlc (xc0 ZiF) (ih i (by omega) (by omega) w (KAt.below hS.below ((hK).sub (i:=i) (by omega) (by omega))) (LvAt.below hS.below ((hV).sub (i:=i) (by omega) (by omega)))) ?_;rintro _ w ⟨rfl,hS'⟩
   replace hS:=hS.cmp hS';clear hS'
   refine(zV (Zbt (r:=(max s ((t.kid i).depth)))))<|(zP)<|zx10<|(zP)<|(zV (Zh (r:=i+1)))<|(zP)<|zln<|zlq ⟨(max s ((t.kid i).depth)),i+1,rfl,(by omega),(by omega),?_,rfl,hS⟩
   ·
    rw [Uh _ h0,<-hs9]
  refine zx8<|(zP)<|(zV Zcd)<|(zP)<|zx1<|zf1 ⟨_,rfl,?_⟩
  obtain rfl:i=t.n:=by omega
  exact⟨by rw [t.depth_eq,<-hs9],hS.nl⟩
end Go.Proofs.YtkichmnjjblodaaGreat
namespace Go.Proofs.YtkichmnjjblodaaGreat
open Go Go.RowKit Go.Proofs.Gw
variable {x:Int}
theorem Zfp:Zc Tryz.prog 175=true:=by kernel_rfl
theorem Zkx:Zc Tryz.prog 176=true:=by kernel_rfl
theorem fd_54_0:Zs Tryz.prog 54 0=some 0:=by kernel_rfl
theorem fd_54_2:Zs Tryz.prog 54 2=some 2:=by kernel_rfl
theorem RL(w0:World):
    Calls Tryz.prog 175 [.int .i64 x].toArray w0 fun e w=>∃v,e= .returned v/\v=B (Zo x)/\Sat w0 w []:=by
  refine zenG Tryz.func175 Tryz.ntmps175 fun w hS=> ?_
  refine zsr<|(zP)<|zlz<|(zP)<|(zP)<|(zP)<|zlb 5 ?_ ?_<;>intro hc
  ·
   refine zs4 ?_
   refine zx1<|zf1 ⟨_,rfl,?_⟩
   exact⟨Zm (by unfold Zo;omega),hS⟩
  refine(zO)<|(zO)<|(zP)<|(zP)<|zx1<|zf1 ⟨_,rfl,?_⟩
  exact⟨Zf (by unfold Zo;omega),hS⟩
theorem Ww(w0:World):
    Calls Tryz.prog 120 [.int .i64 x].toArray w0 fun e w=>∃v,e= .returned v/\v=B (Zo x)/\Sat w0 w []:=by
  refine zenG Tryz.func120 Tryz.ntmps120 fun w hS=> ?_
  refine zsr<|(zP)<|zlz<|(zP)<|(zP)<|(zP)<|zlb 5 ?_ ?_<;>intro hc
  ·
   refine zs4 ?_
   refine zx1<|zf1 ⟨_,rfl,?_⟩
   exact⟨Zm (by unfold Zo;omega),hS⟩
  refine(zO)<|(zO)<|(zP)<|(zP)<|zx1<|zf1 ⟨_,rfl,?_⟩
  exact⟨Zf (by unfold Zo;omega),hS⟩
theorem Zlo(w0:World):
    Calls Tryz.prog 176 [.int .i64 x].toArray w0 fun e w=>∃v,e= .returned v/\v=B (¬Zo x)/\Sat w0 w []:=by
  refine zenG Tryz.func176 Tryz.ntmps176 fun w hS=> ?_
  refine zsr<|(zP)<|zlz<|(zP)<|zlc (xc0 Zfp) (RL (x:=x) w) ?_;rintro _ w ⟨rfl,hS'⟩
  replace hS:=hS.cmp hS';clear hS'
  refine(zP)<|(zP)<|zx1<|zf1 ⟨_,rfl,?_⟩
  exact⟨rfl,hS⟩
theorem Zlu{v:Value}{n:Int}{f:Int->Int}(w0:World)(hR:Row w0 v 1 n (ints f)):
    Calls Tryz.prog 159 [v,.func (.func 176) #[] #[]].toArray w0 fun e w=>∃v,e= .returned v/\∃r:Int,v= .int .i64 r/\((r= -1/\∀k,0<=k->k<n->¬(¬Zo (f k)))\/(0<=r/\r<n/\(¬Zo (f r))))/\Sat w0 w []:=by
  have hn:=hR.slh.n0;have hn1:=hR.slh.n1
  refine zenG Tryz.func159 Tryz.ntmps159 fun w hS=> ?_
  refine zsr<|(zP)<|zx5<|(zP)<|(zV (xln Zb hR.slh))<|(zP)<|zx6<|zlp (fun mm M w=>∃(i:Int),mm=((n-i).toNat)/\(0<=i)/\(i<=n)/\(∀k,0<=k->k<i->¬(¬Zo (f k)))/\M= [(0,v),(1,.func (.func 176) #[] #[]),(7,.int .i64 n),(8,.int .i64 i)]/\Sat w0 w []) ⟨0,rfl,(by omega),(by omega),?_,rfl,hS⟩ ?_
  ·
   intro k h0 h1;omega
  clear hS w
  rintro mm M w ⟨i,rfl,h0,h1,qa,rfl,hS⟩
  refine zsr<|(zP)<|zx7<|Ze ?_ ?_<;>intro hc
  ·
   refine zx3<|(zP)<|(zP)<|zlz<|(zP)<|(zP)<|(zP)<|(zV (xix (kk:=i) Zb hR.slh))<|(zV (xlr (u:= .int .i64 (f i)) pl_3 (hR.below hS.below)))<|zlc (xc0 Zkx) (Zlo (x:=(f i)) w) ?_;rintro _ w ⟨rfl,hS'⟩
   replace hS:=hS.cmp hS';clear hS'
   refine zlt<|Ze ?_ ?_<;>intro hc
   ·
    refine zsr<|(zP)<|(zP)<|zx2<|zf1 ⟨_,rfl,?_⟩
    exact⟨i,rfl,.inr ⟨by omega,by omega,‹¬Zo (f i)›⟩,hS⟩
   refine zx4<|(zV (Zh (r:=i+1)))<|(zP)<|zln<|zlq ⟨i+1,rfl,(by omega),(by omega),?_,rfl,hS⟩
   ·
    intro k h0' h1';rcases Int.lt_or_eq_of_le (show k<=i by omega) with hk|hk;exact qa k h0' hk;rw [hk];assumption
  refine zx8<|(zP)<|zx1<|zf1 ⟨_,rfl,?_⟩
  exact⟨-1,rfl,.inl ⟨rfl,fun k h0 h1=>qa k h0 (by omega)⟩,hS⟩
theorem ZlI{v:Value}{n:Int}{f:Int->Int}(w0:World)(hR:Row w0 v 1 n (ints f)):
    Calls Tryz.prog 151 [v,.func (.func 176) #[] #[]].toArray w0 fun e w=>∃v,e= .returned v/\v=B (∃k,0<=k/\k<n/\¬Zo (f k))/\Sat w0 w []:=by
  refine zenG Tryz.func151 Tryz.ntmps151 fun w hS=> ?_
  refine zsr<|(zP)<|zlz<|(zP)<|(zP)<|zlc (xc0 WO) (Zlu (n:=n) (f:=f) w (hR.below hS.below)) ?_;rintro _ w ⟨r1,rfl,hr1,hS'⟩
  replace hS:=hS.cmp hS';clear hS'
  refine(zP)<|(zP)<|zx1<|zf1 ⟨_,rfl,?_⟩
  exact⟨Zm (by
   rcases hr1 with⟨h1,h2⟩|⟨h1,h2,h3⟩
   · exact⟨fun h=>by omega,fun⟨k,h4,h5,h6⟩=>absurd h6 (h2 k h4 h5)⟩
   · exact⟨fun _=>⟨_,h1,h2,h3⟩,fun _=>h1⟩),hS⟩
theorem Zln{t:Tr}(w0:World)(hK:KAt w0 t)(hV:LvAt w0 t):
    Calls Tryz.prog 138 [.agg #[.int .i64 t.s,t.vK,t.vL]].toArray w0 fun e w=>∃v,e= .returned v/\v=B (OkN t)/\Sat w0 w []:=by
  have hn:=hK.row.slh.n0;have hn1:=hK.row.slh.n1;have hln:=hV.leaf.row.slh.n0;have yt:=hV.leaf.row.slh.n1
  refine zenG Tryz.func138 Tryz.ntmps138 fun w hS=> ?_
  refine zsr<|zla (xbx (cs:= [_,_,_]) hS) ?_;rintro _ w ⟨g1,rfl,hS⟩
  refine(zP)<|zx5<|(zV (xfb 1 fd_54_1))<|(zV (xlb 0 Xs hS))<|(zV (xln YI (hK).row.slh))<|(zP)<|zlt<|Ze ?_ ?_<;>intro hc
  ·
   refine zsr<|(zV (xfb 2 fd_54_2))<|(zV (xlb 0 pl_22 hS))<|(zV (xln Zb (hV).leaf.row.slh))<|(zP)<|(zP)<|zlb 11 ?_ ?_<;>intro hc
   ·
    refine(zV (xfb 1 fd_54_1))<|(zV (xlb 0 Xs hS))<|(zV (xln YI (hK).row.slh))<|(zP)<|(zP)<|(zP)<|zlb 17 ?_ ?_<;>intro hc
    ·
     refine(zV (xfb 0 fd_54_0))<|(zV (xlb 0 pl_3 hS))<|zlc (xc0 Zfp) (RL (x:=t.s) w) ?_;rintro _ w ⟨rfl,hS'⟩
     replace hS:=hS.cmp hS';clear hS'
     refine(zP)<|(zP)<|zx14<|zf1 ⟨_,rfl,?_⟩
     exact⟨Zm ⟨fun hh=>⟨by first|assumption|(unfold Zo;omega),by omega,by omega,by omega,fun h0=>by omega,fun k k0 k1=>by first|omega|exact Classical.byContradiction fun h9=>absurd (show∃k,0<=k/\k<t.nl/\¬Zo (t.l k) from⟨k,k0,k1,h9⟩) (by assumption)⟩,fun hh=>by obtain⟨h1,h2,h3,h4,h5,h6⟩:=hh;first|exact h1|exact fun⟨k,k0,k1,k2⟩=>k2 (h6 k k0 k1)|omega⟩,hS.nl⟩
    iterate 3 refine zlo ?_
    refine(zP)<|(zP)<|zx14<|zf1 ⟨_,rfl,?_⟩
    exact⟨Zf (by rintro⟨h1,h2,h3,h4,h5,h6⟩;first|omega|(have:=h5 (by omega);omega)|exact absurd h1 ‹¬Zo t.s›|(obtain⟨k,k0,k1,k2⟩:=‹∃k,0<=k/\k<t.nl/\¬Zo (t.l k)›;exact k2 (h6 k k0 k1))),hS.nl⟩
   iterate 4 refine zlo ?_
   refine zs2 ?_
   iterate 3 refine zlo ?_
   refine(zP)<|(zP)<|zx14<|zf1 ⟨_,rfl,?_⟩
   exact⟨Zf (by rintro⟨h1,h2,h3,h4,h5,h6⟩;first|omega|(have:=h5 (by omega);omega)|exact absurd h1 ‹¬Zo t.s›|(obtain⟨k,k0,k1,k2⟩:=‹∃k,0<=k/\k<t.nl/\¬Zo (t.l k)›;exact k2 (h6 k k0 k1))),hS.nl⟩
  refine ZS<|(zV (xfb 0 fd_54_0))<|(zV (xlb 0 pl_3 hS))<|(zP)<|(zP)<|zlb 25 ?_ ?_<;>intro hc
  ·
   refine(zV (xfb 2 fd_54_2))<|(zV (xlb 0 pl_22 hS))<|(zV (xln Zb (hV).leaf.row.slh))<|(zP)<|(zP)<|(zP)<|zlb 31 ?_ ?_<;>intro hc
   ·
    refine(zV (xfb 2 fd_54_2))<|(zV (xlb 0 pl_22 hS))<|zlc (xc0 WP) (ZlI (n:=t.nl) (f:=t.l) w ((hV).leaf.row.below hS.below)) ?_;rintro _ w ⟨rfl,hS'⟩
    replace hS:=hS.cmp hS';clear hS'
    refine(zP)<|(zP)<|(zP)<|zx1<|zf1 ⟨_,rfl,?_⟩
    exact⟨Zm ⟨fun hh=>⟨by first|assumption|(unfold Zo;omega),by omega,by omega,by omega,fun h0=>by omega,fun k k0 k1=>by first|omega|exact Classical.byContradiction fun h9=>absurd (show∃k,0<=k/\k<t.nl/\¬Zo (t.l k) from⟨k,k0,k1,h9⟩) (by assumption)⟩,fun hh=>by obtain⟨h1,h2,h3,h4,h5,h6⟩:=hh;first|exact h1|exact fun⟨k,k0,k1,k2⟩=>k2 (h6 k k0 k1)|omega⟩,hS.nl⟩
   iterate 4 refine zlo ?_
   refine(zP)<|(zP)<|zx1<|zf1 ⟨_,rfl,?_⟩
   exact⟨Zf (by rintro⟨h1,h2,h3,h4,h5,h6⟩;first|omega|(have:=h5 (by omega);omega)|exact absurd h1 ‹¬Zo t.s›|(obtain⟨k,k0,k1,k2⟩:=‹∃k,0<=k/\k<t.nl/\¬Zo (t.l k)›;exact k2 (h6 k k0 k1))),hS.nl⟩
  iterate 4 refine zlo ?_
  refine zs2 ?_
  iterate 4 refine zlo ?_
  refine(zP)<|(zP)<|zx1<|zf1 ⟨_,rfl,?_⟩
  exact⟨Zf (by rintro⟨h1,h2,h3,h4,h5,h6⟩;first|omega|(have:=h5 (by omega);omega)|exact absurd h1 ‹¬Zo t.s›|(obtain⟨k,k0,k1,k2⟩:=‹∃k,0<=k/\k<t.nl/\¬Zo (t.l k)›;exact k2 (h6 k k0 k1))),hS.nl⟩
end Go.Proofs.YtkichmnjjblodaaGreat
namespace Go.Proofs.YtkichmnjjblodaaGreat
open Go Go.RowKit Go.Proofs.Gw
theorem KK:Zc Tryz.prog 120=true:=by kernel_rfl
theorem ZcR:Zc Tryz.prog 82=true:=by kernel_rfl
theorem fd_45_0:Zs Tryz.prog 45 0=some 0:=by kernel_rfl
theorem fd_45_2:Zs Tryz.prog 45 2=some 2:=by kernel_rfl
theorem Zb8:∀(t:Tr) (w0:World) (hK:KAt w0 t) (hV:LvAt w0 t),
    Calls Tryz.prog 82 [.agg #[.int .i64 t.s,t.vK,t.vL]].toArray w0 fun e w=>∃v,e= .returned v/\v=B t.ok/\Sat w0 w []:=by
  refine Tr.ind fun t ih=> ?_
  intro w0 hK hV
  have hn:=hK.row.slh.n0;have hn1:=hK.row.slh.n1;have hln:=hV.leaf.row.slh.n0;have yt:=hV.leaf.row.slh.n1
  refine zenG Tryz.func82 Tryz.ntmps82 fun w hS=> ?_
  refine zsr<|zla (xbx (cs:= [_,_,_]) hS) ?_;rintro _ w ⟨g1,rfl,hS⟩
  refine(zP)<|zx5<|(zV (xfb 0 fd_45_0))<|(zV (xlb 0 pl_3 hS))<|zlc (xc0 KK) (Ww (x:=t.s) w) ?_;rintro _ w ⟨rfl,hS'⟩
  replace hS:=hS.cmp hS';clear hS'
  refine(zP)<|(zP)<|zlb 9 ?_ ?_<;>intro hc;rotate_left
  refine(zV (xfb 1 fd_45_1))<|(zV (xlb 0 YX hS))<|(zV (xln YW (hK).row.slh))<|(zP)<|(zP)<|(zP)<|zlb 15 ?_ ?_<;>intro hc;rotate_left
  refine(zV (xfb 2 fd_45_2))<|(zV (xlb 0 pl_22 hS))<|(zV (xln Zb (hV).leaf.row.slh))<|(zP)<|(zP)<|(zP)<|zlb 21 ?_ ?_<;>intro hc;rotate_left
  refine(zV (xfb 1 fd_45_1))<|(zV (xlb 0 YX hS))<|(zV (xln YW (hK).row.slh))<|(zP)<|(zP)<|zlb 26 ?_ ?_<;>intro hc
  ·
   refine(zV (xfb 2 fd_45_2))<|(zV (xlb 0 pl_22 hS))<|(zV (xln Zb (hV).leaf.row.slh))<|zs4 ?_
   refine zlb 33 ?_ ?_<;>intro hc
   ·
    iterate 9 refine zlo ?_
    refine(zP)<|zlt<|zct<|zsr ?_
    refine(zP)<|zx14<|zf1 ⟨_,rfl,?_⟩
    exact⟨Zf (by rw [t.ok_iff];rintro⟨⟨h1,h2,h3,h4,h5,h6⟩,h7⟩;first|omega|(have:=h5 (by omega);omega)|exact absurd h1 ‹¬Zo t.s›|exact absurd (h6 i h0 (by omega)) ‹¬Zo (t.l i)›|exact absurd (h7 j j0 (by omega)) ‹¬(t.kid j).ok›),hS.nl⟩
   refine(zV (xfb 1 fd_45_1))<|(zV (xlb 0 YX hS))<|(zV (xln YW (hK).row.slh))<|(zV (xkf YL))<|zlv xmv ?_
   iterate 3 refine zlo ?_
   refine(zP)<|(zP)<|zlt<|zcf<|zsk<|ztn<|zsq<|zsr ?_
   refine(zP)<|zx6<|zlp (fun mm M w=>∃(i:Int),mm=((t.nl-i).toNat)/\(0<=i)/\(i<=t.nl)/\(∀k,0<=k->k<i->Zo (t.l k))/\M= [(1,.pointer (some ⟨g1,0,none⟩)),(3,.int .i64 i)]/\Sat w0 w [.blk g1 [.int .i64 t.s,t.vK,t.vL]]) ⟨0,rfl,(by omega),(by omega),?_,rfl,hS⟩ ?_
   ·
    intro k k0 k1;omega
   clear hS w
   rintro mm M w ⟨i,rfl,h0,h1,qa,rfl,hS⟩
   refine zx11<|(zP)<|(zV (xfb 2 fd_45_2))<|(zV (xlb 0 pl_22 hS))<|(zV (xln Zb (hV).leaf.row.slh))<|(zP)<|zlt<|Ze ?_ ?_<;>intro hc
   ·
    refine zx3<|(zV (xfb 2 fd_45_2))<|(zV (xlb 0 pl_22 hS))<|(zP)<|(zV (xix (kk:=i) Zb (hV).leaf.row.slh))<|zlv (xlr (u:= .int .i64 (t.l i)) pl_3 ((hV).leaf.row.below hS.below)) ?_
    have hbv:=(hV).leaf.i i
    refine zlc (xc0 KK) (Ww (x:=(t.l i)) w) ?_;rintro _ w ⟨rfl,hS'⟩
    replace hS:=hS.cmp hS';clear hS'
    refine(zP)<|zlt<|Ze ?_ ?_<;>intro hc
    ·
     refine zsr<|(zP)<|zx2<|zf1 ⟨_,rfl,?_⟩
     exact⟨Zf (by rw [t.ok_iff];rintro⟨⟨h1,h2,h3,h4,h5,h6⟩,h7⟩;first|omega|(have:=h5 (by omega);omega)|exact absurd h1 ‹¬Zo t.s›|exact absurd (h6 i h0 (by omega)) ‹¬Zo (t.l i)›|exact absurd (h7 j j0 (by omega)) ‹¬(t.kid j).ok›),hS.nl⟩
    refine zx4<|(zP)<|(zV (Zh (r:=i+1)))<|(zP)<|zln<|zlq ⟨i+1,rfl,(by omega),(by omega),?_,rfl,hS⟩
    ·
     intro k k0 k1;rcases Int.lt_or_eq_of_le (show k<=i by omega) with hk|hk
     · exact qa k k0 hk
     · rw [hk];exact Classical.not_not.1 ‹¬¬Zo (t.l i)›
   refine zx18<|(zP)<|zx6<|zlp (fun mm M w=>∃(j:Int),mm=((t.n-j).toNat)/\(0<=j)/\(j<=t.n)/\(∀k,0<=k->k<j->(t.kid k).ok)/\M= [(1,.pointer (some ⟨g1,0,none⟩)),(4,.int .i64 j)]/\Sat w0 w [.blk g1 [.int .i64 t.s,t.vK,t.vL]]) ⟨0,rfl,(by omega),(by omega),?_,rfl,hS⟩ ?_
   ·
    intro k k0 k1;omega
   clear hS w
   rintro mm M w ⟨j,rfl,j0,j1,hkd,rfl,hS⟩
   refine zx11<|(zP)<|(zV (xfb 1 fd_45_1))<|(zV (xlb 0 YX hS))<|(zV (xln YW (hK).row.slh))<|(zP)<|zlt<|Ze ?_ ?_<;>intro hc
   ·
    refine zx3<|(zV (xfb 1 fd_45_1))<|(zV (xlb 0 YX hS))<|(zP)<|(zV (xix (kk:=3*j) YW (hK).row.slh))<|(zV (xlw (cs:= [.int .i64 ((t.kid j).s),(t.kid j).vK,(t.kid j).vL]) st_45 ((hK).row.below hS.below) (Yk (q:=3*j) (i:=j) _ (by omega))))<|zlc (xc0 ZcR) (ih j (by omega) (by omega) w (KAt.below hS.below ((hK).sub (i:=j) (by omega) (by omega))) (LvAt.below hS.below ((hV).sub (i:=j) (by omega) (by omega)))) ?_;rintro _ w ⟨rfl,hS'⟩
    replace hS:=hS.cmp hS';clear hS'
    refine(zP)<|zlt<|Ze ?_ ?_<;>intro hc
    ·
     refine zsr<|(zP)<|zx2<|zf1 ⟨_,rfl,?_⟩
     exact⟨Zf (by rw [t.ok_iff];rintro⟨⟨h1,h2,h3,h4,h5,h6⟩,h7⟩;first|omega|(have:=h5 (by omega);omega)|exact absurd h1 ‹¬Zo t.s›|exact absurd (h6 i h0 (by omega)) ‹¬Zo (t.l i)›|exact absurd (h7 j j0 (by omega)) ‹¬(t.kid j).ok›),hS.nl⟩
    refine zx4<|(zP)<|(zV (Zh (r:=j+1)))<|(zP)<|zln<|zlq ⟨j+1,rfl,(by omega),(by omega),?_,rfl,hS⟩
    ·
     intro k k0 k1;rcases Int.lt_or_eq_of_le (show k<=j by omega) with hk|hk
     · exact hkd k k0 hk
     · rw [hk];exact Classical.not_not.1 ‹¬¬(t.kid j).ok›
   refine zx8<|(zP)<|zx1<|zf1 ⟨_,rfl,?_⟩
   exact⟨ZX ((t.ok_iff).2 ⟨⟨Classical.not_not.1 ‹¬¬Zo t.s›,by omega,by omega,by omega,fun h0=>by omega,fun k k0 k1=>qa k k0 (by omega)⟩,fun k k0 k1=>hkd k k0 (by omega)⟩),hS.nl⟩
  iterate 4 refine zlo ?_
  refine(zP)<|(zP)<|(zP)<|(zV (xfb 1 fd_45_1))<|(zV (xlb 0 YX hS))<|(zV (xln YW (hK).row.slh))<|(zP)<|(zP)<|zlb 38 ?_ ?_<;>intro hc
  ·
   refine(zV (xfb 0 fd_45_0))<|(zV (xlb 0 pl_3 hS))<|(zP)<|(zP)<|(zP)<|zlt<|Ze ?_ ?_<;>intro hc
   ·
    refine zsr<|(zP)<|zx14<|zf1 ⟨_,rfl,?_⟩
    exact⟨Zf (by rw [t.ok_iff];rintro⟨⟨h1,h2,h3,h4,h5,h6⟩,h7⟩;first|omega|(have:=h5 (by omega);omega)|exact absurd h1 ‹¬Zo t.s›|exact absurd (h6 i h0 (by omega)) ‹¬Zo (t.l i)›|exact absurd (h7 j j0 (by omega)) ‹¬(t.kid j).ok›),hS.nl⟩
   refine YJ<|(zP)<|zx6<|zlp (fun mm M w=>∃(i:Int),mm=((t.nl-i).toNat)/\(0<=i)/\(i<=t.nl)/\(∀k,0<=k->k<i->Zo (t.l k))/\M= [(1,.pointer (some ⟨g1,0,none⟩)),(3,.int .i64 i)]/\Sat w0 w [.blk g1 [.int .i64 t.s,t.vK,t.vL]]) ⟨0,rfl,(by omega),(by omega),?_,rfl,hS⟩ ?_
   ·
    intro k k0 k1;omega
   clear hS w
   rintro mm M w ⟨i,rfl,h0,h1,qa,rfl,hS⟩
   refine zx11<|(zP)<|(zV (xfb 2 fd_45_2))<|(zV (xlb 0 pl_22 hS))<|(zV (xln Zb (hV).leaf.row.slh))<|(zP)<|zlt<|Ze ?_ ?_<;>intro hc
   ·
    refine zx3<|(zV (xfb 2 fd_45_2))<|(zV (xlb 0 pl_22 hS))<|(zP)<|(zV (xix (kk:=i) Zb (hV).leaf.row.slh))<|zlv (xlr (u:= .int .i64 (t.l i)) pl_3 ((hV).leaf.row.below hS.below)) ?_
    have hbv:=(hV).leaf.i i
    refine zlc (xc0 KK) (Ww (x:=(t.l i)) w) ?_;rintro _ w ⟨rfl,hS'⟩
    replace hS:=hS.cmp hS';clear hS'
    refine(zP)<|zlt<|Ze ?_ ?_<;>intro hc
    ·
     refine zsr<|(zP)<|zx2<|zf1 ⟨_,rfl,?_⟩
     exact⟨Zf (by rw [t.ok_iff];rintro⟨⟨h1,h2,h3,h4,h5,h6⟩,h7⟩;first|omega|(have:=h5 (by omega);omega)|exact absurd h1 ‹¬Zo t.s›|exact absurd (h6 i h0 (by omega)) ‹¬Zo (t.l i)›|exact absurd (h7 j j0 (by omega)) ‹¬(t.kid j).ok›),hS.nl⟩
    refine zx4<|(zP)<|(zV (Zh (r:=i+1)))<|(zP)<|zln<|zlq ⟨i+1,rfl,(by omega),(by omega),?_,rfl,hS⟩
    ·
     intro k k0 k1;rcases Int.lt_or_eq_of_le (show k<=i by omega) with hk|hk
     · exact qa k k0 hk
     · rw [hk];exact Classical.not_not.1 ‹¬¬Zo (t.l i)›
   refine zx18<|(zP)<|zx6<|zlp (fun mm M w=>∃(j:Int),mm=((t.n-j).toNat)/\(0<=j)/\(j<=t.n)/\(∀k,0<=k->k<j->(t.kid k).ok)/\M= [(1,.pointer (some ⟨g1,0,none⟩)),(4,.int .i64 j)]/\Sat w0 w [.blk g1 [.int .i64 t.s,t.vK,t.vL]]) ⟨0,rfl,(by omega),(by omega),?_,rfl,hS⟩ ?_
   ·
    intro k k0 k1;omega
   clear hS w
   rintro mm M w ⟨j,rfl,j0,j1,hkd,rfl,hS⟩
   refine zx11<|(zP)<|(zV (xfb 1 fd_45_1))<|(zV (xlb 0 YX hS))<|(zV (xln YW (hK).row.slh))<|(zP)<|zlt<|Ze ?_ ?_<;>intro hc
   ·
    refine zx3<|(zV (xfb 1 fd_45_1))<|(zV (xlb 0 YX hS))<|(zP)<|(zV (xix (kk:=3*j) YW (hK).row.slh))<|(zV (xlw (cs:= [.int .i64 ((t.kid j).s),(t.kid j).vK,(t.kid j).vL]) st_45 ((hK).row.below hS.below) (Yk (q:=3*j) (i:=j) _ (by omega))))<|zlc (xc0 ZcR) (ih j (by omega) (by omega) w (KAt.below hS.below ((hK).sub (i:=j) (by omega) (by omega))) (LvAt.below hS.below ((hV).sub (i:=j) (by omega) (by omega)))) ?_;rintro _ w ⟨rfl,hS'⟩
    replace hS:=hS.cmp hS';clear hS'
    refine(zP)<|zlt<|Ze ?_ ?_<;>intro hc
    ·
     refine zsr<|(zP)<|zx2<|zf1 ⟨_,rfl,?_⟩
     exact⟨Zf (by rw [t.ok_iff];rintro⟨⟨h1,h2,h3,h4,h5,h6⟩,h7⟩;first|omega|(have:=h5 (by omega);omega)|exact absurd h1 ‹¬Zo t.s›|exact absurd (h6 i h0 (by omega)) ‹¬Zo (t.l i)›|exact absurd (h7 j j0 (by omega)) ‹¬(t.kid j).ok›),hS.nl⟩
    refine zx4<|(zP)<|(zV (Zh (r:=j+1)))<|(zP)<|zln<|zlq ⟨j+1,rfl,(by omega),(by omega),?_,rfl,hS⟩
    ·
     intro k k0 k1;rcases Int.lt_or_eq_of_le (show k<=j by omega) with hk|hk
     · exact hkd k k0 hk
     · rw [hk];exact Classical.not_not.1 ‹¬¬(t.kid j).ok›
   refine zx8<|(zP)<|zx1<|zf1 ⟨_,rfl,?_⟩
   exact⟨ZX ((t.ok_iff).2 ⟨⟨Classical.not_not.1 ‹¬¬Zo t.s›,by omega,by omega,by omega,fun h0=>by omega,fun k k0 k1=>qa k k0 (by omega)⟩,fun k k0 k1=>hkd k k0 (by omega)⟩),hS.nl⟩
  iterate 3 refine zlo ?_
  refine(zP)<|(zP)<|zlt<|zcf<|zsk<|ztn<|zsq<|zsr ?_
  refine(zP)<|zx6<|zlp (fun mm M w=>∃(i:Int),mm=((t.nl-i).toNat)/\(0<=i)/\(i<=t.nl)/\(∀k,0<=k->k<i->Zo (t.l k))/\M= [(1,.pointer (some ⟨g1,0,none⟩)),(3,.int .i64 i)]/\Sat w0 w [.blk g1 [.int .i64 t.s,t.vK,t.vL]]) ⟨0,rfl,(by omega),(by omega),?_,rfl,hS⟩ ?_
  ·
   intro k k0 k1;omega
  clear hS w
  rintro mm M w ⟨i,rfl,h0,h1,qa,rfl,hS⟩
  refine zx11<|(zP)<|(zV (xfb 2 fd_45_2))<|(zV (xlb 0 pl_22 hS))<|(zV (xln Zb (hV).leaf.row.slh))<|(zP)<|zlt<|Ze ?_ ?_<;>intro hc
  ·
   refine zx3<|(zV (xfb 2 fd_45_2))<|(zV (xlb 0 pl_22 hS))<|(zP)<|(zV (xix (kk:=i) Zb (hV).leaf.row.slh))<|zlv (xlr (u:= .int .i64 (t.l i)) pl_3 ((hV).leaf.row.below hS.below)) ?_
   have hbv:=(hV).leaf.i i
   refine zlc (xc0 KK) (Ww (x:=(t.l i)) w) ?_;rintro _ w ⟨rfl,hS'⟩
   replace hS:=hS.cmp hS';clear hS'
   refine(zP)<|zlt<|Ze ?_ ?_<;>intro hc
   ·
    refine zsr<|(zP)<|zx2<|zf1 ⟨_,rfl,?_⟩
    exact⟨Zf (by rw [t.ok_iff];rintro⟨⟨h1,h2,h3,h4,h5,h6⟩,h7⟩;first|omega|(have:=h5 (by omega);omega)|exact absurd h1 ‹¬Zo t.s›|exact absurd (h6 i h0 (by omega)) ‹¬Zo (t.l i)›|exact absurd (h7 j j0 (by omega)) ‹¬(t.kid j).ok›),hS.nl⟩
   refine zx4<|(zP)<|(zV (Zh (r:=i+1)))<|(zP)<|zln<|zlq ⟨i+1,rfl,(by omega),(by omega),?_,rfl,hS⟩
   ·
    intro k k0 k1;rcases Int.lt_or_eq_of_le (show k<=i by omega) with hk|hk
    · exact qa k k0 hk
    · rw [hk];exact Classical.not_not.1 ‹¬¬Zo (t.l i)›
  refine zx18<|(zP)<|zx6<|zlp (fun mm M w=>∃(j:Int),mm=((t.n-j).toNat)/\(0<=j)/\(j<=t.n)/\(∀k,0<=k->k<j->(t.kid k).ok)/\M= [(1,.pointer (some ⟨g1,0,none⟩)),(4,.int .i64 j)]/\Sat w0 w [.blk g1 [.int .i64 t.s,t.vK,t.vL]]) ⟨0,rfl,(by omega),(by omega),?_,rfl,hS⟩ ?_
  ·
   intro k k0 k1;omega
  clear hS w
  rintro mm M w ⟨j,rfl,j0,j1,hkd,rfl,hS⟩
  refine zx11<|(zP)<|(zV (xfb 1 fd_45_1))<|(zV (xlb 0 YX hS))<|(zV (xln YW (hK).row.slh))<|(zP)<|zlt<|Ze ?_ ?_<;>intro hc
  ·
   refine zx3<|(zV (xfb 1 fd_45_1))<|(zV (xlb 0 YX hS))<|(zP)<|(zV (xix (kk:=3*j) YW (hK).row.slh))<|(zV (xlw (cs:= [.int .i64 ((t.kid j).s),(t.kid j).vK,(t.kid j).vL]) st_45 ((hK).row.below hS.below) (Yk (q:=3*j) (i:=j) _ (by omega))))<|zlc (xc0 ZcR) (ih j (by omega) (by omega) w (KAt.below hS.below ((hK).sub (i:=j) (by omega) (by omega))) (LvAt.below hS.below ((hV).sub (i:=j) (by omega) (by omega)))) ?_;rintro _ w ⟨rfl,hS'⟩
   replace hS:=hS.cmp hS';clear hS'
   refine(zP)<|zlt<|Ze ?_ ?_<;>intro hc
   ·
    refine zsr<|(zP)<|zx2<|zf1 ⟨_,rfl,?_⟩
    exact⟨Zf (by rw [t.ok_iff];rintro⟨⟨h1,h2,h3,h4,h5,h6⟩,h7⟩;first|omega|(have:=h5 (by omega);omega)|exact absurd h1 ‹¬Zo t.s›|exact absurd (h6 i h0 (by omega)) ‹¬Zo (t.l i)›|exact absurd (h7 j j0 (by omega)) ‹¬(t.kid j).ok›),hS.nl⟩
   refine zx4<|(zP)<|(zV (Zh (r:=j+1)))<|(zP)<|zln<|zlq ⟨j+1,rfl,(by omega),(by omega),?_,rfl,hS⟩
   ·
    intro k k0 k1;rcases Int.lt_or_eq_of_le (show k<=j by omega) with hk|hk
    · exact hkd k k0 hk
    · rw [hk];exact Classical.not_not.1 ‹¬¬(t.kid j).ok›
  refine zx8<|(zP)<|zx1<|zf1 ⟨_,rfl,?_⟩
  exact⟨ZX ((t.ok_iff).2 ⟨⟨Classical.not_not.1 ‹¬¬Zo t.s›,by omega,by omega,by omega,fun h0=>by omega,fun k k0 k1=>qa k k0 (by omega)⟩,fun k k0 k1=>hkd k k0 (by omega)⟩),hS.nl⟩
  all_goals
   refine zOps ?_
   refine zlt<|zct<|zsr ?_
   refine zOps ?_
   refine zx14<|zf1 ⟨_,rfl,?_⟩
   exact⟨Zf (by rw [t.ok_iff];rintro⟨⟨h1,h2,h3,h4,h5,h6⟩,h7⟩;first|omega|(have:=h5 (by omega);omega)|exact absurd h1 ‹¬Zo t.s›|exact absurd (h6 i h0 (by omega)) ‹¬Zo (t.l i)›|exact absurd (h7 j j0 (by omega)) ‹¬(t.kid j).ok›),hS.nl⟩
end Go.Proofs.YtkichmnjjblodaaGreat
namespace Go.Proofs.YtkichmnjjblodaaGreat
open Go Go.RowKit Go.Proofs.Gw
theorem Zfz:Zc Tryz.prog 101=true:=by kernel_rfl
theorem ZkS:Zc Tryz.prog 138=true:=by kernel_rfl
theorem ZkR:Zc Tryz.prog 139=true:=by kernel_rfl
theorem ZkQ:Zc Tryz.prog 140=true:=by kernel_rfl
theorem Zkw:Zc Tryz.prog 177=true:=by kernel_rfl
theorem Zng{t:Tr}(w0:World)(hK:KAt w0 t)(hV:LvAt w0 t)(hal:∀(w0:World),KAt w0 t->LvAt w0 t->Calls Tryz.prog 101 [.agg #[.int .i64 t.s,t.vK,t.vL]].toArray w0 fun e w=>∃v,e= .returned v/\v=B t.ok/\Sat w0 w []):
    Calls Tryz.prog 140 [.agg #[.int .i64 t.s,t.vK,t.vL]].toArray w0 fun e w=>∃v,e= .returned v/\v=B (¬t.ok)/\Sat w0 w []:=by
  refine zenG Tryz.func140 Tryz.ntmps140 fun w hS=> ?_
  refine zsr<|zla (xbx (cs:= [_,_,_]) hS) ?_;rintro _ w ⟨g1,rfl,hS⟩
  refine(zP)<|zlz<|(zV (xls 0 st_54 hS))<|zlc (xc0 Zfz) (hal w (KAt.below hS.below (hK)) (LvAt.below hS.below (hV))) ?_;rintro _ w ⟨rfl,hS'⟩
  replace hS:=hS.cmp hS';clear hS'
  refine(zP)<|(zP)<|zx1<|zf1 ⟨_,rfl,?_⟩
  exact⟨rfl,hS.nl⟩
theorem ZlB{t:Tr}(w0:World)(hK:KAt w0 t)(hV:LvAt w0 t)(iha:∀i,0<=i->i<t.n->∀(w0:World),KAt w0 (t.kid i)->LvAt w0 (t.kid i)->Calls Tryz.prog 101 [.agg #[.int .i64 (t.kid i).s,(t.kid i).vK,(t.kid i).vL]].toArray w0 fun e w=>∃v,e= .returned v/\v=B (t.kid i).ok/\Sat w0 w []):
    Calls Tryz.prog 177 [t.vK,.func (.func 140) #[] #[]].toArray w0 fun e w=>∃v,e= .returned v/\∃r:Int,v= .int .i64 r/\((r= -1/\∀k,0<=k->k<t.n->(t.kid k).ok)\/(0<=r/\r<t.n/\¬(t.kid r).ok))/\Sat w0 w []:=by
  have hn:=hK.row.slh.n0;have hn1:=hK.row.slh.n1;have hln:=hV.leaf.row.slh.n0;have yt:=hV.leaf.row.slh.n1
  refine zenG Tryz.func177 Tryz.ntmps177 fun w hS=> ?_
  refine zsr<|(zP)<|zx5<|(zP)<|(zV (xln YI (hK).row.slh))<|(zP)<|zx6<|zlp (fun mm M w=>∃(i:Int),mm=((t.n-i).toNat)/\(0<=i)/\(i<=t.n)/\(∀k,0<=k->k<i->(t.kid k).ok)/\M= [(0,t.vK),(1,.func (.func 140) #[] #[]),(7,.int .i64 t.n),(8,.int .i64 i)]/\Sat w0 w []) ⟨0,rfl,(by omega),(by omega),?_,rfl,hS⟩ ?_
  ·
   intro k h0 h1;omega
  clear hS w
  rintro mm M w ⟨i,rfl,h0,h1,qa,rfl,hS⟩
  refine zsr<|(zP)<|zx7<|Ze ?_ ?_<;>intro hc
  ·
   refine zx3<|(zP)<|(zP)<|zlz<|(zP)<|(zP)<|(zP)<|(zV (xix (kk:=3*i) YI (hK).row.slh))<|(zV (xlw (cs:= [.int .i64 ((t.kid i).s),(t.kid i).vK,(t.kid i).vL]) st_54 ((hK).row.below hS.below) (Yk (q:=3*i) (i:=i) _ (by omega))))<|zlc (xc0 ZkQ) (Zng (t:=(t.kid i)) w (KAt.below hS.below ((hK).sub (i:=i) (by omega) (by omega))) (LvAt.below hS.below ((hV).sub (i:=i) (by omega) (by omega))) (iha i (by omega) (by omega))) ?_;rintro _ w ⟨rfl,hS'⟩
   replace hS:=hS.cmp hS';clear hS'
   refine zlt<|Ze ?_ ?_<;>intro hc
   ·
    refine zsr<|(zP)<|(zP)<|zx2<|zf1 ⟨_,rfl,?_⟩
    exact⟨i,rfl,.inr ⟨by omega,by omega,‹¬(t.kid i).ok›⟩,hS⟩
   refine zx4<|(zV (Zh (r:=i+1)))<|(zP)<|zln<|zlq ⟨i+1,rfl,(by omega),(by omega),?_,rfl,hS⟩
   ·
    intro k k0 k1;rcases Int.lt_or_eq_of_le (show k<=i by omega) with hk|hk
    · exact qa k k0 hk
    · rw [hk];exact Classical.not_not.1 ‹_›
  refine zx8<|(zP)<|zx1<|zf1 ⟨_,rfl,?_⟩
  exact⟨-1,rfl,.inl ⟨rfl,fun k h0 h1=>qa k h0 (by omega)⟩,hS⟩
theorem ZlM{t:Tr}(w0:World)(hK:KAt w0 t)(hV:LvAt w0 t)(iha:∀i,0<=i->i<t.n->∀(w0:World),KAt w0 (t.kid i)->LvAt w0 (t.kid i)->Calls Tryz.prog 101 [.agg #[.int .i64 (t.kid i).s,(t.kid i).vK,(t.kid i).vL]].toArray w0 fun e w=>∃v,e= .returned v/\v=B (t.kid i).ok/\Sat w0 w []):
    Calls Tryz.prog 139 [t.vK,.func (.func 140) #[] #[]].toArray w0 fun e w=>∃v,e= .returned v/\v=B (∃k,0<=k/\k<t.n/\¬(t.kid k).ok)/\Sat w0 w []:=by
  refine zenG Tryz.func139 Tryz.ntmps139 fun w hS=> ?_
  refine zsr<|(zP)<|zlz<|(zP)<|(zP)<|zlc (xc0 Zkw) (ZlB (t:=t) w (KAt.below hS.below (hK)) (LvAt.below hS.below (hV)) iha) ?_;rintro _ w ⟨r1,rfl,hr1,hS'⟩
  replace hS:=hS.cmp hS';clear hS'
  refine(zP)<|(zP)<|zx1<|zf1 ⟨_,rfl,?_⟩
  exact⟨Zm (by
   rcases hr1 with⟨h1,h2⟩|⟨h1,h2,h3⟩
   · exact⟨fun h=>by omega,fun⟨k,h4,h5,h6⟩=>absurd (h2 k h4 h5) h6⟩
   · exact⟨fun _=>⟨_,h1,h2,h3⟩,fun _=>h1⟩),hS⟩
theorem Zil:∀(t:Tr) (w0:World) (hK:KAt w0 t) (hV:LvAt w0 t),
    Calls Tryz.prog 101 [.agg #[.int .i64 t.s,t.vK,t.vL]].toArray w0 fun e w=>∃v,e= .returned v/\v=B t.ok/\Sat w0 w []:=by
  refine Tr.ind fun t ih=> ?_
  intro w0 hK hV
  refine zenG Tryz.func101 Tryz.ntmps101 fun w hS=> ?_
  refine zsr<|zla (xbx (cs:= [_,_,_]) hS) ?_;rintro _ w ⟨g1,rfl,hS⟩
  refine(zP)<|zlz<|(zV (xls 0 st_54 hS))<|zlc (xc0 ZkS) (Zln (t:=t) w (KAt.below hS.below (hK)) (LvAt.below hS.below (hV))) ?_;rintro _ w ⟨rfl,hS'⟩
  replace hS:=hS.cmp hS';clear hS'
  refine(zP)<|zlb 5 ?_ ?_<;>intro hc
  ·
   refine(zV (xfb 1 fd_54_1))<|(zV (xlb 0 Xs hS))<|zlc (xc0 ZkR) (ZlM (t:=t) w (KAt.below hS.below (hK)) (LvAt.below hS.below (hV)) ih) ?_;rintro _ w ⟨rfl,hS'⟩
   replace hS:=hS.cmp hS';clear hS'
   refine(zP)<|(zP)<|(zP)<|zx1<|zf1 ⟨_,rfl,?_⟩
   exact⟨Zm (by rw [t.ok_iff];exact⟨fun hh=>⟨‹OkN t›,fun k k0 k1=>Classical.byContradiction fun h9=>hh ⟨k,k0,k1,h9⟩⟩,fun hh ⟨k,k0,k1,k2⟩=>k2 (hh.2 k k0 k1)⟩),hS.nl⟩
  iterate 4 refine zlo ?_
  refine(zP)<|(zP)<|zx1<|zf1 ⟨_,rfl,?_⟩
  exact⟨Zf (by rw [t.ok_iff];rintro⟨h1,h2⟩;first|exact absurd h1 ‹¬OkN t›|(obtain⟨k,k0,k1,k2⟩:=‹∃k,0<=k/\k<t.n/\¬(t.kid k).ok›;exact k2 (h2 k k0 k1))),hS.nl⟩
theorem RJ{t:Tr}(w0:World)(hK:KAt w0 t)(hV:LvAt w0 t):
    Calls Tryz.prog 68 [.agg #[.int .i64 t.s,t.vK,t.vL]].toArray w0 fun e w=>∃v,e= .returned v/\v=B (Yd t)/\Sat w0 w []:=by
  refine zenG Tryz.func68 Tryz.ntmps68 fun w hS=> ?_
  refine zsr<|zla (xbx (cs:= [_,_,_]) hS) ?_;rintro _ w ⟨g1,rfl,hS⟩
  refine(zP)<|zlz<|(zV (xls 0 st_54 hS))<|zlc (xc0 ZiD) (ZhZ t w (KAt.below hS.below (hK)) (LvAt.below hS.below (hV))) ?_;rintro _ w ⟨rfl,hS'⟩
  replace hS:=hS.cmp hS';clear hS'
  refine(zP)<|(zP)<|zlb 6 ?_ ?_<;>intro hc
  ·
   refine(zV (xls 0 st_54 hS))<|zlc (xc0 ZfA) (Zib t w (KAt.below hS.below (hK)) (LvAt.below hS.below (hV))) ?_;rintro _ w ⟨rfl,hS'⟩
   replace hS:=hS.cmp hS';clear hS'
   refine(zP)<|(zP)<|(zP)<|zlb 11 ?_ ?_<;>intro hc
   ·
    refine(zV (xls 0 st_54 hS))<|zlc (xc0 Zfz) (Zil t w (KAt.below hS.below (hK)) (LvAt.below hS.below (hV))) ?_;rintro _ w ⟨rfl,hS'⟩
    replace hS:=hS.cmp hS';clear hS'
    refine(zP)<|(zP)<|zx1<|zf1 ⟨_,rfl,?_⟩
    exact⟨Zm ⟨fun hh=>⟨by first|exact hh|assumption,by omega,by omega⟩,fun hh=>by obtain⟨h1,h2,h3⟩:=hh;first|exact h1|omega⟩,hS.nl⟩
   refine(zO)<|(zO)<|(zP)<|(zP)<|zx1<|zf1 ⟨_,rfl,?_⟩
   exact⟨Zf (by rintro⟨h1,h2,h3⟩;first|omega|exact absurd h1 ‹¬t.ok›),hS.nl⟩
  iterate 3 refine zlo ?_
  refine(zP)<|(zP)<|(zO)<|zlo ?_
  refine(zP)<|(zP)<|zx1<|zf1 ⟨_,rfl,?_⟩
  exact⟨Zf (by rintro⟨h1,h2,h3⟩;first|omega|exact absurd h1 ‹¬t.ok›),hS.nl⟩
theorem Zb5{t:Tr}(w0:World)(hK:KAt w0 t)(hV:LvAt w0 t):
    Calls Tryz.prog 51 [.agg #[.int .i64 t.s,t.vK,t.vL]].toArray w0 fun e w=>∃v,e= .returned v/\v=B (Yd t)/\Sat w0 w []:=by
  refine zenG Tryz.func51 Tryz.ntmps51 fun w hS=> ?_
  refine zsr<|zla (xbx (cs:= [_,_,_]) hS) ?_;rintro _ w ⟨g1,rfl,hS⟩
  refine(zP)<|zlz<|(zV (xls 0 st_45 hS))<|zlc (xc0 ZcR) (Zb8 t w (KAt.below hS.below (hK)) (LvAt.below hS.below (hV))) ?_;rintro _ w ⟨rfl,hS'⟩
  replace hS:=hS.cmp hS';clear hS'
  refine(zP)<|zlb 5 ?_ ?_<;>intro hc
  ·
   refine(zV (xls 0 st_45 hS))<|zlc (xc0 ZiO) (ZfQ t w (KAt.below hS.below (hK)) (LvAt.below hS.below (hV))) ?_;rintro _ w ⟨rfl,hS'⟩
   replace hS:=hS.cmp hS';clear hS'
   refine(zP)<|(zP)<|(zP)<|zlb 10 ?_ ?_<;>intro hc
   ·
    refine(zV (xls 0 st_45 hS))<|zlc (xc0 ZiF) (ZfS t w (KAt.below hS.below (hK)) (LvAt.below hS.below (hV))) ?_;rintro _ w ⟨rfl,hS'⟩
    replace hS:=hS.cmp hS';clear hS'
    refine(zP)<|(zP)<|(zP)<|zx1<|zf1 ⟨_,rfl,?_⟩
    exact⟨Zm ⟨fun hh=>⟨by first|exact hh|assumption,by omega,by omega⟩,fun hh=>by obtain⟨h1,h2,h3⟩:=hh;first|exact h1|omega⟩,hS.nl⟩
   iterate 3 refine zlo ?_
   refine(zP)<|(zP)<|zx1<|zf1 ⟨_,rfl,?_⟩
   exact⟨Zf (by rintro⟨h1,h2,h3⟩;first|omega|exact absurd h1 ‹¬t.ok›),hS.nl⟩
  iterate 3 refine zlo ?_
  refine zs2 ?_
  iterate 3 refine zlo ?_
  refine(zP)<|(zP)<|zx1<|zf1 ⟨_,rfl,?_⟩
  exact⟨Zf (by rintro⟨h1,h2,h3⟩;first|omega|exact absurd h1 ‹¬t.ok›),hS.nl⟩
end Go.Proofs.YtkichmnjjblodaaGreat
namespace Go.Proofs.YtkichmnjjblodaaGreat
open Go Go.RowKit Go.Proofs.Gw
theorem ZcM:ZY Tryz.prog 45=some (.agg #[.int .i64 0,.slice none 0 0,.slice none 0 0],3,56):=by kernel_rfl
end Go.Proofs.YtkichmnjjblodaaGreat
namespace Go.Proofs.YtkichmnjjblodaaGreat
open Go Go.RowKit Go.Proofs.Gw
variable {b i:Int} {f:Int->Int}
noncomputable def ZW(p:Prob)(wi i:Int):Prob:=p.with fun j=>p.D j-YB (MX p wi) i j
def fw (f:Int->Option (List Int)):Nat->Int->Option (List Int)
  |0,_=>none
  | c+1,i=>match f i with
    |some l=>some (i::l)
    |none=>fw f c (i+1)
theorem ZeP{f:Int->Option (List Int)}{n:Int}(h:n<=i):fw f (n-i).toNat i=none:=by rw [show(n-i).toNat=0 by omega];rfl
theorem Ziz{f:Int->Option (List Int)}{n:Int}(h:i<n)(hf:f i=none):fw f (n-i).toNat i=fw f (n-(i+1)).toNat (i+1):=by
  rw [show(n-i).toNat=(n-(i+1)).toNat+1 by omega]
  show(match f i with
    |some l=>some (i::l)
    |none=>fw f (n-(i+1)).toNat (i+1))=_
  rw [hf]
theorem ZeO{f:Int->Option (List Int)}{n:Int}{l:List Int}(h:i<n)(hf:f i=some l):fw f (n-i).toNat i=some (i::l):=by
  rw [show(n-i).toNat=(n-(i+1)).toNat+1 by omega]
  show(match f i with
    |some l=>some (i::l)
    |none=>fw f (n-(i+1)).toNat (i+1))=_
  rw [hf]
theorem ZcC{f:Int->Option (List Int)}:∀{c:Nat} {i:Int} {l:List Int},fw f c i=some l->∃k m,i<=k/\k<i+c/\f k=some m/\l=k::m
  |0,i,l,h=>by cases h
  | c +1,i,l,h=>by
    unfold fw at h
    cases hf:f i with
    |some m=>rw [hf] at h;injection h with h;subst h;exact⟨i,m,by omega,by omega,hf,rfl⟩
    | none=>
      rw [hf] at h
      obtain⟨k,m,h1,h2,h3,h4⟩:=ZcC h
      exact⟨k,m,by omega,by omega,h3,h4⟩
theorem ZcD{f:Int->Option (List Int)}:∀{c:Nat} {i:Int},fw f c i=none->∀k,i<=k->k<i+c->f k=none
  |0,i,_,k,h1,h2=>by omega
  | c +1,i,h,k,h1,h2=>by
    unfold fw at h
    cases hf:f i with
    |some m=>rw [hf] at h;cases h
    | none=>
      rw [hf] at h
      by_cases e:k=i
      · rw [e];exact hf
      · exact ZcD h k (by omega) (by omega)
noncomputable def wrT:Tr->Prob->Int->Option (List Int)
  | .nil,p,b=> @ite _ (XN p b 0 (fun _=>0)) (Classical.propDecidable _) none (some [])
  | .mk s vK n kid vL nl l,p,b=>if n=0 then @ite _ (XN p b nl l) (Classical.propDecidable _) none (some []) else
    @ite _ (ZF p b s/\Zn p b s=n) (Classical.propDecidable _) (fw (fun i=>wrT (kid i) (ZW p s i) (b-1)) n.toNat 0) (some [])
theorem UO{t:Tr}{p:Prob}(h:t.n=0):wrT t p b= @ite _ (XN p b t.nl t.l) (Classical.propDecidable _) none (some []):=by
  cases t with
  |nil=>rfl
  |mk s vK n kid vL nl l=>exact if_pos h
theorem Xm{t:Tr}{p:Prob}(h:t.n=0)(hl:XN p b t.nl t.l):wrT t p b=none:=by rw [UO h,if_pos hl]
theorem Wi{t:Tr}{p:Prob}(h:t.n=0)(hl:¬XN p b t.nl t.l):wrT t p b=some []:=by rw [UO h,if_neg hl]
noncomputable def Tp(t:Tr)(p:Prob)(b:Int)(i:Int):Option (List Int):=wrT (t.kid i) (ZW p t.s i) (b-1)
theorem Wj{t:Tr}{p:Prob}(h:t.n≠0)(hs:ZF p b t.s)(hn:Zn p b t.s=t.n):wrT t p b=fw (Tp t p b) (t.n-0).toNat 0:=by
  cases t with
  |nil=>exact absurd rfl h
  | mk s vK n kid vL nl l=>
    have h':n≠0:=h
    show(if n=0 then _ else _)=_
    rw [if_neg h',if_pos (show ZF p b s/\Zn p b s=n from⟨hs,hn⟩),Int.sub_zero]
    rfl
theorem WG{t:Tr}{p:Prob}(h:t.n≠0)(hs:¬(ZF p b t.s/\Zn p b t.s=t.n)):wrT t p b=some []:=by
  cases t with
  |nil=>exact absurd rfl h
  | mk s vK n kid vL nl l=>
    have h':n≠0:=h
    show(if n=0 then _ else _)=_
    rw [if_neg h',if_neg (show¬(ZF p b s/\Zn p b s=n) from hs)]
theorem Zi2:∀(t:Tr) {p:Prob} {b:Int} {l:List Int},wrT t p b=some l->(l.length:Int)<=max b 0:=Tr.ind fun t ih p b l h=>by
  by_cases h0:t.n=0
  · by_cases hl:XN p b t.nl t.l
    · rw [Xm h0 hl] at h;cases h
    · rw [Wi h0 hl] at h;cases h;simp;omega
  · by_cases hs:ZF p b t.s/\Zn p b t.s=t.n
    · rw [Wj h0 hs.1 hs.2] at h
      obtain⟨k,m,k0,k1,k2,rfl⟩:=ZcC h
      have hn:Zn p b t.s=(MX p t.s).length:=Yi hs.1
      have:=ih k k0 (by have:=hs.2;omega) k2
      have:=hs.1.2.1
      rw [List.length_cons];omega
    · rw [WG h0 hs] at h;cases h;simp;omega
theorem Sim.wr:∀(t:Tr) {u:Tr},Sim t u->∀(p:Prob) (b:Int),wrT u p b=wrT t p b:=Tr.ind fun t ih u h p b=>by
  obtain⟨h1,h2,_,h4,h5,h6⟩:=h.of
  by_cases h0:t.n=0
  · rw [UO h0,UO (h2.trans h0),h4,h5]
  · have hu:u.n≠0:=by rw [h2];exact h0
    by_cases hs:ZF p b t.s/\Zn p b t.s=t.n
    · rw [Wj h0 hs.1 hs.2,Wj hu (by rw [h1];exact hs.1) (by rw [h1,h2];exact hs.2),h2]
      have e:∀(c:Nat) (i:Int),0<=i->i+c<=t.n->fw (Tp u p b) c i=fw (Tp t p b) c i:=fun c=>by
        induction c with
        |zero=>intro i _ _;rfl
        | succ c ihc=>
          intro i i0 i1
          have ek:Tp u p b i=Tp t p b i:=by unfold Tp;rw [h1];exact ih i i0 (by omega) (h6 i i0 (by omega)) _ _
          unfold fw
          rw [ek,ihc (i+1) (by omega) (by omega)]
      have hn:Zn p b t.s=(MX p t.s).length:=Yi hs.1
      exact e _ 0 (Int.le_refl _) (by have:=hs.2;omega)
    · rw [WG h0 hs,WG hu (by rw [h1,h2];exact hs)]
def IsL(q:Int)(f:Int->Int)(l:List Int):Prop:=q=l.length/\∀k,0<=k->k<q->f k=l.getD k.toNat 0
theorem IsL.nil:IsL 0 f []:=⟨rfl,fun k h0 h1=>by omega⟩
theorem IsL.cons{q:Int}{g:Int->Int}{l:List Int}(h:IsL q f l)(h0:g 0=i)(hg:∀k,0<=k->k<q->g (k+1)=f k):IsL (q+1) g (i::l):=by
  obtain⟨h1,h2⟩:=h
  refine⟨by simp [h1],fun k k0 k1=> ?_⟩
  by_cases e:k=0
  · rw [e,h0];rfl
  · have:=hg (k-1) (by omega) (by omega)
    rw [show k-1+1=k by omega] at this
    rw [this,h2 (k-1) (by omega) (by omega),show k.toNat=(k-1).toNat+1 by omega];rfl
theorem IsL.snoc{q i:Int}{f:Int->Int}{l:List Int}(h:IsL q f l):IsL (q+1) (Gw.snoc f q i) (l++ [i]):=by
  obtain⟨h1,h2⟩:=h
  refine⟨by simp [h1],fun k k0 k1=> ?_⟩
  by_cases e:k<q
  · rw [ZA e,h2 k k0 e,List.getD_eq_getElem?_getD,List.getD_eq_getElem?_getD,List.getElem?_append_left (by omega)]
  · rw [ZB e,show k.toNat=l.length by omega,List.getD_eq_getElem?_getD,List.getElem?_append_right (Nat.le_refl _)];simp
theorem IsL.init{q:Int}{l:List Int}(h:IsL q f (l++ [i])):IsL (q-1) f l:=by
  obtain⟨h1,h2⟩:=h
  rw [List.length_append,List.length_singleton] at h1
  refine⟨by omega,fun k k0 k1=> ?_⟩
  rw [h2 k k0 (by omega),List.getD_eq_getElem?_getD,List.getD_eq_getElem?_getD,List.getElem?_append_left (by omega)]
theorem VM{p:Prob}{wi:Int}(hs:ZF p b wi)(i0:0<=i)(i1:i<Zn p b wi):MPat p wi (YB (MX p wi) i)/\1<=YB (MX p wi) i wi:=by
  rw [Yi hs] at i1
  obtain⟨h1,h2⟩:=ZgA hs.1.1 (Zay i0 i1)
  exact⟨h1,h2 hs.2.2.1.1 hs.2.2.1.2⟩
theorem US{w w':World}{vL vD:Value}{p:Prob}{wi:Int}{vv:Int->Value}(hs:ZF p b wi)(h:PAt w' vL vD p)(rL:Row w (vv (2*i)) 1 p.m (ints (gfn p (MX p wi) (2*i))))(rD:Row w (vv (2*i+1)) 1 p.m (ints (gfn p (MX p wi) (2*i+1))))(i0:0<=i)(i1:i<Zn p b wi):PAt w (vv (2*i)) (vv (2*i+1)) (ZW p wi i):=by
  have hp:=hs.1.1
  rw [Zmh p _ (i:=i) rfl] at rL
  rw [Zjh p _ (i:=i) rfl] at rD
  refine⟨rL,?_,h.iL,fun k=> ?_,h.is,h.ik⟩
  · show Row w _ 1 p.d _
    rw [hp.d];exact rD
  · obtain⟨hm,_⟩:=VM hs i0 i1
    show _<=p.D k-YB (MX p wi) i k/\p.D k-YB (MX p wi) i k<=_
    by_cases hk:0<=k/\k<p.m
    · have h1:=hm.rng k hk.1 hk.2
      have h2:=hp.all k hk.1 hk.2
      unfold Prob.each at h2
      omega
    · rw [hm.zero k (by omega)]
      have:=h.iD k
      omega
def consf(i:Int)(f:Int->Int):Int->Int:=fun k=>if k<1 then i else f (k-1)
theorem RH(i:Int)(f:Int->Int):cat ((1:Int)*(1:Nat)) (ints fun _=>i) (ints f)=ints (consf i f):=by
  funext j;simp only [cat,ints,consf];split<;>split<;>first|rfl|omega
theorem IsL.consf{q i:Int}{f:Int->Int}{l:List Int}(h:IsL q f l):IsL (q+1) (consf i f) (i::l):=h.cons (if_pos (by omega)) fun k k0 k1=>by
  unfold Go.Proofs.YtkichmnjjblodaaGreat.consf;rw [if_neg (by omega),show k+1-1=k by omega]
theorem Zl5{t:Tr}{p:Prob}{q:Int}(h:IsL q f ((wrT t p b).getD [])):0<=q/\(q<=b\/q<=0):=by
  refine⟨by have:=h.1;omega,?_⟩
  cases e:wrT t p b with
  |none=>rw [e] at h;exact .inr (by rw [h.1];simp)
  |some l=>rw [e] at h;have:=Zi2 t e;have:=h.1;simp only [Option.getD_some] at this;omega
theorem Ziv{t:Tr}{p:Prob}(h:t.n=0):wrT t p b≠none↔¬XN p b t.nl t.l:=by
  by_cases hl:XN p b t.nl t.l
  · rw [Xm h hl];exact⟨fun h=>absurd rfl h,fun h=>absurd hl h⟩
  · rw [Wi h hl];exact⟨fun _=>hl,fun _=>Option.some_ne_none _⟩
theorem Zd6{t:Tr}{p:Prob}(h:t.n=0):(wrT t p b).getD []= []:=by
  by_cases hl:XN p b t.nl t.l
  · rw [Xm h hl];rfl
  · rw [Wi h hl];rfl
end Go.Proofs.YtkichmnjjblodaaGreat
namespace Go.Proofs.YtkichmnjjblodaaGreat
open Go Go.RowKit Go.Proofs.Gw
theorem ZmV:Zc Tryz.prog 15=true:=by kernel_rfl
theorem ZmU:Zc Tryz.prog 17=true:=by kernel_rfl
theorem ZiN:Zc Tryz.prog 52=true:=by kernel_rfl
theorem ZhF:∀(t:Tr) {vL vD:Value} {p:Prob} {b:Int} (w0:World) (h:PAt w0 vL vD p) (hK:KAt w0 t) (hV:LvAt w0 t),
    Calls Tryz.prog 52 [.agg #[vL,vD,.int .i64 p.stock,.int .i64 p.kerf,.int .i64 b],.agg #[.int .i64 t.s,t.vK,t.vL]].toArray w0 fun e w=>∃v,e= .returned v/\∃r q f,v= .tuple #[r,B (wrT t p b≠none)]/\Slh r q/\IsL q f ((wrT t p b).getD [])/\Sat w0 w [.own r 1 3 q (ints f)]:=by
  refine Tr.ind fun t ih=> ?_
  intro vL vD p b w0 h hK hV
  have hn:=hK.row.slh.n0;have hn1:=hK.row.slh.n1;have hln:=hV.leaf.row.slh.n0;have yt:=hV.leaf.row.slh.n1
  have hm:=h.L.slh.n0;have hm1:=h.L.slh.n1;have hd:=h.D.slh.n0;have hd1:=h.D.slh.n1;have hs:=h.is;have hk:=h.ik
  refine zenG Tryz.func52 Tryz.ntmps52 fun w hS=> ?_
  refine zsr<|zla (xbx (cs:= [_,_,_,_,_]) hS) ?_;rintro _ w ⟨g1,rfl,hS⟩
  refine zla (xbx (cs:= [_,_,_]) hS) ?_;rintro _ w ⟨g2,rfl,hS⟩
  refine(zP)<|(zP)<|zx5<|(zV (xfb 1 fd_45_1))<|(zV (xlb 1 YX hS))<|(zV (xln YW (hK).row.slh))<|(zP)<|zlt<|Ze ?_ ?_<;>intro hc
  ·
   refine zsr<|(zV (xls 0 Vi hS))<|(zV (xfb 2 fd_45_2))<|(zV (xlb 1 pl_22 hS))<|zlc (xc0 ZmU) (ZhT (p:=p) (b:=b) w (h.below hS.below) ((hV).leaf.below hS.below) (hV).room) ?_;rintro _ w ⟨rfl,hS'⟩
   replace hS:=hS.cmp hS';clear hS'
   refine(zP)<|(zP)<|(zP)<|zx14<|zf2 ⟨_,rfl,?_⟩
   have hw9:t.n=0:=by omega
   exact⟨_,0,fun _=>0,by rw [Zm (Ziv hw9)],slh_nil,by rw [Zd6 hw9];exact IsL.nil,(hS.addnil 1 3 (ints fun _=>0)).sub (.cons _ (.cons _ (.cons_cons _ .slnil)))⟩
  refine ZS<|(zV (xls 0 Vi hS))<|(zV (xfb 0 fd_45_0))<|(zV (xlb 1 pl_3 hS))<|zlc (xc0 ZmV) (ZfP (p:=p) (b:=b) (wi:=t.s) w (h.below hS.below)) ?_;rintro _ w ⟨aa,xw,rfl,x4,hS'⟩
  replace hS:=(hS.comp hS').n4;clear hS'
  have dR:∀k,0<=k->k<2*(Zn p b t.s)->Slh (xw k) p.m:=fun k k0 k1=>hS.slhIn 3 rfl k0 k1
  refine zs5 ?_
  refine zx5<|(zP)<|(zP)<|(zP)<|zlb 29 ?_ ?_<;>intro hc
  ·
   iterate 6 refine zlo ?_
   refine(zP)<|zlt<|zct<|zsr ?_
   refine(zP)<|(zP)<|zx14<|zf2 ⟨_,rfl,?_⟩
   have hw9:wrT t p b=some []:=WG (by omega) (by rintro⟨q1,q2⟩;first|exact absurd q1 ‹¬ZF p b t.s›|omega)
   exact⟨_,0,fun _=>0,by rw [ZI (show wrT t p b≠none by rw [hw9];exact Option.some_ne_none _)],slh_nil,by rw [hw9];exact IsL.nil,(hS.addnil 1 3 (ints fun _=>0)).sub (.cons _ (.cons _ (.cons _ (.cons _ (.cons_cons _ .slnil)))))⟩
  refine(zP)<|(zV (xln Zam x4))<|(zV (xfb 1 fd_45_1))<|(zV (xlb 1 YX hS))<|(zV (xln YW (hK).row.slh))<|(zP)<|(zP)<|zlt<|Ze ?_ ?_<;>intro hc
  ·
   refine zsr<|(zP)<|(zP)<|zx14<|zf2 ⟨_,rfl,?_⟩
   have hw9:wrT t p b=some []:=WG (by omega) (by rintro⟨q1,q2⟩;first|exact absurd q1 ‹¬ZF p b t.s›|omega)
   exact⟨_,0,fun _=>0,by rw [ZI (show wrT t p b≠none by rw [hw9];exact Option.some_ne_none _)],slh_nil,by rw [hw9];exact IsL.nil,(hS.addnil 1 3 (ints fun _=>0)).sub (.cons _ (.cons _ (.cons _ (.cons _ (.cons_cons _ .slnil)))))⟩
  refine YJ<|(zP)<|zx6 ?_
  have hsp:ZF p b t.s:=by first|assumption|exact Classical.not_not.1 ‹_›
  have hkn:Zn p b t.s=t.n:=by omega
  have hsb:=hsp.1.2;have hpn:=x4.n1
  refine zlp (fun mm M w=>∃(i:Int),mm=((t.n-i).toNat)/\(0<=i)/\(i<=t.n)/\(wrT t p b=fw (Tp t p b) (t.n-i).toNat i)/\M= [(3,.pointer (some ⟨g2,0,none⟩)),(6,aa),(8,.int .i64 i)]/\Sat w0 w [.blk g1 [vL,vD,.int .i64 p.stock,.int .i64 p.kerf,.int .i64 b],.blk g2 [.int .i64 t.s,t.vK,t.vL],.own aa 5 26 (Zn p b t.s) (ZG xw p.stock p.kerf (b-1)),.sem (Frame.rows 3 (2*(Zn p b t.s)) xw (fun _=>p.m) (gfn p (MX p t.s)))]) ⟨0,rfl,(by omega),(by omega),?_,rfl,hS⟩ ?_
  ·
   exact Wj (by omega) hsp hkn
  clear hS w
  rintro mm M w ⟨i,rfl,h0,h1,hfw,rfl,hS⟩
  refine zx11<|(zP)<|(zP)<|(zV (xln Zam x4))<|(zP)<|zlt<|Ze ?_ ?_<;>intro hc
  ·
   refine zsk<|ztn<|zsq<|zbk<|zsq<|zdst [0,1,2,3] [0,1,2,3] 1000 mx_ hS ?_;clear hS;intro w hS
   refine(zDw 0 xmv)<|(zDw 1 xmv)<|(zDw 2 (xix (kk:=5*i) Zam x4))<|(zDl 3 (fun w hS=>(xlw (cs:= [(xw (2*i)),(xw (2*i+1)),.int .i64 p.stock,.int .i64 p.kerf,.int .i64 (b-1)]) Vi (hS.rowN 2 rfl) (Un (q:=5*i) (i:=i) xw p.stock p.kerf (b-1) (by omega)))))<|(zDw 4 (xfb 1 fd_45_1))<|(zDl 5 (fun w hS=>(xlb 1 YX hS)))<|(zDw 6 xmv)<|(zDw 7 (xix (kk:=3*i) YW (hK).row.slh))<|(zDl 8 (fun w hS=>(xlw (cs:= [.int .i64 ((t.kid i).s),(t.kid i).vK,(t.kid i).vL]) st_45 ((hK).row.below hS.below) (Yk (q:=3*i) (i:=i) _ (by omega)))))<|zdc 9 (xc0 ZiN) (ih i (by omega) (by omega) (p:=(ZW p t.s i)) (b:=(b-1)) w (US (vv:=xw) hsp h (show Row _ _ 1 p.m _ from(hS.rowIn (k:=2*i) 3 rfl (by omega) (by omega))) (show Row _ _ 1 p.m _ from(hS.rowIn (k:=2*i+1) 3 rfl (by omega) (by omega))) (by omega) (by omega)) (KAt.below hS.below ((hK).sub (i:=i) (by omega) (by omega))) (LvAt.below hS.below ((hV).sub (i:=i) (by omega) (by omega)))) ?_;rintro _ w ⟨rq1,q1,fq1,rfl,dU,zT,hS'⟩
   replace hS:=(hS.comp hS').n5;clear hS'
   have fW:=Zl5 zT
   refine⟨⟨fun _=>hS.pk [0,1,2,3],hS.pk [0,1,2,3]⟩,?_⟩
   refine(zDw 10 xmv)<|(zDw 11 xex)<|(zDw 12 xex)<|(zDw 13 xas)<|(zDw 14 xas)<|zdd<|ztn<|zsr ?_
   refine(zP)<|zlt<|Ze ?_ ?_<;>intro hc
   ·
    refine zsr<|(zP)<|zla (xli (n:=1) (len:=1) (pv:= [(0,.int .i64 i)]) (cs:= [.int .i64 i]) (c:=ints (fun _=>i)) Zb Zt hS) ?_;rintro v1 w ⟨hS,hv1⟩
    refine(zP)<|zla (xap 5 (r:=q1+1) (f:=ints (consf i fq1)) Zb Zt hS (hS.rowN 4 rfl) (by exact RH _ _)) ?_;rintro v2 w ⟨hS,hv2⟩
    refine(zP)<|(zP)<|zx2<|zf2 ⟨_,rfl,?_⟩
    obtain⟨l9,hl9⟩:=Option.ne_none_iff_exists'.1 ‹(wrT (t.kid i) (ZW p t.s i) (b-1))≠none›
    rw [hl9] at zT
    have hw9:wrT t p b=some (i::l9):=hfw.trans (ZeO (by omega) hl9)
    exact⟨_,_,_,by rw [ZI (show wrT t p b≠none by rw [hw9];exact Option.some_ne_none _)],hv2,by rw [hw9];exact IsL.consf zT,hS.pk [5]⟩
   refine zx4<|(zP)<|(zV (Zh (r:=i+1)))<|(zP)<|zln<|zlq ⟨i+1,rfl,(by omega),(by omega),?_,rfl,hS.pk [0,1,2,3]⟩
   ·
    rw [hfw];exact Ziz (by omega) (show Tp t p b i=none from Classical.byContradiction ‹¬((wrT (t.kid i) (ZW p t.s i) (b-1))≠none)›)
  refine zx8<|(zP)<|(zP)<|zx1<|zf2 ⟨_,rfl,?_⟩
  have hw9:wrT t p b=none:=hfw.trans (ZeP (by omega))
  exact⟨_,0,fun _=>0,by rw [ZC (show¬wrT t p b≠none by rw [hw9];exact fun h=>h rfl)],slh_nil,by rw [hw9];exact IsL.nil,(hS.addnil 1 3 (ints fun _=>0)).sub (.cons _ (.cons _ (.cons _ (.cons _ (.cons_cons _ .slnil)))))⟩
end Go.Proofs.YtkichmnjjblodaaGreat
namespace Go.Proofs.YtkichmnjjblodaaGreat
open Go Go.RowKit Go.Proofs.Gw
theorem ZiV:Zc Tryz.prog 13=true:=by kernel_rfl
theorem ZiU:Zc Tryz.prog 16=true:=by kernel_rfl
theorem ZiG:Zc Tryz.prog 81=true:=by kernel_rfl
theorem ZbA:ZN Tryz.prog 137=true:=by kernel_rfl
theorem Zl9:ZN Tryz.prog 31=true:=by kernel_rfl
theorem Zl8:ZN Tryz.prog 39=true:=by kernel_rfl
theorem V4{E:TypeId}{n:Int}{vv:Int->Value}{ln:Int->Int}{f:Int->Int->Int}{w:World}{l:List Ent}(h:(Frame.bun l).holds w)(i:Nat)(hi:l[i]? =some (.sem (Frame.rows E n vv ln f))){k:Int}(k0:0<=k)(k1:k<n):Row w (vv k) 1 (ln k) (ints (f k)):=((h.1 _ (List.mem_of_getElem? hi)).1 k k0 k1).row
theorem Zc6{w:World}{l:List Ent}{F:Gw.Frame}(h:(Frame.bun l).holds w)(i:Nat)(hi:l[i]? =some (.sem F)):F.holds w:=h.1 _ (List.mem_of_getElem? hi)
theorem Znb:∀(t:Tr) {F:Gw.Frame} {vL vD:Value} {p:Prob} {b:Int} {gl gs gp gw:Nat} {vp:Value} {q:Int} {f:Int->Int} {pre:List Int} (w0 w:World) (hS:Sat w0 w [.blk gl [.func (.func 16) #[] #[]],.blk gs [.func (.func 13) #[] #[]],.blk gp [vp],.blk gw [.func (.func 81) #[] #[.pointer (some ⟨gl,0,none⟩),.pointer (some ⟨gs,0,none⟩),.pointer (some ⟨gp,0,none⟩),.pointer (some ⟨gw,0,none⟩)]],.sem (Frame.dq 3 vp q f),.sem F]) (hP:∀w1,Below w0.heap.size w0 w1->F.holds w1->PAt w1 vL vD p) (hK:KAt w0 t) (hV:LvAt w0 t) (hv:Slh vp q) (hI:IsL q f pre) (hq:q+b<=1001),
    Calls Tryz.prog 81 [.agg #[vL,vD,.int .i64 p.stock,.int .i64 p.kerf,.int .i64 b],.agg #[.int .i64 t.s,t.vK,t.vL],.pointer (some ⟨gl,0,none⟩),.pointer (some ⟨gs,0,none⟩),.pointer (some ⟨gp,0,none⟩),.pointer (some ⟨gw,0,none⟩)].toArray w fun e w=>∃v,e= .returned v/\∃v1 q1 f1,v=B (wrT t p b≠none)/\Slh v1 q1/\IsL q1 f1 (pre++(wrT t p b).getD [])/\Sat w0 w [.blk gl [.func (.func 16) #[] #[]],.blk gs [.func (.func 13) #[] #[]],.blk gp [v1],.blk gw [.func (.func 81) #[] #[.pointer (some ⟨gl,0,none⟩),.pointer (some ⟨gs,0,none⟩),.pointer (some ⟨gp,0,none⟩),.pointer (some ⟨gw,0,none⟩)]],.sem (Frame.dq 3 v1 q1 f1),.sem F]:=by
  refine Tr.ind fun t ih=> ?_
  intro F vL vD p b gl gs gp gw vp q f pre w0 w hS hP hK hV hv hI hq
  have hn:=hK.row.slh.n0;have hn1:=hK.row.slh.n1;have hln:=hV.leaf.row.slh.n0;have yt:=hV.leaf.row.slh.n1
  have h:=hP w hS.below (hS.holds _ (List.mem_of_getElem? (i:=5) rfl))
  have hv0:=hv.n0;have hv1:=hv.n1
  refine zenF Tryz.func81 Tryz.ntmps81 ?_
  refine zsr<|zla (xbx (cs:= [_,_,_,_,_]) hS) ?_;rintro _ w ⟨g1,rfl,hS⟩
  refine zla (xbx (cs:= [_,_,_]) hS) ?_;rintro _ w ⟨g2,rfl,hS⟩
  refine(zP)<|zx5<|(zV (xfb 1 fd_54_1))<|(zV (xlb 7 Xs hS))<|(zV (xln YI (hK).row.slh))<|(zP)<|zlt<|Ze ?_ ?_<;>intro hc
  ·
   refine zsr<|(zV (xlb 0 Zl8 hS))<|(zV (xls 6 Yq hS))<|(zV (xfb 2 fd_54_2))<|(zV (xlb 7 pl_22 hS))<|zlc (xc0 ZiU) (Zf7 (p:=p) (b:=b) w (hP _ hS.below (hS.holds _ (List.mem_of_getElem? (i:=5) rfl))) ((hV).leaf.below hS.below) (hV).room) ?_;rintro _ w ⟨rfl,hS'⟩
   replace hS:=hS.cmp hS';clear hS'
   refine(zP)<|(zP)<|zx14<|zf1 ⟨_,rfl,?_⟩
   have hw9:t.n=0:=by omega
   exact⟨_,_,_,(Zm (Ziv hw9)).symm,hv,by rw [Zd6 hw9];simpa using hI,hS.pk [0,1,2,3,4,5]⟩
  refine ZS<|(zV (xlb 1 Zl9 hS))<|(zV (xls 6 Yq hS))<|(zV (xfb 0 fd_54_0))<|(zV (xlb 7 pl_3 hS))<|zlc (xc0 ZiV) (ZcZ (p:=p) (b:=b) (wi:=t.s) w (hP _ hS.below (hS.holds _ (List.mem_of_getElem? (i:=5) rfl)))) ?_;rintro _ w ⟨aa,xw,rfl,x4,hS'⟩
  replace hS:=(hS.comp hS').n10;clear hS'
  have dR:∀k,0<=k->k<2*(Zn p b t.s)->Slh (xw k) p.m:=fun k k0 k1=>hS.slhIn 9 rfl k0 k1
  refine zs5 ?_
  refine zx5<|(zP)<|(zP)<|(zP)<|zlb 33 ?_ ?_<;>intro hc
  ·
   iterate 6 refine zlo ?_
   refine(zP)<|zlt<|zct<|zsr ?_
   refine(zP)<|zx14<|zf1 ⟨_,rfl,?_⟩
   have hw9:wrT t p b=some []:=WG (by omega) (by rintro⟨q1,q2⟩;first|exact absurd q1 ‹¬ZF p b t.s›|omega)
   exact⟨_,_,_,(ZI (show wrT t p b≠none by rw [hw9];exact Option.some_ne_none _)).symm,hv,by rw [hw9];simpa using hI,hS.pk [0,1,2,3,4,5]⟩
  refine(zP)<|(zV (xln VD x4))<|(zV (xfb 1 fd_54_1))<|(zV (xlb 7 Xs hS))<|(zV (xln YI (hK).row.slh))<|(zP)<|(zP)<|zlt<|Ze ?_ ?_<;>intro hc
  ·
   refine zsr<|(zP)<|zx14<|zf1 ⟨_,rfl,?_⟩
   have hw9:wrT t p b=some []:=WG (by omega) (by rintro⟨q1,q2⟩;first|exact absurd q1 ‹¬ZF p b t.s›|omega)
   exact⟨_,_,_,(ZI (show wrT t p b≠none by rw [hw9];exact Option.some_ne_none _)).symm,hv,by rw [hw9];simpa using hI,hS.pk [0,1,2,3,4,5]⟩
  refine YJ<|(zV (xfb 1 fd_54_1))<|(zV (xlb 7 Xs hS))<|(zV (xln YI (hK).row.slh))<|(zP)<|zx6 ?_
  have hsp:ZF p b t.s:=by first|assumption|exact Classical.not_not.1 ‹_›
  have hkn:Zn p b t.s=t.n:=by omega
  have hsb:=hsp.1.2;have hpn:=x4.n1;have hv0:=hv.n0
  refine zlp (fun mm M w=>∃(vp2:Value) (q2:Int) (f2:Int->Int) (i:Int),mm=((t.n-i).toNat)/\(0<=i)/\(i<=t.n)/\(wrT t p b=fw (Tp t p b) (t.n-i).toNat i)/\(Slh vp2 q2)/\(IsL q2 f2 pre)/\(q2=q)/\M= [(4,.pointer (some ⟨gp,0,none⟩)),(5,.pointer (some ⟨gw,0,none⟩)),(9,aa),(42,t.vK),(43,.int .i64 t.n),(44,.int .i64 i)]/\Sat w0 w [.blk gl [.func (.func 16) #[] #[]],.blk gs [.func (.func 13) #[] #[]],.blk gp [vp2],.blk gw [.func (.func 81) #[] #[.pointer (some ⟨gl,0,none⟩),.pointer (some ⟨gs,0,none⟩),.pointer (some ⟨gp,0,none⟩),.pointer (some ⟨gw,0,none⟩)]],.sem (Frame.dq 3 vp2 q2 f2),.sem F,.blk g1 [vL,vD,.int .i64 p.stock,.int .i64 p.kerf,.int .i64 b],.blk g2 [.int .i64 t.s,t.vK,t.vL],.own aa 5 34 (Zn p b t.s) (ZG xw p.stock p.kerf (b-1)),.sem (Frame.rows 3 (2*(Zn p b t.s)) xw (fun _=>p.m) (gfn p (MX p t.s)))]) ⟨vp,q,f,0,rfl,(by omega),(by omega),?_,?_,?_,?_,rfl,hS⟩ ?_
  ·
   exact Wj (by omega) hsp hkn
  ·
   exact hv
  ·
   exact hI
  ·
   rfl
  clear hS w
  rintro mm M w ⟨vp2,q2,f2,i,rfl,h0,h1,hfw,fg,hI2,hq2,rfl,hS⟩
  refine zsr<|(zP)<|zx7<|Ze ?_ ?_<;>intro hc
  ·
   refine zx3<|(zP)<|(zV (xix (kk:=3*i) YI (hK).row.slh))<|(zV (xlw (cs:= [.int .i64 ((t.kid i).s),(t.kid i).vK,(t.kid i).vL]) st_54 ((hK).row.below hS.below) (Yk (q:=3*i) (i:=i) _ (by omega))))<|zla (xal (cs:= [_,_,_]) We hS) ?_;rintro _ w ⟨g4,rfl,hS⟩
   refine(zP)<|zle (xsw 10 st_54 hS (hd:=(Za rfl (Za ((hK).sub (i:=i) (by omega) (by omega)).row.slh.one (Za ((hV).sub (i:=i) (by omega) (by omega)).leaf.row.slh.one Zi))))) ?_;clear hS;rintro w hS
   refine zlz<|(zV (xlb 2 pl_22 hS))<|(zP)<|zla (xli (n:=1) (len:=1) (pv:= [(0,.int .i64 i)]) (cs:= [.int .i64 i]) (c:=ints (fun _=>i)) Zb Zt hS) ?_;rintro v1 w ⟨hS,hv1⟩
   refine zla (Zi1 4 Zb Zt hS (hS.rowN 11 rfl)) ?_;rintro v2 w ⟨hS,hv2⟩
   refine zle (xsb 2 pl_22 hS (hv:=hv2.one)) ?_;clear hS;rintro w hS
   refine zlt<|zsq<|zsq<|zdst [0,1,3,5,6,7,8,9,10,11] [0,1,3,5,6,7,8,9,10,11] 1000 mx_ hS ?_;clear hS;intro w hS
   refine(zDl 0 (fun w hS=>(xlb 2 ZbA hS)))<|(zDw 1 xmv)<|(zDw 2 xmv)<|(zDw 3 (xix (kk:=5*i) VD x4))<|(zDl 4 (fun w hS=>(xlw (cs:= [(xw (2*i)),(xw (2*i+1)),.int .i64 p.stock,.int .i64 p.kerf,.int .i64 (b-1)]) Yq (hS.rowN 6 rfl) (Un (q:=5*i) (i:=i) xw p.stock p.kerf (b-1) (by omega)))))<|(zDl 5 (fun w hS=>(xls 8 st_54 hS)))<|zdc 6 (xcc (vs:= [_,_]) ZiG) (ih i (by omega) (by omega) (pre:=pre++ [i]) (p:=(ZW p t.s i)) (b:=(b-1)) w0 w (Sat.bundle (l1:= [_,_,_,_,_]) (hS.pk [0,1,2,3,4,5,6,7,8,9,10,11])) (fun w1 hb hF=>US (vv:=xw) hsp (hP w1 hb (Zc6 hF 0 rfl)) (V4 hF 4 rfl (k:=2*i) (by omega) (by omega)) (V4 hF 4 rfl (k:=2*i+1) (by omega) (by omega)) (by omega) (by omega)) ((hK).sub (i:=i) (by omega) (by omega)) ((hV).sub (i:=i) (by omega) (by omega)) hv2 (IsL.snoc hI2) (by omega)) ?_;rintro _ w ⟨di,yi,eO,rfl,xA,xj,hS⟩
   replace hS:=Sat.unbundle (l1:= [_,_,_,_,_]) (l3:= []) hS
   refine⟨⟨fun _=>hS.pk [0,1,3,5,6,7,8,9,10,11],hS.pk [0,1,3,5,6,7,8,9,10,11]⟩,?_⟩
   refine zdd<|ztn ?_
   refine Ze ?_ ?_<;>intro hc
   ·
    refine zsr<|(zP)<|zlt<|zrt<|ztr<|zbr<|ztr<|ztr<|zbr<|ztr<|zf1 ⟨_,rfl,?_⟩
    obtain⟨l9,hl9⟩:=Option.ne_none_iff_exists'.1 ‹(wrT (t.kid i) (ZW p t.s i) (b-1))≠none›
    rw [hl9] at xj
    have hw9:wrT t p b=some (i::l9):=hfw.trans (ZeO (by omega) hl9)
    exact⟨_,_,_,(ZI (show wrT t p b≠none by rw [hw9];exact Option.some_ne_none _)).symm,xA,by rw [hw9];rw [List.append_assoc] at xj;exact xj,hS.pk [0,1,2,3,4,5]⟩
   refine zsk<|ztn<|zrg ?_
   iterate 2 refine zlv (xlb 2 pl_22 hS) ?_
   have hqz:=xj.1;have hqy:=xA.n1;rw [List.length_append,List.length_append,List.length_singleton] at hqz
   refine(zV (xln Zb xA))<|(zV (Zp (r:=yi-1)))<|zlv (Zbs (i:=yi-1) (yi-1).toNat Zb xA (Frame.dq.roomy (hS.dqOf 4 rfl))) ?_
   have zJ:=(RF (e:=yi-1) xA (by omega) (by omega))
   replace hS:=hS.dqpre (n:=yi) 4 (yi-1).toNat (by omega)
   replace hS:=hS.dqn 4 (by omega:((yi-1).toNat:Int)=yi-1)
   refine zle (xsb 2 pl_22 hS (hv:=zJ.one)) ?_;clear hS;rintro w hS
   refine zx10<|(zV (Zh (r:=i+1)))<|(zP)<|zln ?_
   rw [show(wrT (t.kid i) (ZW p t.s i) (b-1))=none from Classical.byContradiction ‹¬((wrT (t.kid i) (ZW p t.s i) (b-1))≠none)›] at xj
   simp only [Option.getD_none,List.append_nil] at xj
   refine zlq ⟨(TP di (yi-1).toNat),yi-1,eO,i+1,rfl,(by omega),(by omega),?_,?_,?_,?_,rfl,hS.pk [0,1,2,3,4,5,6,7,8,9]⟩
   ·
    rw [hfw];exact Ziz (by omega) (show Tp t p b i=none from Classical.byContradiction ‹¬((wrT (t.kid i) (ZW p t.s i) (b-1))≠none)›)
   ·
    exact zJ
   ·
    exact IsL.init (i:=i) xj
   ·
    have h8:=xj.1;have h9:=hI2.1;rw [List.length_append,List.length_singleton] at h8;omega
  refine zx8<|(zP)<|zx1<|zf1 ⟨_,rfl,?_⟩
  have hw9:wrT t p b=none:=hfw.trans (ZeP (by omega))
  exact⟨_,_,_,(ZC (show¬wrT t p b≠none by rw [hw9];exact fun h=>h rfl)).symm,fg,by rw [hw9];simpa using hI2,hS.pk [0,1,2,3,4,5]⟩
end Go.Proofs.YtkichmnjjblodaaGreat
namespace Go.Proofs.YtkichmnjjblodaaGreat
open Go Go.RowKit Go.Proofs.Gw
variable {b:Int} {vD:Value}
theorem ZmG:Zc Tryz.prog 50=true:=by kernel_rfl
theorem ZmF:Zc Tryz.prog 51=true:=by kernel_rfl
theorem ZiI:Zc Tryz.prog 68=true:=by kernel_rfl
theorem ZjJ:ZY Tryz.prog 137=some (.nilFunc,1,8):=by kernel_rfl
noncomputable def chkE(t:Tr)(p:Prob)(b:Int):Int:= @ite _ (ZE p b/\Yd t) (Classical.propDecidable _) (match wrT t p b with|none=>0|some _=>21) 1
noncomputable def ZbZ(t:Tr)(p:Prob)(b:Int):List Int:= @ite _ (ZE p b/\Yd t) (Classical.propDecidable _) ((wrT t p b).getD []) []
theorem KL{t:Tr}{p:Prob}(h:¬(ZE p b/\Yd t)):chkE t p b=1/\ZbZ t p b= []:=⟨if_neg h,if_neg h⟩
theorem ZcV{t:Tr}{p:Prob}(h1:ZE p b)(h2:Yd t)(h:wrT t p b≠none):chkE t p b=21/\ZbZ t p b=(wrT t p b).getD []:=by
  refine⟨?_,if_pos ⟨h1,h2⟩⟩
  obtain⟨l,hl⟩:=Option.ne_none_iff_exists'.1 h
  unfold chkE;rw [if_pos ⟨h1,h2⟩,hl]
theorem Xj{t:Tr}{p:Prob}(h1:ZE p b)(h2:Yd t)(h:wrT t p b=none):chkE t p b=0/\ZbZ t p b= []:=by
  refine⟨?_,?_⟩
  · unfold chkE;rw [if_pos ⟨h1,h2⟩,h]
  · unfold ZbZ;rw [if_pos ⟨h1,h2⟩,h];rfl
theorem Zi0{P:Program}{L:List (Nat×Value)}{w:World}{n:Nat}{fn:Func}{R:Ending->World->Prop}{T:TypeId}{s t:Nat}{a1:Addr}{v1 v2:Value}(t1:ZN P T=true)(c1:w.cell? a1=some v1)(h:R (.returned (.tuple #[v1,v2])) w)
    (hr:fn.results= #[.cell s T,.tmp t]:=by exact rfl) (h1:lk L s=some (.pointer (some a1)):=by exact rfl) (h2:lk L t=some v2:=by exact rfl):Ge n [] (bodyPost P fn R) .ret L w:=fun a hF=>by
  refine⟨hF.defers,_,?_,h⟩
  obtain⟨⟨_,_,q1⟩,_⟩:=WL (w:=w) t1
  have e1:=hF.get s _ h1
  have e2:=hF.get t _ h2
  rw [Array.getD_eq_getD_getElem?] at e1 e2
  simp [results,hr,e1,e2,asAddr,loadVar,q1,c1]
theorem Zlm{t:Tr}{vL:Value}{p:Prob}(w0:World)(h:PAt w0 vL vD p)(hb:ZE p b)(hK:KAt w0 t)(hV:LvAt w0 t):
    Calls Tryz.prog 50 [.agg #[vL,vD,.int .i64 p.stock,.int .i64 p.kerf,.int .i64 b],.agg #[.int .i64 t.s,t.vK,t.vL],.func (.func 13) #[] #[],.func (.func 16) #[] #[]].toArray w0 fun e w=>∃v,e= .returned v/\∃r q f,v= .tuple #[r,.int .i64 (chkE t p b)]/\Slh r q/\IsL q f (ZbZ t p b)/\Sat w0 w [.sem (Frame.dq 3 r q f)]:=by
  have hn:=hK.row.slh.n0;have hn1:=hK.row.slh.n1;have hln:=hV.leaf.row.slh.n0;have yt:=hV.leaf.row.slh.n1
  have hm:=h.L.slh.n0;have hm1:=h.L.slh.n1;have hd:=h.D.slh.n0;have hd1:=h.D.slh.n1;have hs:=h.is;have hk:=h.ik
  have hb1:=hb.2
  refine zenG Tryz.func50 Tryz.ntmps50 fun w hS=> ?_
  refine zsr<|zla (xbx (cs:= [_,_,_,_,_]) hS) ?_;rintro _ w ⟨g1,rfl,hS⟩
  refine zla (xbx (cs:= [_,_,_]) hS) ?_;rintro _ w ⟨g2,rfl,hS⟩
  refine zla (xbx (cs:= [_]) hS) ?_;rintro _ w ⟨g3,rfl,hS⟩
  refine zla (xbx (cs:= [_]) hS) ?_;rintro _ w ⟨g4,rfl,hS⟩
  refine zla (xal (cs:= [_]) Z3 hS) ?_;rintro _ w ⟨g5,rfl,hS⟩
  refine(zP)<|zx5<|(zV (xls 1 st_54 hS))<|zlc (xc0 ZiI) (RJ (t:=t) w (KAt.below hS.below (hK)) (LvAt.below hS.below (hV))) ?_;rintro _ w ⟨rfl,hS'⟩
  replace hS:=hS.cmp hS';clear hS'
  refine(zP)<|zlt<|Ze ?_ ?_<;>intro hc
  ·
   refine zsr<|zle (xsb 4 pl_22 hS) ?_;clear hS;rintro w hS
   refine(zP)<|zx14<|Zi0 pl_22 (hS.cellN 4 rfl rfl) ⟨_,rfl,?_⟩
   obtain⟨h8,h9⟩:=KL (t:=t) (p:=p) (b:=b) (fun hh=>‹¬Yd t› hh.2)
   exact⟨_,0,fun _=>0,by rw [h8],slh_nil,by rw [h9];exact IsL.nil,(hS.dqnil 3 (fun _=>0)).sub (.cons _ (.cons _ (.cons _ (.cons _ (.cons _ (.cons_cons _ .slnil))))))⟩
  refine ZS<|zla (xal (cs:= [_]) ZjJ hS) ?_;rintro _ w ⟨g6,rfl,hS⟩
  refine zlz<|(zV xmf)<|zle (xsb 5 ZbA hS) ?_;clear hS;rintro w hS
  refine zx5<|zlv (xlb 5 ZbA hS) ?_
  replace hS:=hS.dqnil 3 (fun _=>0)
  refine(zV (xls 0 Yq hS))<|(zV (xls 1 st_54 hS))<|zlc (xcc (vs:= [_,_]) ZiG) (Znb t (F:=Frame.bun [.blk g1 [vL,vD,.int .i64 p.stock,.int .i64 p.kerf,.int .i64 b],.blk g2 [.int .i64 t.s,t.vK,t.vL]]) (pre:= []) (p:=p) (b:=b) w0 w (Sat.bundle (l1:= [_,_,_,_,_]) (hS.pk [3,2,4,5,6,0,1])) (fun w1 hb _=>h.below hb) hK hV slh_nil IsL.nil (by omega)) ?_;rintro _ w ⟨di,yi,eO,rfl,xA,xj,hS⟩
  replace hS:=Sat.unbundle (l1:= [_,_,_,_,_]) (l3:= []) hS
  refine zlt<|Ze ?_ ?_<;>intro hc
  ·
   refine zsr<|(zV (xlb 2 pl_22 hS))<|zle (xsb 2 pl_22 hS (hv:=xA.one)) ?_;clear hS;rintro w hS
   refine(zP)<|zx14<|Zi0 pl_22 (hS.cellN 2 rfl rfl) ⟨_,rfl,?_⟩
   obtain⟨h8,h9⟩:=ZcV hb (Classical.not_not.1 ‹¬¬Yd t›) ‹wrT t p b≠none›
   exact⟨_,_,_,by rw [h8],xA,by rw [h9];exact xj,hS.pk [4]⟩
  refine ZS<|zle (xsb 2 pl_22 hS) ?_;clear hS;rintro w hS
  refine(zP)<|zx1<|Zi0 pl_22 (hS.cellN 2 rfl rfl) ⟨_,rfl,?_⟩
  obtain⟨h8,h9⟩:=Xj hb (Classical.not_not.1 ‹¬¬Yd t›) (Classical.byContradiction ‹¬(wrT t p b≠none)›)
  exact⟨_,0,fun _=>0,by rw [h8],slh_nil,by rw [h9];exact IsL.nil,(hS.dqnil 3 (fun _=>0)).sub (.cons _ (.cons _ (.cons _ (.cons _ (.cons _ (.cons _ (.cons _ (.cons_cons _ .slnil))))))))⟩
theorem Znf{t:Tr}{vL:Value}{p:Prob}(w0:World)(h:PAt w0 vL vD p)(hK:KAt w0 t)(hV:LvAt w0 t):
    Calls Tryz.prog 21 [.agg #[vL,vD,.int .i64 p.stock,.int .i64 p.kerf,.int .i64 b],.agg #[.int .i64 t.s,t.vK,t.vL]].toArray w0 fun e w=>∃v,e= .returned v/\∃r q f,v= .tuple #[r,.int .i64 (chkE t p b)]/\Slh r q/\IsL q f (ZbZ t p b)/\Sat w0 w [.sem (Frame.dq 3 r q f)]:=by
  have hn:=hK.row.slh.n0;have hn1:=hK.row.slh.n1;have hln:=hV.leaf.row.slh.n0;have yt:=hV.leaf.row.slh.n1
  have hm:=h.L.slh.n0;have hm1:=h.L.slh.n1;have hd:=h.D.slh.n0;have hd1:=h.D.slh.n1;have hs:=h.is;have hk:=h.ik
  refine zenG Tryz.func21 Tryz.ntmps21 fun w hS=> ?_
  refine zsr<|zla (xbx (cs:= [_,_,_,_,_]) hS) ?_;rintro _ w ⟨g1,rfl,hS⟩
  refine zla (xbx (cs:= [_,_,_]) hS) ?_;rintro _ w ⟨g2,rfl,hS⟩
  refine(zP)<|(zP)<|zx5<|(zV (xls 0 Yq hS))<|zlc (xc0 ZcT) (KN (p:=p) (b:=b) w (h.below hS.below)) ?_;rintro _ w ⟨rfl,hS'⟩
  replace hS:=hS.cmp hS';clear hS'
  refine(zP)<|zlt<|Ze ?_ ?_<;>intro hc
  ·
   refine zsr<|(zP)<|(zP)<|zx14<|zf2 ⟨_,rfl,?_⟩
   obtain⟨h8,h9⟩:=KL (t:=t) (p:=p) (b:=b) (fun hh=>‹¬ZE p b› hh.1)
   exact⟨_,0,fun _=>0,by rw [h8],slh_nil,by rw [h9];exact IsL.nil,(hS.dqnil 3 (fun _=>0)).sub (.cons _ (.cons _ (.cons_cons _ .slnil)))⟩
  refine ZS<|(zV (xls 0 Yq hS))<|(zV (xls 1 st_54 hS))<|zlc (xc0 ZmG) (Zlm (t:=t) (p:=p) (b:=b) w (h.below hS.below) (Classical.not_not.1 ‹¬¬ZE p b›) (KAt.below hS.below (hK)) (LvAt.below hS.below (hV))) ?_;rintro _ w ⟨rk1,k1,fk1,rfl,cB,cN,hS'⟩
  replace hS:=(hS.comp hS').n3;clear hS'
  refine zs4 ?_
  refine zx1<|zf2 ⟨_,rfl,?_⟩
  exact⟨_,_,_,rfl,cB,cN,hS.pk [2]⟩
theorem Zli{t:Tr}{vL:Value}{p:Prob}(w0:World)(h:PAt w0 vL vD p)(hK:KAt w0 t)(hV:LvAt w0 t):
    Calls Tryz.prog 23 [.agg #[vL,vD,.int .i64 p.stock,.int .i64 p.kerf,.int .i64 b],.agg #[.int .i64 t.s,t.vK,t.vL]].toArray w0 fun e w=>∃v,e= .returned v/\∃r q f,v= .tuple #[r,.int .i64 (chkE t p b)]/\Slh r q/\IsL q f (ZbZ t p b)/\Sat w0 w [.own r 1 3 q (ints f)]:=by
  have hn:=hK.row.slh.n0;have hn1:=hK.row.slh.n1;have hln:=hV.leaf.row.slh.n0;have yt:=hV.leaf.row.slh.n1
  have hm:=h.L.slh.n0;have hm1:=h.L.slh.n1;have hd:=h.D.slh.n0;have hd1:=h.D.slh.n1;have hs:=h.is;have hk:=h.ik
  refine zenG Tryz.func23 Tryz.ntmps23 fun w hS=> ?_
  refine zsr<|zla (xbx (cs:= [_,_,_,_,_]) hS) ?_;rintro _ w ⟨g1,rfl,hS⟩
  refine zla (xbx (cs:= [_,_,_]) hS) ?_;rintro _ w ⟨g2,rfl,hS⟩
  refine(zP)<|(zP)<|zx5<|(zV (xls 0 Vi hS))<|zlc (xc0 ZcU) (UW (p:=p) (b:=b) w (h.below hS.below)) ?_;rintro _ w ⟨rfl,hS'⟩
  replace hS:=hS.cmp hS';clear hS'
  refine(zP)<|(zP)<|zlb 11 ?_ ?_<;>intro hc
  ·
   iterate 3 refine zlo ?_
   refine(zP)<|zlt<|zct<|zsr ?_
   refine(zP)<|(zP)<|zx14<|zf2 ⟨_,rfl,?_⟩
   obtain⟨h8,h9⟩:=KL (t:=t) (p:=p) (b:=b) (by rintro⟨q1,q2⟩;first|exact absurd q1 ‹¬ZE p b›|exact absurd q2 ‹¬Yd t›)
   exact⟨_,0,fun _=>0,by rw [h8],slh_nil,by rw [h9];exact IsL.nil,(hS.addnil 1 3 (ints fun _=>0)).sub (.cons _ (.cons _ (.cons_cons _ .slnil)))⟩
  refine(zV (xls 1 st_45 hS))<|zlc (xc0 ZmF) (Zb5 (t:=t) w (KAt.below hS.below (hK)) (LvAt.below hS.below (hV))) ?_;rintro _ w ⟨rfl,hS'⟩
  replace hS:=hS.cmp hS';clear hS'
  refine(zP)<|(zP)<|zlt<|Ze ?_ ?_<;>intro hc
  ·
   refine zsr<|(zP)<|(zP)<|zx14<|zf2 ⟨_,rfl,?_⟩
   obtain⟨h8,h9⟩:=KL (t:=t) (p:=p) (b:=b) (by rintro⟨q1,q2⟩;first|exact absurd q1 ‹¬ZE p b›|exact absurd q2 ‹¬Yd t›)
   exact⟨_,0,fun _=>0,by rw [h8],slh_nil,by rw [h9];exact IsL.nil,(hS.addnil 1 3 (ints fun _=>0)).sub (.cons _ (.cons _ (.cons_cons _ .slnil)))⟩
  refine ZS<|(zV (xls 0 Vi hS))<|(zV (xls 1 st_45 hS))<|zlc (xc0 ZiN) (ZhF t (p:=p) (b:=b) w (h.below hS.below) (KAt.below hS.below (hK)) (LvAt.below hS.below (hV))) ?_;rintro _ w ⟨rq1,q1,fq1,rfl,dU,zT,hS'⟩
  replace hS:=(hS.comp hS').n3;clear hS'
  have fW:=Zl5 zT
  refine zs5 ?_
  refine zx5<|(zP)<|zlt<|Ze ?_ ?_<;>intro hc
  ·
   refine zsr<|(zP)<|(zP)<|(zP)<|zx14<|zf2 ⟨_,rfl,?_⟩
   obtain⟨h8,h9⟩:=ZcV (Classical.not_not.1 ‹¬¬ZE p b›) (Classical.not_not.1 ‹¬¬Yd t›) ‹wrT t p b≠none›
   exact⟨_,_,_,by rw [h8],dU,by rw [h9];exact zT,hS.pk [2]⟩
  refine ZS<|(zP)<|(zP)<|zx1<|zf2 ⟨_,rfl,?_⟩
  obtain⟨h8,h9⟩:=Xj (Classical.not_not.1 ‹¬¬ZE p b›) (Classical.not_not.1 ‹¬¬Yd t›) (Classical.byContradiction ‹¬(wrT t p b≠none)›)
  exact⟨_,0,fun _=>0,by rw [h8],slh_nil,by rw [h9];exact IsL.nil,(hS.addnil 1 3 (ints fun _=>0)).sub (.cons _ (.cons _ (.cons _ (.cons_cons _ .slnil))))⟩
end Go.Proofs.YtkichmnjjblodaaGreat
namespace Go.Proofs.YtkichmnjjblodaaGreat
open Go Go.RowKit Go.Proofs.Gw
variable {cnt ln:Int->Int} {pt:Int->Int->Int} {pv:Int->Value} {vD vV:Value}
theorem ZfF{u:Int}{vL:Value}{p:Prob}(w0:World)(hV:VAt w0 vV u pv ln pt cnt)(h:PAt w0 vL vD p):
    Calls Tryz.prog 89 [.agg #[vL,vD,.int .i64 p.stock,.int .i64 p.kerf],vV].toArray w0 fun e w=>∃v,e= .returned v/\v=B (PlanOk p u ln pt cnt)/\Sat w0 w []:=by
  have hm:=h.L.slh.n0;have hm1:=h.L.slh.n1;have hd:=h.D.slh.n0;have hd1:=h.D.slh.n1;have hs:=h.is;have hk:=h.ik
  have hu:=hV.row.slh.n0;have hu1:=hV.row.slh.n1
  refine zenG Tryz.func89 Tryz.ntmps89 fun w hS=> ?_
  refine zsr<|zla (xbx (cs:= [_,_,_,_]) hS) ?_;rintro _ w ⟨g1,rfl,hS⟩
  refine(zP)<|zx5<|(zV (xls 0 ZV hS))<|zlc (xc0 RG) (Xl (p:=p) w (h.below hS.below)) ?_;rintro _ w ⟨rfl,hS'⟩
  replace hS:=hS.cmp hS';clear hS'
  refine(zP)<|(zP)<|zlb 9 ?_ ?_<;>intro hc
  ·
   iterate 3 refine zlo ?_
   refine(zP)<|zlt<|zct<|zsr ?_
   refine(zP)<|zx14<|zf1 ⟨_,rfl,?_⟩
   refine⟨Zf (fun hh=> ?_),hS.nl⟩
   first
   |exact absurd hh.1 ‹¬p.Ok›
   |(have:=hh.2.1;omega)
   |(have h9:=hh.2.2 i h0 (by omega);first|exact absurd h9.2.2 ‹_›|omega)
  refine(zP)<|(zV (xln Wy hV.row.slh))<|(zP)<|(zP)<|zlt<|Ze ?_ ?_<;>intro hc
  ·
   refine zsr<|(zP)<|zx14<|zf1 ⟨_,rfl,?_⟩
   refine⟨Zf (fun hh=> ?_),hS.nl⟩
   first
   |exact absurd hh.1 ‹¬p.Ok›
   |(have:=hh.2.1;omega)
   |(have h9:=hh.2.2 i h0 (by omega);first|exact absurd h9.2.2 ‹_›|omega)
  refine YJ<|(zP)<|zx6 ?_
  have xE:p.Ok:=by first|assumption|exact Classical.not_not.1 ‹_›
  refine zlp (fun mm M w=>∃(i:Int),mm=((u-i).toNat)/\(0<=i)/\(i<=u)/\(∀k,0<=k->k<i->1<=cnt k/\cnt k<=1000/\FitsP p (ln k) (pt k))/\M= [(1,vV),(2,.pointer (some ⟨g1,0,none⟩)),(5,.int .i64 i)]/\Sat w0 w [.blk g1 [vL,vD,.int .i64 p.stock,.int .i64 p.kerf]]) ⟨0,rfl,(by omega),(by omega),?_,rfl,hS⟩ ?_
  ·
   intro k h0 h1;omega
  clear hS w
  rintro mm M w ⟨i,rfl,h0,h1,qa,rfl,hS⟩
  refine zx11<|(zP)<|(zP)<|(zV (xln Wy hV.row.slh))<|(zP)<|zlt<|Ze ?_ ?_<;>intro hc
  ·
   refine zsk<|ztn<|zsq<|zbk<|zsq<|zdst [0] [0] 1000 mx_ hS ?_;clear hS;intro w hS
   refine(zDl 0 (fun w hS=>(xls 0 ZV hS)))<|(zDw 1 xmv)<|(zDw 2 xmv)<|(zDw 3 (xix (kk:=2*i) Wy hV.row.slh))<|(zDw 4 (xfc (kk:=2*i) ZaX hV.row.slh))<|(zDl 5 (fun w hS=>(xlr (u:=(pv i)) pl_22 (hV.row.below hS.below) (e:=(R9 pv cnt (by omega))))))<|zdc 6 (xc0 ZcP) (KQ (p:=p) w (h.below hS.below) ((hV.p i (by omega) (by omega)).below hS.below)) ?_;rintro _ w ⟨rfl,hS'⟩
   replace hS:=hS.cmp hS';clear hS'
   refine⟨⟨fun _=>hS,hS⟩,?_⟩
   refine(zDw 7 Yz)<|(zDw 8 xmv)<|zdb 28 ?_ ?_<;>intro hc
   ·
    refine(zDo 9)<|(zDo 10)<|(zDo 11)<|(zDo 12)<|(zDo 13)<|(zDo 14)<|(zDw 15 xpt)<|(zDw 16 xmv)<|(zDo 17)<|(zDo 18)<|(zDo 19)<|(zDo 20)<|(zDo 21)<|(zDo 22)<|zDrv 23 xpt ?_
    refine zdd<|ztn<|zct<|zsr ?_
    refine(zP)<|zx2<|zf1 ⟨_,rfl,?_⟩
    refine⟨Zf (fun hh=> ?_),hS.nl⟩
    first
    |exact absurd hh.1 ‹¬p.Ok›
    |(have:=hh.2.1;omega)
    |(have h9:=hh.2.2 i h0 (by omega);first|exact absurd h9.2.2 ‹_›|omega)
   refine(zDw 9 xmv)<|(zDw 10 xmv)<|(zDw 11 (xix (kk:=2*i) Wy hV.row.slh))<|(zDw 12 (xfc (kk:=2*i+1) VW hV.row.slh))<|(zDl 13 (fun w hS=>(xlr (u:= .int .i64 (cnt i)) pl_3 (hV.row.below hS.below) (e:=(WV pv cnt (by omega))))))<|(zDw 14 Z4)<|(zDw 15 xpf)<|(zDw 16 xmv)<|zdb 36 ?_ ?_<;>intro hc
   ·
    refine(zDo 17)<|(zDo 18)<|(zDo 19)<|(zDo 20)<|(zDo 21)<|(zDo 22)<|(zDw 23 xpt)<|zdd<|ztn<|zct<|zsr ?_
    refine(zP)<|zx2<|zf1 ⟨_,rfl,?_⟩
    refine⟨Zf (fun hh=> ?_),hS.nl⟩
    first
    |exact absurd hh.1 ‹¬p.Ok›
    |(have:=hh.2.1;omega)
    |(have h9:=hh.2.2 i h0 (by omega);first|exact absurd h9.2.2 ‹_›|omega)
   refine(zDw 17 xmv)<|(zDw 18 xmv)<|(zDw 19 (xix (kk:=2*i) Wy hV.row.slh))<|(zDw 20 (xfc (kk:=2*i+1) VW hV.row.slh))<|(zDl 21 (fun w hS=>(xlr (u:= .int .i64 (cnt i)) pl_3 (hV.row.below hS.below) (e:=(WV pv cnt (by omega))))))<|(zDw 22 Ys)<|(zDw 23 xpf)<|zdd<|ztn ?_
   refine Ze ?_ ?_<;>intro hc
   ·
    refine zsr<|(zP)<|zx2<|zf1 ⟨_,rfl,?_⟩
    refine⟨Zf (fun hh=> ?_),hS.nl⟩
    first
    |exact absurd hh.1 ‹¬p.Ok›
    |(have:=hh.2.1;omega)
    |(have h9:=hh.2.2 i h0 (by omega);first|exact absurd h9.2.2 ‹_›|omega)
   refine zx4<|(zP)<|(zV (Zh (r:=i+1)))<|(zP)<|zln<|zlq ⟨i+1,rfl,(by omega),(by omega),?_,rfl,hS⟩
   ·
    intro k h0' h1';rcases Int.lt_or_eq_of_le (show k<=i by omega) with hk|hk;exact qa k h0' hk;rw [hk];exact⟨by omega,by omega,by first|assumption|exact Classical.not_not.1 ‹_›⟩
  refine zx8<|(zP)<|zx1<|zf1 ⟨_,rfl,?_⟩
  exact⟨ZX ⟨xE,by omega,fun k k0 k1=>qa k k0 (by omega)⟩,hS.nl⟩
theorem ZhH{u:Int}{vL:Value}{p:Prob}(w0:World)(hV:VAt w0 vV u pv ln pt cnt)(h:PAt w0 vL vD p):
    Calls Tryz.prog 58 [.agg #[vL,vD,.int .i64 p.stock,.int .i64 p.kerf],vV].toArray w0 fun e w=>∃v,e= .returned v/\∃r n f e,v= .tuple #[r,.int .i64 e]/\((¬PlanOk p u ln pt cnt/\n=0/\e=1)\/(PlanOk p u ln pt cnt/\n=p.m/\f=Zw u pt cnt/\e=0))/\Slh r n/\Sat w0 w [.own r 1 3 n (ints f)]:=by
  have hm:=h.L.slh.n0;have hm1:=h.L.slh.n1;have hd:=h.D.slh.n0;have hd1:=h.D.slh.n1;have hs:=h.is;have hk:=h.ik
  have hu:=hV.row.slh.n0;have hu1:=hV.row.slh.n1
  refine zenG Tryz.func58 Tryz.ntmps58 fun w hS=> ?_
  refine zsr<|zla (xbx (cs:= [_,_,_,_]) hS) ?_;rintro _ w ⟨g1,rfl,hS⟩
  refine(zP)<|(zP)<|zx5<|(zV (xls 0 ZV hS))<|(zP)<|zlc (xc0 Zmu) (ZfF (u:=u) (pv:=pv) (ln:=ln) (pt:=pt) (cnt:=cnt) (p:=p) w (hV.below hS.below) (h.below hS.below)) ?_;rintro _ w ⟨rfl,hS'⟩
  replace hS:=hS.cmp hS';clear hS'
  refine(zP)<|zlt<|Ze ?_ ?_<;>intro hc
  ·
   refine zsr<|(zP)<|(zP)<|zx14<|zf2 ⟨_,rfl,?_⟩
   exact⟨_,0,fun _=>0,1,rfl,.inl ⟨‹¬PlanOk p u ln pt cnt›,rfl,rfl⟩,slh_nil,(hS.sub (.cons _ .slnil)).addnil 1 3 (ints fun _=>0)⟩
  refine ZS<|zlv (xfb 0 fd_24_0) ?_
  have qx:PlanOk p u ln pt cnt:=by first|assumption|exact Classical.not_not.1 ‹_›
  have zR:=qx.1.m1;have qz:=qx.1.m2;have hu3:=qx.2.1
  refine(zV (xlb 0 pl_22 hS))<|(zV (xln Zb h.L.slh))<|zla (xmk Zb Zt hS) ?_;rintro v1 w ⟨hS,hv1⟩
  refine(zP)<|zx5<|(zP)<|zx6<|zlp (fun mm M w=>∃(f:Int->Int) (i:Int),mm=((u-i).toNat)/\(0<=i)/\(i<=u)/\(∀k,0<=k->k<p.m->f k=Zw i pt cnt k)/\M= [(1,vV),(4,.slice none 0 0),(5,.int .i64 0),(6,v1),(7,.int .i64 i)]/\Sat w0 w [.blk g1 [vL,vD,.int .i64 p.stock,.int .i64 p.kerf],.own v1 1 3 p.m (ints f)]) ⟨(fun _=>0),0,rfl,(by omega),(by omega),?_,rfl,hS⟩ ?_
  ·
   intro k _ _;rfl
  clear hS w
  rintro mm M w ⟨f,i,rfl,h0,h1,hf,rfl,hS⟩
  refine zx11<|(zP)<|(zP)<|(zV (xln Wy hV.row.slh))<|(zP)<|zlt<|Ze ?_ ?_<;>intro hc
  ·
   refine zx3<|(zP)<|zx6<|zlp (fun mm M w=>∃(f2:Int->Int) (j:Int),mm=((p.m-j).toNat)/\(0<=j)/\(j<=p.m)/\(∀k,0<=k->k<p.m->f2 k=(if k<j then Zw (i+1) pt cnt k else Zw i pt cnt k))/\M= [(1,vV),(4,.slice none 0 0),(5,.int .i64 0),(6,v1),(7,.int .i64 i),(8,.int .i64 j)]/\Sat w0 w [.blk g1 [vL,vD,.int .i64 p.stock,.int .i64 p.kerf],.own v1 1 3 p.m (ints f2)]) ⟨f,0,rfl,(by omega),(by omega),?_,rfl,hS⟩ ?_
   ·
    intro k k0 k1;rw [if_neg (by omega)];exact hf k k0 k1
   clear hS w
   rintro mm M w ⟨f2,j,rfl,j0,j1,hf2,rfl,hS⟩
   refine zx11<|(zP)<|(zP)<|(zV (xln Zb hv1))<|(zP)<|zlt<|Ze ?_ ?_<;>intro hc
   ·
    refine zx29<|zdst [0,1] [0] 20 mx_ hS ?_;clear hS;intro w hS
    refine(zDw 0 xmv)<|(zDw 1 xmv)<|(zDw 2 (xix (kk:=j) Zb hv1))<|zdl 3 (fun w hS=>(xlr (u:= .int .i64 (f2 j)) pl_3 (hS.rowN 1 rfl))) ?_
    obtain⟨hq1,hq2,hq3⟩:=qx.2.2 i h0 (by omega)
    have hq4:=hq3.eq
    have hpj:=hq3.all j j0 (by omega)
    have hmr:=XA qx.2.2 h0 (by omega) (j:=j) j0 (by omega)
    have hfj:=hf2 j j0 (by omega)
    rw [if_neg (by omega)] at hfj
    have hmj:=Wb hpj.1 hpj.2 (show 0<=cnt i by omega) hq2
    refine(zDw 4 xmv)<|(zDw 5 xmv)<|(zDw 6 (xix (kk:=2*i) Wy hV.row.slh))<|(zDw 7 (xfc (kk:=2*i) ZaX hV.row.slh))<|(zDl 8 (fun w hS=>(xlr (u:=(pv i)) pl_22 (hV.row.below hS.below) (e:=(R9 pv cnt (by omega))))))<|(zDw 9 xmv)<|(zDw 10 (xix (kk:=j) Zb (hV.p i (by omega) (by omega)).slh))<|(zDl 11 (fun w hS=>(xlr (u:= .int .i64 ((pt i) j)) pl_3 ((hV.p i (by omega) (by omega)).below hS.below))))<|(zDw 12 xmv)<|(zDw 13 xmv)<|(zDw 14 (xix (kk:=2*i) Wy hV.row.slh))<|(zDw 15 (xfc (kk:=2*i+1) VW hV.row.slh))<|(zDl 16 (fun w hS=>(xlr (u:= .int .i64 (cnt i)) pl_3 (hV.row.below hS.below) (e:=(WV pv cnt (by omega))))))<|(zDw 17 (Z7 (r:=(((pt i) j)*(cnt i))) (e:=rfl)))<|zdv 18 (fun _=>(Zh (r:=f2 j+(((pt i) j)*(cnt i))))) ?_
    refine(zDw 19 (xix (kk:=j) Zb hv1))<|zde 20 (xso 1 pl_3 hS (Zq _ _ _)) ?_;clear hS;rintro w hS
    refine⟨⟨fun h=>absurd h (by decide),hS.pk [0]⟩,?_⟩
    refine zdd<|zbn<|ztn<|zrg ?_
    refine(zP)<|(zV (Zh (r:=j+1)))<|(zP)<|zln<|zlq ⟨(upd f2 j (f2 j+(((pt i) j)*(cnt i)))),j+1,rfl,(by omega),(by omega),?_,rfl,hS⟩
    ·
     intro k k0 k1;unfold upd;by_cases e:k=j
     · rw [if_pos e,if_pos (by omega),e,Xh h0];omega
     · rw [if_neg e,hf2 k k0 k1];by_cases e2:k<j
       · rw [if_pos e2,if_pos (by omega)]
       · rw [if_neg e2,if_neg (by omega)]
   refine zx21<|(zP)<|(zV (Zh (r:=i+1)))<|(zP)<|zln<|zlq ⟨f2,i+1,rfl,(by omega),(by omega),?_,rfl,hS⟩
   ·
    intro k k0 k1;rw [hf2 k k0 k1,if_pos (by omega)]
  refine zx8<|(zP)<|(zP)<|(zP)<|zx1<|zf2 ⟨_,rfl,?_⟩
  have hiu:i=u:=by omega
  rw [hiu] at hf
  replace hS:=hS.recont 1 rfl (d:=ints (Zw u pt cnt)) (fun k k0 k1=>congrArg (Value.int .i64) (hf k k0 (by omega)))
  exact⟨_,_,_,0,rfl,.inr ⟨qx,rfl,rfl,rfl⟩,hv1,hS.pk [1]⟩
theorem ZfG{u:Int}{vL:Value}{p:Prob}(w0:World)(hV:VAt w0 vV u pv ln pt cnt)(h:PAt w0 vL vD p):
    Calls Tryz.prog 33 [.agg #[vL,vD,.int .i64 p.stock,.int .i64 p.kerf],vV].toArray w0 fun e w=>∃v,e= .returned v/\v=B (PlanOk p u ln pt cnt/\∀j,0<=j->j<p.m->p.D j<=Zw u pt cnt j)/\Sat w0 w []:=by
  have hm:=h.L.slh.n0;have hm1:=h.L.slh.n1;have hd:=h.D.slh.n0;have hd1:=h.D.slh.n1;have hs:=h.is;have hk:=h.ik
  refine zenG Tryz.func33 Tryz.ntmps33 fun w hS=> ?_
  refine zsr<|zla (xbx (cs:= [_,_,_,_]) hS) ?_;rintro _ w ⟨g1,rfl,hS⟩
  refine(zP)<|zlz<|(zV (xls 0 ZV hS))<|(zP)<|zlc (xc0 ZmE) (ZhH (u:=u) (pv:=pv) (ln:=ln) (pt:=pt) (cnt:=cnt) (p:=p) w (hV.below hS.below) (h.below hS.below)) ?_;rintro _ w ⟨qw,qf,qc,yE,rfl,qA,qo,hS'⟩
  replace hS:=(hS.comp hS').n2;clear hS'
  refine zs5 ?_
  refine zx5<|(zP)<|(zP)<|zlt<|Ze ?_ ?_<;>intro hc
  ·
   refine zsr<|(zP)<|zx14<|zf1 ⟨_,rfl,?_⟩
   refine⟨Zf ?_,hS.nl⟩
   first
   |(intro hh;have h9:=hh.2 i h0 (by omega);rw [<-hA3] at h9;omega)
   |(rcases qA with⟨q1,_⟩|⟨_,_,_,q4⟩;exact fun hh=>q1 hh.1;omega)
  refine YJ<|(zP)<|zx6 ?_
  obtain⟨hA1,hA2,hA3⟩:PlanOk p u ln pt cnt/\qf=p.m/\qc=Zw u pt cnt:=by rcases qA with⟨_,_,q3⟩|⟨q1,q2,q3,_⟩;omega;exact⟨q1,q2,q3⟩
  have hpd:=hA1.1.d
  refine zlp (fun mm M w=>∃(i:Int),mm=((qf-i).toNat)/\(0<=i)/\(i<=qf)/\(∀k,0<=k->k<i->p.D k<=qc k)/\M= [(2,.pointer (some ⟨g1,0,none⟩)),(5,qw),(7,.int .i64 i)]/\Sat w0 w [.blk g1 [vL,vD,.int .i64 p.stock,.int .i64 p.kerf],.own qw 1 3 qf (ints qc)]) ⟨0,rfl,(by omega),(by omega),?_,rfl,hS⟩ ?_
  ·
   intro k h0 h1;omega
  clear hS w
  rintro mm M w ⟨i,rfl,h0,h1,qa,rfl,hS⟩
  refine zx11<|(zP)<|(zP)<|(zV (xln Zb qo))<|(zP)<|zlt<|Ze ?_ ?_<;>intro hc
  ·
   refine zsk<|ztn<|zsq<|zbk<|zsq<|zdst [0,1] [0,1] 1000 mx_ hS ?_;clear hS;intro w hS
   refine(zDw 0 xmv)<|(zDw 1 xmv)<|(zDw 2 (xix (kk:=i) Zb qo))<|(zDl 3 (fun w hS=>(xlr (u:= .int .i64 (qc i)) pl_3 (hS.rowN 1 rfl))))<|(zDw 4 (xfb 1 fd_24_1))<|(zDl 5 (fun w hS=>(xlb 0 pl_22 hS)))<|(zDw 6 xmv)<|(zDw 7 (xix (kk:=i) Zb h.D.slh))<|zdla 8 (fun w hS=>(xlr (u:= .int .i64 (p.D i)) pl_3 (h.D.below hS.below))) ?_
   have hbv:=h.iD i
   refine(zDw 9 Z4)<|zdd<|ztn ?_
   refine Ze ?_ ?_<;>intro hc
   ·
    refine zsr<|(zP)<|zx2<|zf1 ⟨_,rfl,?_⟩
    refine⟨Zf ?_,hS.nl⟩
    first
    |(intro hh;have h9:=hh.2 i h0 (by omega);rw [<-hA3] at h9;omega)
    |(rcases qA with⟨q1,_⟩|⟨_,_,_,q4⟩;exact fun hh=>q1 hh.1;omega)
   refine zx4<|(zP)<|(zV (Zh (r:=i+1)))<|(zP)<|zln<|zlq ⟨i+1,rfl,(by omega),(by omega),?_,rfl,hS⟩
   ·
    intro k h0' h1';rcases Int.lt_or_eq_of_le (show k<=i by omega) with hk|hk;exact qa k h0' hk;rw [hk];omega
  refine zx8<|(zP)<|zx1<|zf1 ⟨_,rfl,?_⟩
  refine⟨ZX ⟨hA1,fun j j0 j1=> ?_⟩,hS.nl⟩
  have:=qa j j0 (by omega);rw [hA3] at this;exact this
theorem ZhJ{u:Int}(w0:World)(hV:VAt w0 vV u pv ln pt cnt)(hu6:u<=1000000)(hbc:∀k,0<=k->k<u->0<=cnt k/\cnt k<=1000000000):
    Calls Tryz.prog 34 [vV].toArray w0 fun e w=>∃v,e= .returned v/\v= .int .i64 (psum (fun _=>1) cnt u.toNat)/\Sat w0 w []:=by
  have hn:=hV.row.slh.n0;have hn1:=hV.row.slh.n1
  refine zenG Tryz.func34 Tryz.ntmps34 fun w hS=> ?_
  refine zsr<|(zP)<|zlz<|(zP)<|zx5<|(zP)<|zx6<|zlp (fun mm M w=>∃(s:Int) (i:Int),mm=((u-i).toNat)/\(0<=i)/\(i<=u)/\(s=psum (fun _=>1) cnt i.toNat)/\(0<=s/\s<=1000000000*i)/\M= [(0,vV),(2,.int .i64 0),(3,.int .i64 s),(4,.int .i64 i)]/\Sat w0 w []) ⟨0,0,rfl,(by omega),(by omega),?_,(by omega),rfl,hS⟩ ?_
  ·
   rfl
  clear hS w
  rintro mm M w ⟨s,i,rfl,h0,h1,hs9,hsb,rfl,hS⟩
  refine zx11<|(zP)<|(zP)<|(zV (xln Wy hV.row.slh))<|(zP)<|zlt<|Ze ?_ ?_<;>intro hc
  ·
   refine zsk<|ztn<|zsq<|zbk<|zrg<|(zP)<|(zP)<|(zP)<|(zV (xix (kk:=2*i) Wy hV.row.slh))<|(zV (xfc (kk:=2*i+1) VW hV.row.slh))<|zlv (xlr (u:= .int .i64 (cnt i)) pl_3 (hV.row.below hS.below) (e:=(WV pv cnt (by omega)))) ?_
   have hci:=hbc i h0 (by omega)
   refine(zV (Zh (r:=s+(cnt i))))<|(zP)<|zx10<|(zP)<|(zV (Zh (r:=i+1)))<|(zP)<|zln<|zlq ⟨s+(cnt i),i+1,rfl,(by omega),(by omega),?_,(by omega),rfl,hS⟩
   ·
    rw [YG _ _ h0,<-hs9];omega
  refine zx8<|(zP)<|(zP)<|zx1<|zf1 ⟨_,rfl,?_⟩
  obtain rfl:i=u:=by omega
  exact⟨congrArg (Value.int .i64) hs9,hS⟩
end Go.Proofs.YtkichmnjjblodaaGreat
namespace Go.Proofs.YtkichmnjjblodaaGreat
open Go Go.RowKit Go.Proofs.Gw
theorem ZmT:Zc Tryz.prog 21=true:=by kernel_rfl
theorem ZmS:Zc Tryz.prog 23=true:=by kernel_rfl
theorem ZmO:Zc Tryz.prog 33=true:=by kernel_rfl
theorem ZmN:Zc Tryz.prog 34=true:=by kernel_rfl
theorem ZiR:Zc Tryz.prog 39=true:=by kernel_rfl
theorem Zmz:Zc Tryz.prog 70=true:=by kernel_rfl
theorem UU:Zs Tryz.prog 63 0=some 0:=by kernel_rfl
theorem ZcH:Zs Tryz.prog 63 1=some 1:=by kernel_rfl
theorem ZcG:Zs Tryz.prog 63 2=some 2:=by kernel_rfl
theorem Znd{v:Value}{n:Int}{f:Int->Int}(w0:World)(hR:Row w0 v 1 n (ints f)):
    Calls Tryz.prog 69 [v,.slice none 0 0].toArray w0 fun e w=>∃v,e= .returned v/\v=B (n=0)/\Sat w0 w []:=by
  have hn:=hR.slh.n0
  refine zenG Tryz.func69 Tryz.ntmps69 fun w hS=> ?_
  refine zsr<|(zP)<|zx5<|(zP)<|(zV (xln Zb hR.slh))<|(zP)<|(zV (xln Zb slh_nil))<|(zP)<|zlt<|Ze ?_ ?_<;>intro hc
  ·
   refine zsr<|(zP)<|zx14<|zf1 ⟨_,rfl,?_⟩
   exact⟨Zf (by omega),hS⟩
  refine YJ<|(zP)<|(zV (xln Zb hR.slh))<|(zP)<|zx6<|zlp (fun mm M w=>∃(i:Int),mm=((n-i).toNat)/\(0<=i)/\(i<=n)/\M= [(0,v),(1,.slice none 0 0),(12,.int .i64 n),(13,.int .i64 i)]/\Sat w0 w []) ⟨0,rfl,(by omega),(by omega),rfl,hS⟩ ?_
  clear hS w
  rintro mm M w ⟨i,rfl,h0,h1,rfl,hS⟩
  refine zsr<|(zV (xkf Z4))<|zx7<|zcf<|zxt<|ztx<|ztx<|zbh<|ztn<|zsr ?_
  refine(zP)<|zx1<|zf1 ⟨_,rfl,?_⟩
  exact⟨ZX (by omega),hS⟩
theorem ZlF{t:Tr}(w0:World)(hK:KAt w0 t)(hV:LvAt w0 t):
    Calls Tryz.prog 70 [t.vK,.slice none 0 0,.func (.func 39) #[] #[]].toArray w0 fun e w=>∃v,e= .returned v/\v=B (t.n=0)/\Sat w0 w []:=by
  have hn:=hK.row.slh.n0;have hn1:=hK.row.slh.n1;have hln:=hV.leaf.row.slh.n0;have yt:=hV.leaf.row.slh.n1
  refine zenG Tryz.func70 Tryz.ntmps70 fun w hS=> ?_
  refine zsr<|(zP)<|zx5<|(zP)<|(zV (xln YI (hK).row.slh))<|(zP)<|(zV (xln YI slh_nil))<|(zP)<|zlt<|Ze ?_ ?_<;>intro hc
  ·
   refine zsr<|(zP)<|zx14<|zf1 ⟨_,rfl,?_⟩
   exact⟨Zf (by omega),hS⟩
  refine YJ<|(zP)<|(zV (xln YI (hK).row.slh))<|(zP)<|zx6<|zlp (fun mm M w=>∃(i:Int),mm=((t.n-i).toNat)/\(0<=i)/\(i<=t.n)/\M= [(1,.slice none 0 0),(2,.func (.func 39) #[] #[]),(15,t.vK),(16,.int .i64 t.n),(17,.int .i64 i)]/\Sat w0 w []) ⟨0,rfl,(by omega),(by omega),rfl,hS⟩ ?_
  clear hS w
  rintro mm M w ⟨i,rfl,h0,h1,rfl,hS⟩
  refine zsr<|(zV (xkf Z4))<|zx7<|zcf<|zxt<|ztx<|ztx<|zbh<|ztn<|zsr ?_
  refine(zP)<|zx1<|zf1 ⟨_,rfl,?_⟩
  exact⟨ZX (by omega),hS⟩
def UN(t:Tr):Prop:=t.s=0/\t.nl=0/\t.n=0
noncomputable def Zgv(p:Prob)(nb u:Int)(ln:Int->Int)(pt:Int->Int->Int)(cnt:Int->Int)(t:Tr):Prop:=(PlanOk p u ln pt cnt/\∀j,0<=j->j<p.m->p.D j<=Zw u pt cnt j)/\psum (fun _=>1) cnt u.toNat=nb/\((nb=0/\UN t)\/(nb≠0/\chkE t p (nb-1)=0))
theorem Zel{t u:Tr}(h:Sim t u)(p:Prob)(b:Int):Go.Proofs.YtkichmnjjblodaaGreat.chkE u p b=Go.Proofs.YtkichmnjjblodaaGreat.chkE t p b:=by
  unfold Go.Proofs.YtkichmnjjblodaaGreat.chkE;rw [Sim.wr t h];congr 1;rw [h.valid]
theorem Za9{t:Tr}(w0:World)(hK:KAt w0 t)(hV:LvAt w0 t):
    Calls Tryz.prog 39 [.agg #[.int .i64 t.s,t.vK,t.vL],.agg #[.int .i64 0,.slice none 0 0,.slice none 0 0]].toArray w0 fun e w=>∃v,e= .returned v/\v=B (UN t)/\Sat w0 w []:=by
  have hn:=hK.row.slh.n0;have hn1:=hK.row.slh.n1;have hln:=hV.leaf.row.slh.n0;have yt:=hV.leaf.row.slh.n1
  refine zenG Tryz.func39 Tryz.ntmps39 fun w hS=> ?_
  refine zsr<|zla (xbx (cs:= [_,_,_]) hS) ?_;rintro _ w ⟨g1,rfl,hS⟩
  refine zla (xbx (cs:= [_,_,_]) hS) ?_;rintro _ w ⟨g2,rfl,hS⟩
  refine(zP)<|zlz<|(zV (xfb 0 fd_54_0))<|(zV (xlb 0 pl_3 hS))<|(zV (xfb 0 fd_54_0))<|(zV (xlb 1 pl_3 hS))<|(zP)<|(zP)<|zlb 10 ?_ ?_<;>intro hc
  ·
   refine(zV (xfb 2 fd_54_2))<|(zV (xlb 0 pl_22 hS))<|(zV (xfb 2 fd_54_2))<|(zV (xlb 1 pl_22 hS))<|zlc (xc0 ZiH) (Znd (n:=t.nl) (f:=t.l) w ((hV).leaf.row.below hS.below)) ?_;rintro _ w ⟨rfl,hS'⟩
   replace hS:=hS.cmp hS';clear hS'
   refine(zP)<|(zP)<|zlb 17 ?_ ?_<;>intro hc
   ·
    refine(zV (xfb 1 fd_54_1))<|(zV (xlb 0 Xs hS))<|(zV (xfb 1 fd_54_1))<|(zV (xlb 1 Xs hS))<|zlc (xc0 Zmz) (ZlF (t:=t) w (KAt.below hS.below (hK)) (LvAt.below hS.below (hV))) ?_;rintro _ w ⟨rfl,hS'⟩
    replace hS:=hS.cmp hS';clear hS'
    refine(zP)<|(zP)<|zx1<|zf1 ⟨_,rfl,?_⟩
    exact⟨Zm ⟨fun hh=>⟨by omega,by first|assumption|omega,hh⟩,fun hh=>hh.2.2⟩,hS.nl⟩
   iterate 5 refine zlo ?_
   refine(zP)<|(zP)<|zx1<|zf1 ⟨_,rfl,?_⟩
   exact⟨Zf (by rintro⟨h1,h2,h3⟩;first|omega|contradiction),hS.nl⟩
  iterate 5 refine zlo ?_
  refine zs2 ?_
  iterate 5 refine zlo ?_
  refine(zP)<|(zP)<|zx1<|zf1 ⟨_,rfl,?_⟩
  exact⟨Zf (by rintro⟨h1,h2,h3⟩;first|omega|contradiction),hS.nl⟩
theorem Rg{p:Prob}{u:Int}{ln cnt:Int->Int}{pt:Int->Int->Int}(h:PlanOk p u ln pt cnt):0<=psum (fun _=>1) cnt u.toNat/\psum (fun _=>1) cnt u.toNat<=1000000:=by
  have h1:∀n:Nat,(n:Int)<=u->0<=psum (fun _=>1) cnt n/\psum (fun _=>1) cnt n<=1000*n:=fun n=>by
    induction n with
    |zero=>intro _;simp [psum]
    | succ n ih=>
      intro hn
      have h2:=ih (by omega)
      have h3:=h.2.2 n (by omega) (by omega)
      simp only [psum];omega
  have h4:=h.2.1
  by_cases hu:0<=u
  · have h5:=h1 u.toNat (by omega);omega
  · rw [show u.toNat=0 by omega];simp [psum]
theorem ZhU{vV:Value}{u:Int}{pv:Int->Value}{ln:Int->Int}{pt:Int->Int->Int}{cnt:Int->Int}{vL vD:Value}{p:Prob}{nb:Int}{t:Tr}(w0:World)(hV:VAt w0 vV u pv ln pt cnt)(h:PAt w0 vL vD p)(hK:KAt w0 t)(hT:LvAt w0 t)(hu5:u<=1000):
    Calls Tryz.prog 26 [.agg #[vL,vD,.int .i64 p.stock,.int .i64 p.kerf],.agg #[.int .i64 nb,vV,.int .i64 t.s,t.vK,t.vL]].toArray w0 fun e w=>∃v,e= .returned v/\v=B (Zgv p nb u ln pt cnt t)/\Sat w0 w []:=by
  have hm:=h.L.slh.n0;have hm1:=h.L.slh.n1;have hd:=h.D.slh.n0;have hd1:=h.D.slh.n1;have hs:=h.is;have hk:=h.ik
  have hn:=hK.row.slh.n0;have hn1:=hK.row.slh.n1;have hln:=hT.leaf.row.slh.n0;have yt:=hT.leaf.row.slh.n1
  have hu:=hV.row.slh.n0;have hu1:=hV.row.slh.n1
  refine zenG Tryz.func26 Tryz.ntmps26 fun w hS=> ?_
  refine zsr<|zla (xbx (cs:= [_,_,_,_]) hS) ?_;rintro _ w ⟨g1,rfl,hS⟩
  refine zla (xbx (cs:= [_,_,_,_,_]) hS) ?_;rintro _ w ⟨g2,rfl,hS⟩
  refine(zP)<|zlt<|zsq<|zsq<|zdst [0,1] [0,1] 1000 mx_ hS ?_;clear hS;intro w hS
  refine(zDl 0 (fun w hS=>(xls 0 st_32 hS)))<|(zDw 1 (xfb 1 ZcH))<|(zDl 2 (fun w hS=>(xlb 1 pl_60 hS)))<|zdc 3 (xc0 Zfk) (TI (u:=u) (pv:=pv) (ln:=ln) (pt:=pt) (cnt:=cnt) (p:=p) w (hV.below hS.below) (h.below hS.below)) ?_;rintro _ w ⟨rfl,hS'⟩
  replace hS:=hS.cmp hS';clear hS'
  refine⟨⟨fun _=>hS,hS⟩,?_⟩
  refine(zDw 4 Yz)<|(zDw 5 xmv)<|zdb 12 ?_ ?_<;>intro hc
  ·
   refine(zDo 6)<|(zDo 7)<|(zDo 9)<|(zDo 10)<|(zDo 8)<|(zDo 11)<|(zDw 12 xpt)<|zdd<|ztn<|zct<|zsr ?_
   refine(zP)<|zx14<|zf1 ⟨_,rfl,?_⟩
   exact⟨Zf (by rintro⟨h1,h2,h3⟩;first|omega|exact absurd h1 ‹¬(PlanOk p u ln pt cnt/\∀j,0<=j->j<p.m->p.D j<=Zw u pt cnt j)›|exact absurd h1.1.1 ‹¬p.Ok›|(rcases h3 with⟨h4,h5,h6,h7⟩|⟨h4,_⟩<;>omega)),hS.nl⟩
  refine(zDw 6 (xfb 1 ZcH))<|(zDl 7 (fun w hS=>(xlb 1 pl_60 hS)))<|zDrv 9 (xfb 0 UU) ?_
  have hbr:=Rg (show PlanOk p u ln pt cnt/\∀j,0<=j->j<p.m->p.D j<=Zw u pt cnt j by first|assumption|exact Classical.not_not.1 ‹_›).1
  refine(zDl 10 (fun w hS=>(xlb 1 pl_3 hS)))<|zdc 8 (xc0 Za6) (V2 (u:=u) (pv:=pv) (ln:=ln) (pt:=pt) (cnt:=cnt) w (hV.below hS.below) (by omega) (fun k k0 k1=>by have h9:=(show PlanOk p u ln pt cnt/\∀j,0<=j->j<p.m->p.D j<=Zw u pt cnt j by first|assumption|exact Classical.not_not.1 ‹_›).1.2.2 k k0 k1;omega)) ?_;rintro _ w ⟨rfl,hS'⟩
  replace hS:=hS.cmp hS';clear hS'
  refine⟨⟨fun _=>hS,hS⟩,?_⟩
  refine(zDw 11 YV)<|(zDw 12 xpf)<|zdd<|ztn ?_
  refine Ze ?_ ?_<;>intro hc
  ·
   refine zsr<|(zP)<|zx14<|zf1 ⟨_,rfl,?_⟩
   exact⟨Zf (by rintro⟨h1,h2,h3⟩;first|omega|exact absurd h1 ‹¬(PlanOk p u ln pt cnt/\∀j,0<=j->j<p.m->p.D j<=Zw u pt cnt j)›|exact absurd h1.1.1 ‹¬p.Ok›|(rcases h3 with⟨h4,h5,h6,h7⟩|⟨h4,_⟩<;>omega)),hS.nl⟩
  refine YJ<|(zV (xfb 0 UU))<|(zV (xlb 1 pl_3 hS))<|(zP)<|zlt<|Ze ?_ ?_<;>intro hc
  ·
   refine zsr<|(zV (xfb 2 ZcG))<|(zV (xlp 1 (ds:= [.int .i64 t.s,t.vK,t.vL]) st_54 hS))<|(zV (xany (v:= .agg #[.int .i64 0,.slice none 0 0,.slice none 0 0])))<|zlc (xc0 ZiR) (Za9 (t:=t) w (KAt.below hS.below (hK)) (LvAt.below hS.below (hT))) ?_;rintro _ w ⟨rfl,hS'⟩
   replace hS:=hS.cmp hS';clear hS'
   refine(zP)<|zx14<|zf1 ⟨_,rfl,?_⟩
   have hme:PlanOk p u ln pt cnt/\∀j,0<=j->j<p.m->p.D j<=Zw u pt cnt j:=by first|assumption|exact Classical.not_not.1 ‹_›
   first
   |exact⟨Zm ⟨fun hh=>⟨hme,by omega,.inl ⟨by omega,by first|exact hh|exact⟨by omega,by omega,by omega⟩⟩⟩,fun hh=>by rcases hh.2.2 with⟨h4,h5⟩|⟨h4,h5⟩;(first|exact h5|exact h5.1|(obtain⟨h6,h7,h8⟩:=h5;omega));omega⟩,hS.nl⟩
   |exact⟨Zm ⟨fun hh=>⟨hme,by omega,.inr ⟨by omega,hh⟩⟩,fun hh=>by rcases hh.2.2 with⟨h4,h5⟩|⟨h4,h5⟩;omega;exact h5⟩,hS.nl⟩
  refine ZS<|(zV (xls 0 st_32 hS))<|(zV (xfb 0 UU))<|(zV (xlb 1 pl_3 hS))<|(zV (Zp (r:=nb-1)))<|zlv (xany (v:= .agg #[vL,vD,.int .i64 p.stock,.int .i64 p.kerf,.int .i64 (nb-1)]) (hr:=by obtain⟨_,_,_,_,rfl,_⟩:=h.L.slh;obtain⟨_,_,_,_,rfl,_⟩:=h.D.slh;kernel_rfl)) ?_
  refine(zV (xfb 2 ZcG))<|(zV (xlp 1 (ds:= [.int .i64 t.s,t.vK,t.vL]) st_54 hS))<|zlc (xc0 ZmT) (Znf (t:=t) (p:=p) (b:=(nb-1)) w (h.below hS.below) (KAt.below hS.below (hK)) (LvAt.below hS.below (hT))) ?_;rintro _ w ⟨rk1,k1,fk1,rfl,cB,cN,hS'⟩
  replace hS:=(hS.comp hS').n3;clear hS'
  refine zs5 ?_
  refine zlz<|(zP)<|(zP)<|(zP)<|zx1<|zf1 ⟨_,rfl,?_⟩
  have hme:PlanOk p u ln pt cnt/\∀j,0<=j->j<p.m->p.D j<=Zw u pt cnt j:=by first|assumption|exact Classical.not_not.1 ‹_›
  first
  |exact⟨Zm ⟨fun hh=>⟨hme,by omega,.inl ⟨by omega,by first|exact hh|exact⟨by omega,by omega,by omega⟩⟩⟩,fun hh=>by rcases hh.2.2 with⟨h4,h5⟩|⟨h4,h5⟩;(first|exact h5|exact h5.1|(obtain⟨h6,h7,h8⟩:=h5;omega));omega⟩,hS.nl⟩
  |exact⟨Zm ⟨fun hh=>⟨hme,by omega,.inr ⟨by omega,hh⟩⟩,fun hh=>by rcases hh.2.2 with⟨h4,h5⟩|⟨h4,h5⟩;omega;exact h5⟩,hS.nl⟩
end Go.Proofs.YtkichmnjjblodaaGreat
namespace Go.Proofs.Gw
open Go Go.RowKit
variable {w:Int} {x:Int->Int} {L:List (Int->Int)}
def Yx(L:List (Int->Int))(j:Int):Int:=match L with
  | []=>0
  |a::L=>a j+Yx L j
def LFit(p:Prob)(L:List (Int->Int)):Prop:=∀a∈L,FitsP p p.m a
theorem Tm(L M:List (Int->Int))(j:Int):Yx (L++M) j=Yx L j+Yx M j:=by
  induction L with
  |nil=>simp [Yx]
  |cons a L ih=>simp only [List.cons_append,Yx,ih];omega
theorem LFit.nn{p:Prob}(h:LFit p L){j:Int}(j0:0<=j)(j1:j<p.m):0<=Yx L j:=by
  induction L with
  |nil=>exact Int.le_refl _
  | cons a L ih=>
    have h1:=(h a (List.mem_cons_self ..)).all j j0 j1
    have h2:=ih fun b hb=>h b (List.mem_cons_of_mem _ hb)
    simp only [Yx];omega
theorem ZeA{j:Int}(h:1<=Yx L j):∃L1 a L2,L=L1++a::L2/\1<=a j:=by
  induction L with
  |nil=>simp [Yx] at h
  | cons a L ih=>
    by_cases e:1<=a j
    · exact⟨[],a,L,rfl,e⟩
    · simp only [Yx] at h
      obtain⟨L1,b,L2,rfl,h2⟩:=ih (by omega)
      exact⟨a::L1,b,L2,rfl,h2⟩
theorem Vn(f:Int->Int):∀n:Nat,Zd f (n+1)=f 0+Zd (fun i=>f (i+1)) n
  |0=>by simp [Zd]
  | n+1=>by
    have h:=Vn f n
    show Zd f (n+1)+f ((n+1:Nat):Int)=f 0+(Zd (fun i=>f (i+1)) n+f ((n:Int)+1))
    rw [h,show((n+1:Nat):Int)=(n:Int)+1 by omega];omega
def VL(L:List (Int->Int))(i:Int):Int->Int:=L.getD i.toNat (fun _=>0)
theorem Ui(k:Int):∀L:List (Int->Int),Xr (VL L) (fun _=>1) L.length k=Yx L k
  | []=>rfl
  | a ::L=>by
    unfold Xr
    rw [List.length_cons,Vn]
    have e:Zd (fun i=>VL (a::L) (i+1) k*1) L.length=Zd (fun i=>VL L i k*1) L.length:=Zj fun i i0 i1=>by
      unfold VL;rw [show(i+1).toNat=i.toNat+1 by omega];rfl
    have h:=Ui k L
    unfold Xr at h
    rw [e,h]
    show(a k)*1+_=_
    simp [Yx]
theorem Zes{i:Int}(i0:0<=i)(i1:i<L.length):VL L i∈L:=by
  unfold VL
  rw [List.getD_eq_getElem?_getD,List.getElem?_eq_getElem (by omega)]
  exact List.getElem_mem _
theorem Zgq {p:Prob} {n b:Int} {y:Int->Int} {q:Int} (h:Chk p n y q=0) (hb:b<=1000) (hbn:b<YU p n y q) (hL:LFit p L) (hc:∀j,0<=j->j<p.m->p.D j<=Yx L j):b<L.length:=by
  by_cases hl:1000<L.length
  · omega
  · have hM:MeetsP p L.length (fun _=>p.m) (VL L) (fun _=>1):=
      ⟨⟨(Xj h).1,by omega,fun i i0 i1=>⟨hL _ (Zes i0 i1),by omega,by omega⟩⟩,fun k k0 k1=>by
        rw [show((L.length:Int)).toNat=L.length by omega,Ui];exact hc k k0 k1⟩
    have h1:=Zdk h (by omega) hM
    rw [show((L.length:Int)).toNat=L.length by omega,XR] at h1
    omega
def rep(c:Nat)(a:Int->Int):List (Int->Int):=List.replicate c a
theorem ZaI(a:Int->Int)(j:Int):∀c:Nat,Yx (rep c a) j=a j*c
  |0=>by simp [rep,Yx]
  | c+1=>by
    have h:=ZaI a j c
    show a j+Yx (rep c a) j=_
    rw [h,Int.natCast_add,Int.mul_add];simp;omega
theorem Uf {p:Prob} {len:Int->Int} {pt:Int->Int->Int} {cnt:Int->Int}:∀n:Nat,(∀i,0<=i->i<(n:Int)->FitsP p (len i) (pt i)/\0<=cnt i)->∃L,LFit p L/\(∀j,Yx L j=Xr pt cnt n j)/\(L.length:Int)=Zd cnt n
  |0,_=>⟨[],fun a ha=>absurd ha (by simp),fun _=>rfl,rfl⟩
  | n + 1,h=>by
    obtain⟨L,h1,h2,h3⟩:=Uf n fun i i0 i1=>h i i0 (by omega)
    obtain⟨h4,h5⟩:=h n (by omega) (by omega)
    refine⟨L++rep (cnt n).toNat (pt n),fun a ha=> ?_,fun j=> ?_,?_⟩
    · rcases List.mem_append.1 ha with ha|ha
      · exact h1 a ha
      · rw [(List.mem_replicate.1 ha).2]
        have:=h4;rw [this.eq] at this;exact this
    · rw [Tm,h2,ZaI,Int.toNat_of_nonneg h5];rfl
    · rw [List.length_append,Int.natCast_add,h3];unfold rep;rw [List.length_replicate,Int.toNat_of_nonneg h5];rfl
theorem TY{p:Prob}(hp:p.Ok){x:Int->Int}(hx:∀i,0<=i->i<p.m->0<=x i):∀(k:Nat) {i:Int},0<=i->i+k<=p.m->Zx p x i.toNat<=Zx p x (i+k).toNat
  |0,i,_,_=>by simp
  | k+1,i,i0,h=>by
    have h1:=TY hp hx k i0 (by omega)
    have h2:Zx p x (i+k+1).toNat=Zx p x (i+k).toNat+x (i+k)*(p.L (i+k)+p.kerf):=ZJ _ (by omega)
    have h3:=hp.all (i+k) (by omega) (by omega)
    unfold Prob.each at h3
    have h4:=hp.k1
    have h5:0<=x (i+k)*(p.L (i+k)+p.kerf):=Int.mul_nonneg (hx _ (by omega) (by omega)) (by omega)
    rw [show i+((k+1:Nat):Int)=i+k+1 by omega,h2];omega
theorem ZcL {p:Prob} (hp:p.Ok) {w:Int} {x:Int->Int} (hx:MPat p w x):∀(j:Nat) {i l:Int} {a:Int->Int},(p.m-i).toNat=j->0<=i->i<=p.m->Pfx p i a l->(∀k,k<i->x k=a k)->(i<=w->w<p.m->1<=x w)->x∈exI p w i a l
  | 0,i,l,a,hj,h0,h1,h,he,hw=>by
    have hi:i=p.m:=by omega
    have e:x=a:=funext fun k=>by
      by_cases hk:k<i
      · exact he k hk
      · rw [h.zero k (by omega),hx.zero k (by omega)]
    subst e
    rw [W9 hi (by have:=h.left;rw [hi] at this;rw [this];exact hx.maxi)]
    exact List.mem_singleton.2 rfl
  | j + 1,i,l,a,hj,h0,h1,h,he,hw=>by
    rw [XJ h0 (by omega)]
    have hr:=hx.rng i h0 (by omega)
    have hs:=hp.all i h0 (by omega)
    unfold Prob.each at hs
    have hk:=hp.k1
    have hu:Zx p x (i+1).toNat=Zx p x i.toNat+x i*(p.L i+p.kerf):=ZJ _ h0
    have hm:=TY hp (fun k k0 k1=>(hx.rng k k0 k1).1) (p.m-(i+1)).toNat (i:=i+1) (by omega) (by omega)
    rw [show i+1+((p.m-(i+1)).toNat:Int)=p.m by omega] at hm
    have ha:Zx p x i.toNat=Zx p a i.toNat:=Zj fun k k0 k1=>by rw [he k (by omega)]
    have hl:=h.left
    have hxu:=hx.used
    have hle:x i*(p.L i+p.kerf)<=l:=by omega
    have h2:x i<=most p i l:=by
      unfold most
      have:x i<=l.tdiv (p.L i+p.kerf):=by
        rw [Int.tdiv_eq_ediv_of_nonneg h.l0]
        exact(Int.le_ediv_iff_mul_le (by omega)).2 hle
      omega
    have hls:least w i<=x i:=by
      unfold least
      by_cases e:w=i
      · rw [if_pos e,<-e];exact hw (by omega) (by omega)
      · rw [if_neg e];exact hr.1
    refine Zff hls (by omega) (ZcL hp hx j (by omega) (by omega) (by omega) (h.step hp h0 (by omega) hr.1 h2) (fun k hk=> ?_) fun q1 q2=>hw (by omega) q2)
    by_cases e:k=i
    · rw [e,Zk]
    · rw [upd_ne _ _ e];exact he k (by omega)
theorem ZlW{p:Prob}(hp:p.Ok)(hx:MPat p w x)(hw:0<=w->w<p.m->1<=x w):x∈MX p w:=
  ZcL hp hx _ rfl (Int.le_refl 0) (by have:=hp.m1;omega) (Pfx.start hp) (fun k hk=>by rw [hx.zero k (by omega)]) hw
theorem U2{p:Prob}{f:Int->Int}{i:Int}(h0:0<=i):∀{n:Nat},i<(n:Int)->Zx p (upd f i (f i+1)) n=Zx p f n+(p.L i+p.kerf)
  |0,h=>by omega
  | n +1,h=>by
    show Zd _ (n+1)=Zd _ (n+1)+_
    simp only [Zd]
    by_cases e:i=n
    · subst e
      have:Zd (fun j=>upd f (n:Int) (f n+1) j*(p.L j+p.kerf)) n=Zd (fun j=>f j*(p.L j+p.kerf)) n:=Zj fun j j0 j1=>by rw [upd_ne _ _ (by omega)]
      rw [this,Zk,Int.add_mul,Int.one_mul];omega
    · have ih:=U2 (p:=p) (f:=f) h0 (n:=n) (by omega)
      unfold Zx at ih
      rw [ih,upd_ne _ _ (fun h=>e h.symm)];omega
theorem Zdx {p:Prob} (hp:p.Ok):∀(c:Nat) {x:Int->Int},(p.stock+p.kerf-Zx p x p.m.toNat).toNat=c->(∀k,0<=k->k<p.m->0<=x k/\x k<=p.D k)->(∀k,k<0\/p.m<=k->x k=0)->Zx p x p.m.toNat<=p.stock+p.kerf->(∃i,0<=i/\i<p.m/\0<x i)->∃z,MPat p w z/\∀k,x k<=z k:=by
  intro c
  induction c using Nat.strongRecOn with
  | _ c ih=>
    intro x hc hr hz hu hp0
    by_cases hm:∀i,0<=i->i<p.m->x i<p.D i->p.stock+p.kerf-Zx p x p.m.toNat<p.L i+p.kerf
    · exact⟨x,⟨hr,hz,hu,hp0,hm⟩,fun k=>Int.le_refl _⟩
    · obtain⟨i,hi⟩:=Classical.not_forall.1 hm
      obtain⟨i0,hi⟩:=Classical.not_forall.1 hi
      obtain⟨i1,hi⟩:=Classical.not_forall.1 hi
      obtain⟨i2,i3⟩:=Classical.not_forall.1 hi
      have he:=U2 (p:=p) (f:=x) i0 (n:=p.m.toNat) (by omega)
      have hs:=hp.all i i0 i1
      unfold Prob.each at hs
      have hk:=hp.k1
      obtain⟨z,h1,h2⟩:=ih _ (by omega) (x:=upd x i (x i+1)) rfl (fun k k0 k1=>by
          by_cases e:k=i
          · rw [e,Zk];have:=hr i i0 i1;omega
          · rw [upd_ne _ _ e];exact hr k k0 k1) (fun k hk=>by rw [upd_ne _ _ (by omega)];exact hz k hk) (by omega)
        ⟨i,i0,i1,by rw [Zk];have:=hr i i0 i1;omega⟩
      refine⟨z,h1,fun k=> ?_⟩
      have h3:=h2 k
      by_cases e:k=i
      · rw [e,Zk] at h3;rw [e];omega
      · rw [upd_ne _ _ e] at h3;exact h3
theorem RN{p:Prob}{a:Int->Int}(ha:FitsP p p.m a)(w0:0<=w)(w1:w<p.m)(hw:1<=a w)(hd:1<=p.D w):∃i,0<=i/\i<((MX p w).length:Int)/\∀j,0<=j->j<p.m->min (a j) (p.D j)<=YB (MX p w) i j:=by
  have hp:=ha.ok
  obtain⟨x,hx,hx0⟩:∃x:Int->Int,(∀j,0<=j->j<p.m->x j=min (a j) (p.D j))/\∀j,j<0\/p.m<=j->x j=0:=
    ⟨fun j=>if 0<=j/\j<p.m then min (a j) (p.D j) else 0,fun j j0 j1=>if_pos ⟨j0,j1⟩,fun j hj=>if_neg (by omega)⟩
  have hu:Zx p x p.m.toNat<=p.stock+p.kerf:=by
    refine Int.le_trans (Z5 fun j j0 j1=> ?_) ha.used
    rw [hx j j0 (by omega)]
    have h2:=hp.all j j0 (by omega)
    unfold Prob.each at h2
    have hk:=hp.k1
    exact Int.mul_le_mul_of_nonneg_right (by omega) (by omega)
  obtain⟨z,h1,h2⟩:=Zdx hp (w:=w) _ rfl (fun k k0 k1=>by
      rw [hx k k0 k1]
      have h2:=hp.all k k0 k1
      unfold Prob.each at h2
      have:=ha.all k k0 k1
      omega) hx0 hu ⟨w,w0,w1,by rw [hx w w0 w1];omega⟩
  have h3:z∈MX p w:=ZlW hp h1 fun _ _=>by
    have:=h2 w;rw [hx w w0 w1] at this;omega
  obtain⟨n,hn,e⟩:=List.mem_iff_getElem.1 h3
  refine⟨n,by omega,by omega,fun j j0 j1=> ?_⟩
  have h4:=h2 j
  rw [hx j j0 j1] at h4
  unfold YB
  rw [show((n:Int)).toNat=n by omega,List.getD_eq_getElem?_getD,List.getElem?_eq_getElem hn,Option.getD_some,e]
  exact h4
end Go.Proofs.Gw
