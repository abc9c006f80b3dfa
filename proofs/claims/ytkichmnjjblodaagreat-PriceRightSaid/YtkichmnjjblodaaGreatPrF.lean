import Derived.Test.YtkichmnjjblodaaGreatPrE
set_option linter.unusedVariables false
set_option linter.unusedSimpArgs false
set_option maxRecDepth 20000
set_option maxHeartbeats 4000000
namespace Go.Proofs.Gw
open Go Go.RowKit
variable {i k lo need w:Int} {a x:Int->Int}
def dn{α:Type}(F:Int->List α)(lo:Int):Nat->List α
  |0=> []
  |c+1=>F (lo+c)++dn F lo c
theorem X2{α:Type}(F:Int->List α)(h:lo<=k):dn F lo (k+1-lo).toNat=F k++dn F lo (k-lo).toNat:=by
  rw [show(k+1-lo).toNat=(k-lo).toNat+1 by omega]
  simp only [dn]
  rw [show lo+((k-lo).toNat:Int)=k by omega]
theorem Zj7{α:Type}(F:Int->List α)(h:k<lo):dn F lo (k+1-lo).toNat= []:=by
  rw [show(k+1-lo).toNat=0 by omega];rfl
theorem Zft{α:Type}{F:Int->List α}{lo:Int}:∀{c:Nat},(∀k,lo<=k->k<lo+c->F k= [])->dn F lo c= []
  |0,_=>rfl
  | c+1,h=>by
    simp only [dn]
    rw [h _ (by omega) (by omega),Zft fun k h0 h1=>h k h0 (by omega)];rfl
theorem ZeO{α:Type}{F:Int->List α}{lo:Int}{x:α}:∀{c:Nat},x∈dn F lo c->∃k,lo<=k/\k<lo+c/\x∈F k
  |0,h=>by cases h
  | c+1,h=>by
    simp only [dn,List.mem_append] at h
    rcases h with h|h
    · exact⟨_,by omega,by omega,h⟩
    · obtain⟨k,h1,h2,h3⟩:=ZeO h;exact⟨k,h1,by omega,h3⟩
theorem Zfu{α:Type}{F:Int->List α}{lo k:Int}{x:α}:∀{c:Nat},lo<=k->k<lo+c->x∈F k->x∈dn F lo c
  |0,h0,h1,h=>by omega
  | c+1,h0,h1,h=>by
    simp only [dn,List.mem_append]
    by_cases e:k=lo+c
    · subst e;exact .inl h
    · exact .inr (Zfu h0 (by omega) h)
def Zaf(p:Prob)(a:Int->Int)(l:Int):Prop:=(∃i,0<=i/\i<p.m/\0<a i)/\∀i,0<=i->i<p.m->a i<p.D i->l<p.L i+p.kerf
def least(w i:Int):Int:=if w=i then 1 else 0
noncomputable def ext(p:Prob)(w:Int):Nat->(Int->Int)->Int->List (Int->Int)
  |0,a,l=> @ite _ (Zaf p a l) (Classical.propDecidable _) [a] []
  | j +1,a,l=>dn (fun k=>ext p w j (upd a (p.m-((j:Int)+1)) k) (l-k*(p.L (p.m-((j:Int)+1))+p.kerf))) (least w (p.m-((j:Int)+1)))
      (min (p.D (p.m-((j:Int)+1))) (l.tdiv (p.L (p.m-((j:Int)+1))+p.kerf))+1-least w (p.m-((j:Int)+1))).toNat
noncomputable def exI(p:Prob)(w i:Int)(a:Int->Int)(l:Int):List (Int->Int):=ext p w (p.m-i).toNat a l
def most(p:Prob)(i l:Int):Int:=min (p.D i) (l.tdiv (p.L i+p.kerf))
theorem W9{p:Prob}{l:Int}(hi:i=p.m)(h:Zaf p a l):exI p w i a l= [a]:=by
  unfold exI;rw [show(p.m-i).toNat=0 by omega]
  show @ite _ (Zaf p a l) (Classical.propDecidable _) [a] []=_
  rw [if_pos h]
theorem Uq{p:Prob}{l:Int}(hi:i=p.m)(h:¬Zaf p a l):exI p w i a l= []:=by
  unfold exI;rw [show(p.m-i).toNat=0 by omega]
  show @ite _ (Zaf p a l) (Classical.propDecidable _) [a] []=_
  rw [if_neg h]
noncomputable def kid(p:Prob)(w i:Int)(a:Int->Int)(l:Int)(k:Int):List (Int->Int):=exI p w (i+1) (upd a i k) (l-k*(p.L i+p.kerf))
theorem XK{p:Prob}{l:Int}(h0:0<=i)(h1:i<p.m):exI p w i a l=dn (kid p w i a l) (least w i) (most p i l+1-least w i).toNat:=by
  unfold exI
  obtain⟨j,hj⟩:∃j:Nat,(p.m-i).toNat=j+1:=⟨(p.m-i).toNat-1,by omega⟩
  have e:p.m-((j:Int)+1)=i:=by omega
  rw [hj]
  simp only [ext]
  rw [e]
  have e2:(fun k=>ext p w j (upd a i k) (l-k*(p.L i+p.kerf)))=kid p w i a l:=by
    funext k
    unfold kid exI
    rw [show(p.m-(i+1)).toNat=j by omega]
  rw [e2];rfl
noncomputable def MX(p:Prob)(w:Int):List (Int->Int):=exI p w 0 (fun _=>0) (p.stock+p.kerf)
structure Pfx (p:Prob) (i:Int) (a:Int->Int) (l:Int):Prop where
  rng:∀k,0<=k->k<i->0<=a k/\a k<=p.D k
  zero:∀k,k<0\/i<=k->a k=0
  left:l=p.stock+p.kerf-ZC p a i.toNat
  l0:0<=l
theorem Pfx.start{p:Prob}(hp:p.Ok):Pfx p 0 (fun _=>0) (p.stock+p.kerf):=
  ⟨fun k h0 h1=>by omega,fun _ _=>rfl,by show _=_-Zd _ 0;simp [Zd],by have:=hp.s1;have:=hp.k1;omega⟩
theorem XG{p:Prob}(hp:p.Ok){l:Int}(h0:0<=i)(h1:i<p.m)(hl:0<=l)(k0:0<=k)(k1:k<=most p i l):k<=p.D i/\0<=k*(p.L i+p.kerf)/\k*(p.L i+p.kerf)<=l:=by
  have he:=hp.all i h0 h1
  unfold Prob.each at he
  have hk:=hp.k1
  unfold most at k1
  have h2:k<=l.tdiv (p.L i+p.kerf):=by omega
  rw [Int.tdiv_eq_ediv_of_nonneg hl] at h2
  exact⟨by omega,Int.mul_nonneg k0 (by omega),(Int.le_ediv_iff_mul_le (by omega)).1 h2⟩
theorem Zem{p:Prob}(h0:0<=i):ZC p (upd a i k) (i+1).toNat=ZC p a i.toNat+k*(p.L i+p.kerf):=by
  have e:ZC p (upd a i k) (i+1).toNat=ZC p (upd a i k) i.toNat+upd a i k i*(p.L i+p.kerf):=ZH _ h0
  rw [e,Zw]
  congr 1
  exact Zj fun j j0 j1=>by rw [upd_ne _ _ (by omega)]
theorem Pfx.step{p:Prob}(hp:p.Ok){l:Int}(h:Pfx p i a l)(h0:0<=i)(h1:i<p.m)(k0:0<=k)(k1:k<=most p i l):Pfx p (i+1) (upd a i k) (l-k*(p.L i+p.kerf)):=by
  obtain⟨g1,g2,g3⟩:=XG hp h0 h1 h.l0 k0 k1
  refine⟨fun j j0 j1=> ?_,fun j hj=> ?_,by rw [Zem h0,h.left];omega,by omega⟩
  · by_cases e:j=i
    · rw [e,Zw];exact⟨k0,g1⟩
    · rw [upd_ne _ _ e];exact h.rng j j0 (by omega)
  · rw [upd_ne _ _ (by omega)];exact h.zero j (by omega)
structure MPat (p:Prob) (w:Int) (x:Int->Int):Prop where
  rng:∀k,0<=k->k<p.m->0<=x k/\x k<=p.D k
  zero:∀k,k<0\/p.m<=k->x k=0
  used:ZC p x p.m.toNat<=p.stock+p.kerf
  maxi:Zaf p x (p.stock+p.kerf-ZC p x p.m.toNat)
theorem ZcT{p:Prob}(hp:p.Ok){w:Int}:∀(j:Nat) {i l:Int} {a x:Int->Int},(p.m-i).toNat=j->0<=i->i<=p.m->Pfx p i a l->x∈exI p w i a l->MPat p w x/\(∀k,k<i->x k=a k)/\(i<=w->w<p.m->1<=x w)
  | 0,i,l,a,x,hj,h0,h1,h,hx=>by
    have hi:i=p.m:=by omega
    by_cases hm:Zaf p a l
    · rw [W9 hi hm,List.mem_singleton] at hx
      subst hx
      have hl:=h.left;have hl0:=h.l0
      rw [hi] at hl
      refine⟨⟨fun k k0 k1=>h.rng k k0 (by omega),fun k hk=>h.zero k (by omega),by omega,?_⟩,fun _ _=>rfl,fun _ _=>by omega⟩
      rw [<-hl];exact hm
    · rw [Uq hi hm] at hx;cases hx
  | j +1,i,l,a,x,hj,h0,h1,h,hx=>by
    rw [XK h0 (by omega)] at hx
    obtain⟨k,k0,k1,hk⟩:=ZeO hx
    have hle:0<=least w i:=by unfold least;split<;>omega
    have hs:=h.step hp h0 (by omega) (k:=k) (by omega) (by omega)
    obtain⟨g1,g2,g3⟩:=ZcT hp j (by omega) (by omega) (by omega) hs hk
    refine⟨g1,fun q hq=>by rw [g2 q (by omega),upd_ne _ _ (by omega)],fun hw hw2=> ?_⟩
    by_cases e:w=i
    · have:=g2 w (by omega)
      rw [e,Zw] at this
      rw [e,this]
      unfold least at k0;rw [if_pos e] at k0;exact k0
    · exact g3 (by omega) hw2
theorem ZgS{p:Prob}(hp:p.Ok)(h:x∈MX p w):MPat p w x/\(0<=w->w<p.m->1<=x w):=by
  have:=hp.m1
  obtain⟨h1,_,h3⟩:=ZcT hp _ rfl (Int.le_refl 0) (by omega) (Pfx.start hp) h
  exact⟨h1,h3⟩
def Lat(p:Prob):Nat->Int
  |0=>0
  |j+1=>Lat p j+p.D (p.m-((j:Int)+1))*(p.L (p.m-((j:Int)+1))+p.kerf)
def Xu(p:Prob)(i:Int):Int:=Lat p (p.m-i).toNat
theorem LatI_end{p:Prob}(h:p.m<=i):Xu p i=0:=by unfold Xu;rw [show(p.m-i).toNat=0 by omega];rfl
theorem UB{p:Prob}(h0:0<=i)(h1:i<p.m):Xu p i=Xu p (i+1)+p.D i*(p.L i+p.kerf):=by
  unfold Xu
  obtain⟨j,hj⟩:∃j:Nat,(p.m-i).toNat=j+1:=⟨(p.m-i).toNat-1,by omega⟩
  rw [hj,show(p.m-(i+1)).toNat=j by omega]
  simp only [Lat]
  rw [show p.m-((j:Int)+1)=i by omega]
theorem Zbx{p:Prob}(hp:p.Ok):∀(j:Nat) {i:Int},(p.m-i).toNat=j->0<=i->i<=p.m->0<=Xu p i/\Xu p i<=(p.m-i)*2100000
  |0,i,hj,h0,h1=>by rw [LatI_end (by omega),show p.m-i=0 by omega];omega
  | j+1,i,hj,h0,h1=>by
    have ih:=Zbx hp j (i:=i+1) (by omega) (by omega) (by omega)
    rw [UB h0 (by omega)]
    have he:=hp.all i h0 (by omega)
    unfold Prob.each at he
    have:=hp.k1;have:=hp.k2;have:=hp.s2
    have a1:=Int.mul_nonneg he.2.2.2.1 (show 0<=p.L i+p.kerf by omega)
    have a2:p.D i*(p.L i+p.kerf)<=1000*2100:=Int.mul_le_mul he.2.2.2.2 (by omega) (by omega) (by omega)
    have e:(p.m-i)*2100000=(p.m-(i+1))*2100000+2100000:=by omega
    omega
theorem Zag{p:Prob}(hp:p.Ok)(h0:0<=i):0<=Xu p i/\Xu p i<=42000000:=by
  by_cases h:i<=p.m
  · have:=Zbx hp _ rfl h0 h;have:=hp.m2;omega
  · rw [LatI_end (by omega)];omega
structure NeedP (p:Prob) (a:Int->Int) (i need:Int):Prop where
  top:need<=p.stock+p.kerf+1
  all:∀k,0<=k->k<i->a k<p.D k->need<=p.L k+p.kerf
  ex:need=p.stock+p.kerf+1\/∃k,0<=k/\k<i/\a k<p.D k/\p.L k+p.kerf=need
theorem NeedP.start(p:Prob):NeedP p (fun _=>0) 0 (p.stock+p.kerf+1):=⟨Int.le_refl _,fun k h0 h1=>by omega,.inl rfl⟩
theorem NeedP.yes{p:Prob}(h:NeedP p a i need)(h0:0<=i)(hk:k<p.D i):NeedP p (upd a i k) (i+1) (min need (p.L i+p.kerf)):=by
  refine⟨by have:=h.top;omega,fun j j0 j1 hj=> ?_,?_⟩
  · by_cases e:j=i
    · rw [e];omega
    · rw [upd_ne _ _ e] at hj
      have:=h.all j j0 (by omega) hj;omega
  · by_cases hm:need<=p.L i+p.kerf
    · rw [Int.min_eq_left hm]
      rcases h.ex with h2|⟨j,j0,j1,j2,j3⟩
      · exact .inl h2
      · exact .inr ⟨j,j0,by omega,by rw [upd_ne _ _ (by omega)];exact j2,j3⟩
    · rw [Int.min_eq_right (by omega)]
      exact .inr ⟨i,h0,by omega,by rw [Zw];exact hk,rfl⟩
theorem NeedP.no{p:Prob}(h:NeedP p a i need)(h0:0<=i)(hk:¬k<p.D i):NeedP p (upd a i k) (i+1) need:=by
  refine⟨h.top,fun j j0 j1 hj=> ?_,?_⟩
  · by_cases e:j=i
    · rw [e,Zw] at hj;exact absurd hj hk
    · rw [upd_ne _ _ e] at hj
      exact h.all j j0 (by omega) hj
  · rcases h.ex with h2|⟨j,j0,j1,j2,j3⟩
    · exact .inl h2
    · exact .inr ⟨j,j0,by omega,by rw [upd_ne _ _ (by omega)];exact j2,j3⟩
theorem ZcU{p:Prob}(hp:p.Ok){w:Int}:∀(j:Nat) {i l:Int} {a:Int->Int},(p.m-i).toNat=j->0<=i->i<=p.m->0<=l->(∃k,0<=k/\k<i/\a k<p.D k/\p.L k+p.kerf<=l-Xu p i)->exI p w i a l= []
  | 0,i,l,a,hj,h0,h1,hl,⟨k,k0,k1,k2,k3⟩=>by
    refine Uq (by omega) fun hm=> ?_
    rw [LatI_end (by omega)] at k3
    have:=hm.2 k k0 (by omega) k2
    omega
  | j+1,i,l,a,hj,h0,h1,hl,⟨k,k0,k1,k2,k3⟩=>by
    rw [XK h0 (by omega)]
    have hle:0<=least w i:=by unfold least;split<;>omega
    refine Zft fun c c0 c1=> ?_
    obtain⟨g1,g2,g3⟩:=XG hp h0 (by omega) hl (k:=c) (by omega) (by omega)
    refine ZcU hp j (by omega) (by omega) (by omega) (by omega) ⟨k,k0,by omega,by rw [upd_ne _ _ (by omega)];exact k2,?_⟩
    rw [UB h0 (by omega)] at k3
    have he:=hp.all i h0 (by omega)
    unfold Prob.each at he
    have:=hp.k1
    have:c*(p.L i+p.kerf)<=p.D i*(p.L i+p.kerf):=Int.mul_le_mul_of_nonneg_right g1 (by omega)
    omega
theorem Zcw{p:Prob}(hp:p.Ok){l:Int}(h0:0<=i)(h1:i<=p.m)(h:Pfx p i a l)(hn:NeedP p a i need)(hg:need<=l-Xu p i):exI p w i a l= []:=by
  refine ZcU hp _ rfl h0 h1 h.l0 ?_
  have hL:=(Zag hp h0).1
  have hu:0<=ZC p a i.toNat:=Z3 fun j j0 j1=>by
    have:=h.rng j j0 (by omega)
    have he:=hp.all j j0 (by omega)
    unfold Prob.each at he
    have:=hp.k1
    exact Int.mul_nonneg (by omega) (by omega)
  have hl:=h.left
  rcases hn.ex with h2|⟨k,k0,k1,k2,k3⟩
  · omega
  · exact⟨k,k0,k1,k2,by omega⟩
theorem Wf{p:Prob}{l:Int}(hi:i=p.m)(hn:NeedP p a i need)(hl:l<need)(hz:∃k,0<=k/\k<p.m/\0<a k):exI p w i a l= [a]:=
  W9 hi ⟨hz,fun k k0 k1 hk=>by have:=hn.all k k0 (by omega) hk;omega⟩
theorem UY{p:Prob}{l:Int}(hi:i=p.m)(hz:¬∃k,0<=k/\k<p.m/\0<a k):exI p w i a l= []:=
  Uq hi fun h=>hz h.1
def YA(l:List (Int->Int))(k:Int):Int->Int:=l.getD k.toNat (fun _=>0)
def Ls(m u:Int)(f:Int->Int->Int)(l:List (Int->Int)):Prop:=u=l.length/\∀k,0<=k->k<u->∀j,0<=j->j<m->f k j=YA l k j
theorem Ls.nil{m:Int}{f:Int->Int->Int}:Ls m 0 f []:=⟨rfl,fun k h0 h1=>by omega⟩
theorem Zhi{l m:List (Int->Int)}(h0:0<=k)(h1:k<l.length):YA (l++m) k=YA l k:=by
  unfold YA;rw [List.getD_eq_getElem?_getD,List.getD_eq_getElem?_getD,List.getElem?_append_left (by omega)]
theorem Zhj{l:List (Int->Int)}(h:k=l.length):YA (l++ [x]) k=x:=by
  unfold YA;rw [List.getD_eq_getElem?_getD,h,Int.toNat_natCast,List.getElem?_append_right (Nat.le_refl _)];simp
theorem ZaL{l:List (Int->Int)}(h0:0<=k)(h1:k<l.length):YA l k∈l:=by
  unfold YA
  have:k.toNat<l.length:=by omega
  rw [List.getD_eq_getElem?_getD,List.getElem?_eq_getElem this];exact List.getElem_mem this
theorem Ls.snoc{m u:Int}{f:Int->Int->Int}{l:List (Int->Int)}{g:Int->Int}(h:Ls m u f l)(hg:∀j,0<=j->j<m->g j=x j):Ls m (u+1) (gsn f u g) (l++ [x]):=by
  obtain⟨h1,h2⟩:=h
  refine⟨by simp [h1],fun k k0 k1 j j0 j1=> ?_⟩
  by_cases e:k<u
  · rw [ZA e,h2 k k0 e j j0 j1,Zhi k0 (by omega)]
  · rw [ZJ e,Zhj (by omega)];exact hg j j0 j1
end Go.Proofs.Gw
namespace Go.Proofs.YtkichmnjjblodaaGreat
open Go Go.RowKit Go.Proofs.Gw
theorem T9{p:Prob}{f:Int->Int}{i:Int}(h0:0<=i):∀{n:Nat},i<(n:Int)->ZC p (upd f i (f i+1)) n=ZC p f n+(p.L i+p.kerf)
  |0,h=>by omega
  | n +1,h=>by
    show Zd _ (n+1)=Zd _ (n+1)+_
    simp only [Zd]
    by_cases e:i=n
    · subst e
      have:Zd (fun j=>upd f (n:Int) (f n+1) j*(p.L j+p.kerf)) n=Zd (fun j=>f j*(p.L j+p.kerf)) n:=Zj fun j j0 j1=>by rw [upd_ne _ _ (by omega)]
      rw [this,Zw,Int.add_mul,Int.one_mul];omega
    · have ih:=T9 (p:=p) (f:=f) h0 (n:=n) (by omega)
      unfold ZC at ih
      rw [ih,upd_ne _ _ (fun h=>e h.symm)];omega
theorem XV{p:Prob}(hp:p.Ok){f:Int->Int}(hr:∀k,0<=k->k<p.m->0<=f k/\f k<=p.D k){i:Int}(h0:0<=i)(h1:i<p.m):Z4 p p.m (upd f i (f i+1))↔f i<p.D i/\p.L i+p.kerf<=p.stock+p.kerf-ZC p f p.m.toNat:=by
  have hu:ZC p (upd f i (f i+1)) p.m.toNat=ZC p f p.m.toNat+(p.L i+p.kerf):=T9 h0 (by omega)
  have hri:=hr i h0 h1
  constructor
  · rintro⟨hf,h2⟩
    have h3:=h2 i h0 h1
    rw [Zw] at h3
    have h4:=hf.used
    exact⟨by omega,by omega⟩
  · rintro⟨h2,h3⟩
    have hk:∀k,0<=k->k<p.m->0<=upd f i (f i+1) k/\upd f i (f i+1) k<=p.D k:=fun k k0 k1=>by
      by_cases e:k=i
      · rw [e,Zw];omega
      · rw [upd_ne _ _ e];exact hr k k0 k1
    exact⟨⟨hp,rfl,fun k k0 k1=>(by have:=hk k k0 k1;have he:=hp.all k k0 k1;unfold Prob.each at he;omega),by rw [hu];omega⟩,fun k k0 k1=>(hk k k0 k1).2⟩
theorem Zic{vL vD:Value}{p:Prob}{vA:Value}{n:Int}{f:Int->Int}(w0:World)(h:PAt w0 vL vD p)(hp:p.Ok)(hA:Row w0 vA 1 n (ints f))(hnm:n=p.m)(hr:∀k,0<=k->k<p.m->0<=f k/\f k<=p.D k):
    Calls Tryz.prog 115 [.agg #[vL,vD,.int .i64 p.stock,.int .i64 p.kerf],vA].toArray w0 fun e w=>∃v,e= .returned v/\v=B (Zaf p f (p.stock+p.kerf-ZC p f p.m.toNat))/\Sat w0 w []:=by
  subst hnm
  have hm:=h.L.slh.n0;have hm1:=h.L.slh.n1;have hd:=h.D.slh.n0;have hd1:=h.D.slh.n1;have hs:=h.is;have hk:=h.ik
  have hn:=hA.slh.n0;have hn1:=hA.slh.n1
  have hpm:=hp.m1;have qI:=hp.m2;have hpd:=hp.d;have hs1:=hp.s1;have hs2:=hp.s2;have hk1:=hp.k1;have hk2:=hp.k2
  refine zenG Tryz.func115 Tryz.ntmps115 fun w hS=> ?_
  refine zsr<|zla (xbx (cs:= [_,_,_,_]) hS) ?_;rintro _ w ⟨g1,rfl,hS⟩
  refine(zP)<|zlz<|(zP)<|ZbA 5 (u:=B (∃j,0<=j/\j<0/\0<f j)) (Ze fun⟨j,j0,j1,_⟩=>by omega) ?_
  refine zx5<|(zP)<|zx6<|zlp (fun mm M w=>∃(i:Int),mm=((p.m-i).toNat)/\(0<=i)/\(i<=p.m)/\(∀k,0<=k->k<i->f k<p.D k->p.stock+p.kerf-ZC p f p.m.toNat<p.L k+p.kerf)/\M= [(1,vA),(2,.pointer (some ⟨g1,0,none⟩)),(5,B (∃j,0<=j/\j<i/\0<f j)),(6,.int .i64 i)]/\Sat w0 w [.blk g1 [vL,vD,.int .i64 p.stock,.int .i64 p.kerf]]) ⟨0,rfl,(by omega),(by omega),?_,rfl,hS⟩ ?_
  ·
   intro k k0 k1;omega
  clear hS w
  rintro mm M w ⟨i,rfl,h0,h1,qa,rfl,hS⟩
  refine zx11<|(zP)<|(zP)<|(zV (xln Zb hA.slh))<|(zP)<|zlt<|Zf ?_ ?_<;>intro hc
  ·
   refine zx3<|(zP)<|(zP)<|zlb 15 ?_ ?_<;>intro hc
   ·
    iterate 5 refine zlo ?_
    refine(zP)<|ZbA 21 (u:=B (∃j,0<=j/\j<(i+1)/\0<f j)) (Z7 (by first|(obtain⟨j,j0,j1,j2⟩:=‹∃j,0<=j/\j<i/\0<f j›;exact⟨j,j0,by omega,j2⟩)|exact⟨i,by omega,by omega,by omega⟩)) ?_
    refine(zP)<|zlz<|zla (xl0 (c:=ints f) Zb hS) ?_;rintro v1 w ⟨hS,hv1⟩
    refine(zP)<|zla (xap 1 (r:=p.m) (f:=ints f) Zb Zt hS (hA.below hS.below) (by exact Yh _ _)) ?_;rintro v2 w ⟨hS,hv2⟩
    have hri:=hr i h0 (by omega);have hei:=hp.all i h0 (by omega);unfold Prob.each at hei
    refine(zP)<|zlz<|(zP)<|(zP)<|(zV (xix (kk:=i) Zb hv2))<|(zV (xlr (u:= .int .i64 (f i)) pl_3 (hS.rowN 1 rfl)))<|(zV (Zh (r:=f i+1)))<|(zV (xix (kk:=i) Zb hv2))<|zle (xso 1 pl_3 hS (Zx _ _ _)) ?_;clear hS;rintro w hS
    refine zlz<|(zV (xls 0 Z5 hS))<|(zP)<|zlc (xc0 ZfP) (UO (p:=p) w (h.below hS.below) (hS.rowN 1 rfl)) ?_;rintro _ w ⟨rfl,hS'⟩
    replace hS:=hS.cmp hS';clear hS'
    refine zlt<|Zf ?_ ?_<;>intro hc
    ·
     refine zsr<|(zP)<|zx2<|zf1 ⟨_,rfl,?_⟩
     exact⟨Ze fun hm=>by have h9:=(XV hp hr h0 (by omega)).1 ‹_›;have:=hm.2 i h0 (by omega) h9.1;omega,hS.nl⟩
    refine zx4<|(zP)<|(zV (Zh (r:=i+1)))<|(zP)<|zln<|zlq ⟨i+1,rfl,(by omega),(by omega),?_,rfl,hS.pk [0]⟩
    ·
     intro k k0 k1 hk;rcases Int.lt_or_eq_of_le (show k<=i by omega) with hj|hj
     · exact qa k k0 hj hk
     · subst hj;have h9:=(not_congr (XV hp hr h0 (by omega))).1 ‹_›;omega
   refine(zP)<|(zP)<|(zV (xix (kk:=i) Zb hA.slh))<|(zV (xlr (u:= .int .i64 (f i)) pl_3 (hA.below hS.below)))<|(zP)<|(zP)<|ZbA 21 (u:=B (∃j,0<=j/\j<(i+1)/\0<f j)) (Zk ⟨fun hh=>⟨i,by omega,by omega,hh⟩,fun⟨j,j0,j1,j2⟩=>by by_cases e:j=i;exact e▸j2;exact absurd ⟨j,j0,by omega,j2⟩ ‹¬(∃j,0<=j/\j<i/\0<f j)›⟩) ?_
   refine(zP)<|zlz<|zla (xl0 (c:=ints f) Zb hS) ?_;rintro v3 w ⟨hS,hv3⟩
   refine(zP)<|zla (xap 1 (r:=p.m) (f:=ints f) Zb Zt hS (hA.below hS.below) (by exact Yh _ _)) ?_;rintro v4 w ⟨hS,hv4⟩
   have hri:=hr i h0 (by omega);have hei:=hp.all i h0 (by omega);unfold Prob.each at hei
   refine(zP)<|zlz<|(zP)<|(zP)<|(zV (xix (kk:=i) Zb hv4))<|(zV (xlr (u:= .int .i64 (f i)) pl_3 (hS.rowN 1 rfl)))<|(zV (Zh (r:=f i+1)))<|(zV (xix (kk:=i) Zb hv4))<|zle (xso 1 pl_3 hS (Zx _ _ _)) ?_;clear hS;rintro w hS
   refine zlz<|(zV (xls 0 Z5 hS))<|(zP)<|zlc (xc0 ZfP) (UO (p:=p) w (h.below hS.below) (hS.rowN 1 rfl)) ?_;rintro _ w ⟨rfl,hS'⟩
   replace hS:=hS.cmp hS';clear hS'
   refine zlt<|Zf ?_ ?_<;>intro hc
   ·
    refine zsr<|(zP)<|zx2<|zf1 ⟨_,rfl,?_⟩
    exact⟨Ze fun hm=>by have h9:=(XV hp hr h0 (by omega)).1 ‹_›;have:=hm.2 i h0 (by omega) h9.1;omega,hS.nl⟩
   refine zx4<|(zP)<|(zV (Zh (r:=i+1)))<|(zP)<|zln<|zlq ⟨i+1,rfl,(by omega),(by omega),?_,rfl,hS.pk [0]⟩
   ·
    intro k k0 k1 hk;rcases Int.lt_or_eq_of_le (show k<=i by omega) with hj|hj
    · exact qa k k0 hj hk
    · subst hj;have h9:=(not_congr (XV hp hr h0 (by omega))).1 ‹_›;omega
  refine zx8<|(zP)<|(zP)<|zx1<|zf1 ⟨_,rfl,?_⟩
  obtain rfl:i=p.m:=by omega
  exact⟨Zk ⟨fun hh=>⟨hh,fun k k0 k1 hk=>qa k k0 k1 hk⟩,fun hm=>hm.1⟩,hS.nl⟩
end Go.Proofs.YtkichmnjjblodaaGreat
namespace Go.Proofs.YtkichmnjjblodaaGreat
open Go Go.RowKit Go.Proofs.Gw
variable {i:Int} {a:Int->Int}
theorem Zlq:Zc Tryz.prog 115=true:=by kernel_rfl
theorem TL:Zc Tryz.prog 78=true:=by kernel_rfl
theorem ZaK{p:Prob}(hp:p.Ok){l q:Int}(h:Pfx p i a l)(q0:0<=q)(q1:q<=i)(i1:i<=p.m):0<=ZC p a q.toNat/\ZC p a q.toNat<=42000000:=by
  have h1:=WI (f:=fun i=>a i*(p.L i+p.kerf)) (A:=2100000) (n:=q.toNat) (fun j j0 j1=>by
    have hr:=h.rng j j0 (by omega)
    have he:=hp.all j j0 (by omega)
    unfold Prob.each at he
    have:=hp.k1;have:=hp.k2;have:=hp.s2
    exact⟨Int.mul_nonneg hr.1 (by omega),Int.le_trans (Int.mul_le_mul (show a j<=1000 by omega) (show p.L j+p.kerf<=2100 by omega) (by omega) (by omega)) (by omega)⟩)
  have:=hp.m2
  unfold ZC
  refine⟨h1.1,Int.le_trans h1.2 ?_⟩
  have:((q.toNat:Nat):Int)*2100000=q*2100000:=by rw [Int.toNat_of_nonneg q0]
  omega
theorem Zhh{p:Prob}(hp:p.Ok){l q:Int}(h:Pfx p i a l)(q0:0<=q)(q1:q<i)(i1:i<=p.m):0<=a q*(p.L q+p.kerf)/\a q*(p.L q+p.kerf)<=2100000:=by
  have hr:=h.rng q q0 q1
  have he:=hp.all q q0 (by omega)
  unfold Prob.each at he
  have:=hp.k1;have:=hp.k2;have:=hp.s2
  exact⟨Int.mul_nonneg hr.1 (by omega),Int.le_trans (Int.mul_le_mul (show a q<=1000 by omega) (show p.L q+p.kerf<=2100 by omega) (by omega) (by omega)) (by omega)⟩
theorem ZeH{p:Prob}(hp:p.Ok){l:Int}(h:Pfx p i a l)(h0:0<=i)(i1:i<=p.m):l<=p.stock+p.kerf:=by
  have:=ZaK hp h h0 (Int.le_refl _) i1;have:=h.left;omega
theorem X9{α:Type}{n:Nat}{x y:List α}:(x.take n++y).take n=(x++y).take n:=by
  rw [List.take_append,List.take_append,List.take_take,Nat.min_self]
  by_cases h:x.length<=n
  · rw [List.take_of_length_le h]
  · rw [show n-x.length=0 by omega,show n-(x.take n).length=0 by rw [List.length_take];omega]
theorem Zaq{α:Type}{n:Nat}{x:List α}{y:List α}(h:x.length=n):(x++y).take n=x:=by subst h;simp
theorem WG{α:Type}{n:Nat}{x:List α}(h:x.length<=n):x.take n=x:=List.take_of_length_le h
theorem Pfx.used{p:Prob}{l:Int}(h:Pfx p p.m a l):p.stock+p.kerf-ZC p a p.m.toNat=l:=h.left.symm
theorem ZhS{α:Type}{F:Int->List α}{lo k:Int}(hk:k=0)(hl:lo=1):dn F lo (k+1-lo).toNat=dn F lo (k-1+1-lo).toNat:=by
  subst hk;subst hl;rfl
theorem Wb(a:Int->Int)(i x:Int):∀j,0<=j->j<(i+1)*((1:Nat):Int)->ints (snoc a i x) j=ints (upd a i x) j:=fun j j0 j1=>by
  unfold ints;congr 1
  by_cases e:j<i
  · rw [Zu e,upd_ne _ _ (by omega)]
  · rw [Zv e,show j=i by omega,Zw]
theorem Wg{wi k:Int}(h:0<=wi->wi<i->1<=a wi)(hk:wi≠i\/0<k):0<=wi->wi<i+1->1<=upd a i k wi:=fun w0 w1=>by
  by_cases e:wi=i
  · rw [e,Zw];omega
  · rw [upd_ne _ _ e];exact h w0 (by omega)
theorem ZlA {vL vD:Value} {p:Prob} (hp:p.Ok) {wi:Int} (hw:wi<p.m) (N:Nat):∀{F:Gw.Frame} {va vo:Value} {a:Int->Int} {i l u:Int} {vv:Int->Value} {f:Int->Int->Int} {out:List (Int->Int)} (w0 w:World) (hS:Sat w0 w [.own vo 1 22 u vv,.sem (Frame.rows 3 u vv (fun _=>p.m) f),.own va 1 3 i (ints a),.sem F]) (h:PAt w0 vL vD p) (hvo:Slh vo u) (hva:Slh va i) (h0:0<=i) (h1:i<=p.m) (hx:Pfx p i a l) (hls:Ls p.m u f out) (hu:u<=301) (hwa:0<=wi->wi<i->1<=a wi) (hN:(p.m-i).toNat<N),
    Calls Tryz.prog 78 [.agg #[vL,vD,.int .i64 p.stock,.int .i64 p.kerf],va,.int .i64 wi,vo].toArray w fun e w=>∃v,e= .returned v/\∃vo2 u2 vv2 f2,v=vo2/\Slh vo2 u2/\u2<=301/\Ls p.m u2 f2 ((out++exI p wi i a l).take 301)/\Sat w0 w [.own vo2 1 22 u2 vv2,.sem (Frame.rows 3 u2 vv2 (fun _=>p.m) f2),.sem F]:=by
  induction N with
  |zero=>intros;omega
  | succ N ih=>
    intro F va vo a i l u vv f out w0 w hS h hvo hva h0 h1 hx hls hu hwa hN
    have hm:=h.L.slh.n0;have hm1:=h.L.slh.n1;have hd:=h.D.slh.n0;have hd1:=h.D.slh.n1;have hs:=h.is;have hk:=h.ik
    have hpm:=hp.m1;have qI:=hp.m2;have hpd:=hp.d;have hs1:=hp.s1;have hs2:=hp.s2;have hk1:=hp.k1;have hk2:=hp.k2
    have hrs:=fun k (k0:0<=k) (k1:k<u)=>hS.slhIn 1 rfl k0 k1
    have hu0:=hvo.n0
    have hlx:=ZeH hp hx h0 h1;have hl0:=hx.l0
    refine zenF Tryz.func78 Tryz.ntmps78 ?_
    refine zsr<|zla (xbx (cs:= [_,_,_,_]) hS) ?_;rintro _ w ⟨g1,rfl,hS⟩
    refine(zP)<|zlz<|(zP)<|(zV (xln Zb hva))<|(zP)<|zx5<|(zP)<|(zV (xln Zm hvo))<|(zP)<|zlt<|Zf ?_ ?_<;>intro hc
    ·
     refine zsr<|(zP)<|(zP)<|zx14<|zf1 ⟨_,rfl,?_⟩
     first
     |exact⟨_,_,_,_,rfl,hvo,by omega,by rw [Zaq (by have:=hls.1;omega)];exact hls,hS.pk [0,1,3]⟩
     | (obtain rfl:i=p.m:=by omega
        exact⟨_,_,_,_,rfl,hvo,by omega,by rw [Uq rfl (by rw [<-Pfx.used hx];assumption),List.append_nil,WG (by have:=hls.1;omega)];exact hls,hS.pk [0,1,3]⟩)
    refine YL<|(zP)<|(zV (xfb 0 fd_24_0))<|(zV (xlb 4 pl_22 hS))<|(zV (xln Zb h.L.slh))<|(zP)<|zlt<|Zf ?_ ?_<;>intro hc
    ·
     refine zx11<|(zV (xls 4 Z5 hS))<|(zP)<|zlc (xc0 Zlq) (Zic (p:=p) w (h.below hS.below) hp (hS.rowN 2 rfl) (by omega) (fun k k0 k1=>hx.rng k k0 (by omega))) ?_;rintro _ w ⟨rfl,hS'⟩
     replace hS:=hS.cmp hS';clear hS'
     refine(zP)<|zlb 28 ?_ ?_<;>intro hc
     ·
      refine(zP)<|(zP)<|(zP)<|zlb 31 ?_ ?_<;>intro hc
      ·
       iterate 5 refine zlo ?_
       refine(zP)<|(zP)<|zlt<|zct<|zrg ?_
       refine(zP)<|zla (xl0 (c:=ints a) Zb hS) ?_;rintro v1 w ⟨hS,hv1⟩
       refine(zP)<|zla (xap 5 (r:=i) (f:=ints a) Zb Zt hS (hS.rowN 2 rfl) (by exact Yh _ _)) ?_;rintro v2 w ⟨hS,hv2⟩
       refine zla (xli (n:=1) (len:=1) (pv:= [(0,v2)]) (cs:= [v2]) (c:=(fun _=>v2)) Zm Ya hS (hf:=by obtain⟨_,_,_,_,rfl,_⟩:=hv2;kernel_rfl)) ?_;rintro v3 w ⟨hS,hv3⟩
       refine zla (xap 0 (r:=u+1) Zm Ya hS (hS.rowN 6 rfl) (Xs _ _ _) (h1:=fun _ _ _=>hv2.one)) ?_;rintro v4 w ⟨hS,hv4⟩
       replace hS:=Sat.merge (l1:= [_]) (l2:= [_,_,_]) (l3:= [_]) hS (by omega)
       have qY:=fun k (k0:0<=k) (k1:k<u+1)=>hS.slhIn 1 rfl k0 k1
       refine(zP)<|zlz<|(zP)<|(zP)<|zx14<|zf1 ⟨_,rfl,?_⟩
       replace hS:=hS.rerows (vv':=(gsn vv u v2)) (ln':=fun _=>p.m) (f':=(gsn f u a)) 1 rfl (fun k k0 k1=>⟨rfl,by unfold gsn;split<;>(try dsimp only)<;>omega,fun _ _ _=>rfl⟩)
       obtain rfl:i=p.m:=by omega
       exact⟨_,_,_,_,rfl,hv4,by omega,by rw [W9 rfl (by rw [<-Pfx.used hx];assumption),WG (by have:=hls.1;rw [List.length_append,List.length_singleton];omega)];exact hls.snoc fun _ _ _=>rfl,hS.pk [0,1,3]⟩
      refine(zP)<|(zP)<|(zV (xix (kk:=wi) Zb hva))<|zlv (xlr (u:= .int .i64 (a wi)) pl_3 (hS.rowN 2 rfl)) ?_
      have hwi:=hwa (by omega) (by omega)
      refine(zV (xkt Yr))<|(zP)<|(zP)<|zlt<|zct<|zrg ?_
      refine(zP)<|zla (xl0 (c:=ints a) Zb hS) ?_;rintro v1 w ⟨hS,hv1⟩
      refine(zP)<|zla (xap 5 (r:=i) (f:=ints a) Zb Zt hS (hS.rowN 2 rfl) (by exact Yh _ _)) ?_;rintro v2 w ⟨hS,hv2⟩
      refine zla (xli (n:=1) (len:=1) (pv:= [(0,v2)]) (cs:= [v2]) (c:=(fun _=>v2)) Zm Ya hS (hf:=by obtain⟨_,_,_,_,rfl,_⟩:=hv2;kernel_rfl)) ?_;rintro v3 w ⟨hS,hv3⟩
      refine zla (xap 0 (r:=u+1) Zm Ya hS (hS.rowN 6 rfl) (Xs _ _ _) (h1:=fun _ _ _=>hv2.one)) ?_;rintro v4 w ⟨hS,hv4⟩
      replace hS:=Sat.merge (l1:= [_]) (l2:= [_,_,_]) (l3:= [_]) hS (by omega)
      have qY:=fun k (k0:0<=k) (k1:k<u+1)=>hS.slhIn 1 rfl k0 k1
      refine(zP)<|zlz<|(zP)<|(zP)<|zx14<|zf1 ⟨_,rfl,?_⟩
      replace hS:=hS.rerows (vv':=(gsn vv u v2)) (ln':=fun _=>p.m) (f':=(gsn f u a)) 1 rfl (fun k k0 k1=>⟨rfl,by unfold gsn;split<;>(try dsimp only)<;>omega,fun _ _ _=>rfl⟩)
      obtain rfl:i=p.m:=by omega
      exact⟨_,_,_,_,rfl,hv4,by omega,by rw [W9 rfl (by rw [<-Pfx.used hx];assumption),WG (by have:=hls.1;rw [List.length_append,List.length_singleton];omega)];exact hls.snoc fun _ _ _=>rfl,hS.pk [0,1,3]⟩
     iterate 9 refine zlo ?_
     refine(zP)<|zlt<|zcf<|zsk<|ztn<|zsr ?_
     refine(zP)<|(zP)<|zx14<|zf1 ⟨_,rfl,?_⟩
     first
     |exact⟨_,_,_,_,rfl,hvo,by omega,by rw [Zaq (by have:=hls.1;omega)];exact hls,hS.pk [0,1,3]⟩
     | (obtain rfl:i=p.m:=by omega
        exact⟨_,_,_,_,rfl,hvo,by omega,by rw [Uq rfl (by rw [<-Pfx.used hx];assumption),List.append_nil,WG (by have:=hls.1;omega)];exact hls,hS.pk [0,1,3]⟩)
    refine ZT<|(zV (xfb 2 fd_24_2))<|(zV (xlb 4 pl_3 hS))<|(zV (xfb 3 fd_24_3))<|(zV (xlb 4 pl_3 hS))<|(zV (Zh (r:=p.stock+p.kerf)))<|(zP)<|zx5<|(zP)<|zx6<|zlp (fun mm M w=>∃(s:Int) (q:Int),mm=((i-q).toNat)/\(0<=q)/\(q<=i)/\(s=p.stock+p.kerf-ZC p a q.toNat)/\M= [(1,va),(2,.int .i64 wi),(3,vo),(4,.pointer (some ⟨g1,0,none⟩)),(8,.slice none 0 0),(9,.int .i64 i),(10,.int .i64 s),(11,.int .i64 q)]/\Sat w0 w [.own vo 1 22 u vv,.sem (Frame.rows 3 u vv (fun _=>p.m) f),.own va 1 3 i (ints a),.sem F,.blk g1 [vL,vD,.int .i64 p.stock,.int .i64 p.kerf]]) ⟨p.stock+p.kerf,0,rfl,(by omega),(by omega),?_,rfl,hS⟩ ?_
    ·
     show _=_-Zd _ 0;simp [Zd]
    clear hS w
    rintro mm M w ⟨s,q,rfl,q0,q1,hs9,rfl,hS⟩
    refine zx11<|(zP)<|(zP)<|(zP)<|zlt<|Zf ?_ ?_<;>intro hc
    ·
     refine zx29<|zdst [0,1,2,3,4] [0,1,2,3,4] 1000 mx_ hS ?_;clear hS;intro w hS
     refine(zDw 0 xmv)<|(zDw 1 xmv)<|(zDw 2 xmv)<|(zDw 3 (xix (kk:=q) Zb hva))<|zdla 4 (fun w hS=>(xlr (u:= .int .i64 (a q)) pl_3 (hS.rowN 2 rfl))) ?_
     have hmq:=Zhh hp hx q0 (by omega:q<i) h1;have huq:=ZaK hp hx q0 (by omega) h1;have heq:=hp.all q q0 (by omega);unfold Prob.each at heq;have hrq:=hx.rng q q0 (by omega)
     refine(zDw 5 (xfb 0 fd_24_0))<|(zDl 6 (fun w hS=>(xlb 4 pl_22 hS)))<|(zDw 7 xmv)<|(zDw 8 (xix (kk:=q) Zb h.L.slh))<|zdla 9 (fun w hS=>(xlr (u:= .int .i64 (p.L q)) pl_3 (h.L.below hS.below))) ?_
     have hbv:=h.iL q
     refine(zDw 10 (xfb 3 fd_24_3))<|(zDl 11 (fun w hS=>(xlb 4 pl_3 hS)))<|(zDw 12 (Zh (r:=p.L q+p.kerf)))<|zDrv 13 (Z2 (r:=((a q)*(p.L q+p.kerf))) (e:=rfl) (hr:=(by unfold I64;omega))) ?_
     refine(zDw 14 (Zq (r:=s-((a q)*(p.L q+p.kerf)))))<|(zDw 15 xas)<|zdd<|zbn<|ztn<|zrg ?_
     refine(zP)<|(zV (Zh (r:=q+1)))<|(zP)<|zln<|zlq ⟨s-((a q)*(p.L q+p.kerf)),q+1,rfl,(by omega),(by omega),?_,rfl,hS⟩
     ·
      have h9:ZC p a (q+1).toNat=ZC p a q.toNat+a q*(p.L q+p.kerf):=ZH _ q0
      rw [h9];omega
    refine zxt<|ztx<|ztx<|zbh<|ztn<|zsq<|zdst [0,1,2,3,4] [0,1,2,3,4] 1000 mx_ hS ?_;clear hS;intro w hS
    refine(zDw 0 (xfb 1 fd_24_1))<|(zDl 1 (fun w hS=>(xlb 4 pl_22 hS)))<|(zDw 2 xmv)<|(zDw 3 (xix (kk:=i) Zb h.D.slh))<|zdla 4 (fun w hS=>(xlr (u:= .int .i64 (p.D i)) pl_3 (h.D.below hS.below))) ?_
    have hbv:=h.iD i
    have hsl:s=l:=by rw [hs9,show q=i by omega];exact hx.left.symm
    have hei:=hp.all i h0 (by omega);unfold Prob.each at hei
    have hqd:=Yv (a:=s) (b:=p.L i+p.kerf) (by omega) (by omega)
    have hml:min (p.D i) (Int.tdiv s (p.L i+p.kerf))=most p i l:=by rw [hsl];rfl
    refine(zDw 5 xmv)<|(zDw 6 (xfb 0 fd_24_0))<|(zDl 7 (fun w hS=>(xlb 4 pl_22 hS)))<|(zDw 8 xmv)<|(zDw 9 (xix (kk:=i) Zb h.L.slh))<|zdla 10 (fun w hS=>(xlr (u:= .int .i64 (p.L i)) pl_3 (h.L.below hS.below))) ?_
    have hbv:=h.iL i
    refine(zDw 11 (xfb 3 fd_24_3))<|(zDl 12 (fun w hS=>(xlb 4 pl_3 hS)))<|(zDw 13 (Zh (r:=p.L i+p.kerf)))<|(zDw 14 (VB (r:=(Int.tdiv s (p.L i+p.kerf)))))<|(zDw 15 (U5 (r:=(min (p.D i) (Int.tdiv s (p.L i+p.kerf))))))<|(zDw 16 xas)<|zdd<|ztn<|zsq<|zsr ?_
    refine(zP)<|(zP)<|zx6<|zlp (fun mm M w=>∃(o2:List (Int->Int)) (u2:Int) (vv2:Int->Value) (f2:Int->Int->Int) (w2:Value) (k:Int),mm=((k+1).toNat)/\(-1<=k)/\(k<=most p i l)/\((o2++dn (kid p wi i a l) (least wi i) (k+1-least wi i).toNat).take 301=(out++exI p wi i a l).take 301)/\(Ls p.m u2 f2 o2)/\(Slh w2 u2)/\(u2<=301)/\M= [(1,va),(2,.int .i64 wi),(3,w2),(4,.pointer (some ⟨g1,0,none⟩)),(8,.slice none 0 0),(9,.int .i64 i),(13,.int .i64 k)]/\Sat w0 w [.blk g1 [vL,vD,.int .i64 p.stock,.int .i64 p.kerf],.own w2 1 22 u2 vv2,.sem (Frame.rows 3 u2 vv2 (fun _=>p.m) f2),.own va 1 3 i (ints a),.sem F]) ⟨out,u,vv,f,vo,(min (p.D i) (Int.tdiv s (p.L i+p.kerf))),rfl,(by omega),(by omega),?_,?_,?_,(by omega),rfl,hS.pk [4,0,1,2,3]⟩ ?_
    ·
     rw [hml,XK h0 (by omega)]
    ·
     exact hls
    ·
     exact hvo
    clear hS w
    rintro mm M w ⟨o2,u2,vv2,f2,w2,k,rfl,k0,k1,ho2,yS,hw2,hu2,rfl,hS⟩
    have yz:=fun k (k0:0<=k) (k1:k<u2)=>hS.slhIn 2 rfl k0 k1
    refine zx11<|(zP)<|(zP)<|zlt<|Zf ?_ ?_<;>intro hc
    ·
     refine zx3<|zs4 ?_
     refine zlb 95 ?_ ?_<;>intro hc
     ·
      refine(zO)<|(zO)<|(zP)<|zlt<|zct ?_
      refine zdst [0,4] [0,4] 1000 mx_ hS ?_;clear hS;intro w hS
      refine(zDl 0 (fun w hS=>(xls 0 Z5 hS)))<|(zDw 2 xmv)<|(zDw 4 xmv)<|(zDw 7 xmv)<|(zDw 8 xmv)<|Vf (r:= [1,5]) ((YI ?_ (YI ?_ Ve)))
      ·
       refine zka (xl0 (c:=ints a) Zb hS) ?_;rintro v1 w ⟨hS,hv1⟩
       refine⟨⟨fun _=>hS.pk [0,4],hS.pk [0,4]⟩,?_⟩
       refine Vf (r:= [3,5]) ((YI ?_ (YI ?_ Ve)))
       ·
        refine zka (xap 5 (r:=i) (f:=ints a) Zb Zt hS (hS.rowN 3 rfl) (by exact Yh _ _)) ?_;rintro v2 w ⟨hS,hv2⟩
        refine⟨⟨fun _=>hS.pk [0,4],hS.pk [0,4]⟩,?_⟩
        refine zda 5 (xli (n:=1) (len:=1) (pv:= [(0,.int .i64 k)]) (cs:= [.int .i64 k]) (c:=ints (fun _=>k)) Zb Zt hS) ?_;rintro v3 w ⟨hS,hv3⟩
        refine⟨⟨fun _=>hS.pk [0,4],hS.pk [0,4]⟩,?_⟩
        refine zda 6 (xap 5 (r:=i+1) Zb Zt hS (hS.rowN 6 rfl) (Yu _ _ _)) ?_;rintro v4 w ⟨hS,hv4⟩
        refine⟨⟨fun _=>hS.pk [0,4],hS.pk [0,4]⟩,?_⟩
        replace hS:=hS.recont 5 rfl (d:=ints (upd a i k)) (Wb a i k)
        refine zdc 9 (xc0 TL) (ih (i:=i+1) (a:=upd a i k) (l:=l-k*(p.L i+p.kerf)) (out:=o2) w0 w (Sat.bundle (l1:= [_,_,_]) (hS.pk [1,2,5,0,3,4,6])) h hw2 hv4 (by omega) (by omega) (hx.step hp h0 (by omega) (by omega) (by omega)) yS (by omega) (Wg hwa (by omega)) (by omega)) ?_;rintro qS w ⟨_,ux1,qB,fx1,rfl,qG,zU,xA,hS⟩
        replace hS:=Sat.unbundle (l1:= [_,_]) (l3:= []) hS
        have xl:=fun k (k0:0<=k) (k1:k<ux1)=>hS.slhIn 1 rfl k0 k1
        refine⟨⟨fun _=>hS.pk [2,4],hS.pk [2,4]⟩,?_⟩
        refine(zDw 10 xas)<|zdd<|zbn<|ztn<|zrg ?_
        refine(zP)<|(zV (Zq (r:=k-1)))<|(zP)<|zln<|zlq ⟨((o2++exI p wi (i+1) (upd a i k) (l-k*(p.L i+p.kerf))).take 301),ux1,qB,fx1,qS,k-1,rfl,(by omega),(by omega),?_,?_,?_,(by omega),rfl,hS.pk [2,0,1,3,4]⟩
        ·
         rw [<-ho2,X2 (k:=k) _ (by unfold least;split<;>omega),<-List.append_assoc,show k-1+1-least wi i=k-least wi i by omega];exact X9
        ·
         exact xA
        ·
         exact qG
       refine zka (xli (n:=1) (len:=1) (pv:= [(0,.int .i64 k)]) (cs:= [.int .i64 k]) (c:=ints (fun _=>k)) Zb Zt hS) ?_;rintro v2 w ⟨hS,hv2⟩
       refine⟨⟨fun _=>hS.pk [0,4],hS.pk [0,4]⟩,?_⟩
       refine zda 3 (xap 5 (r:=i) (f:=ints a) Zb Zt hS (hS.rowN 3 rfl) (by exact Yh _ _)) ?_;rintro v3 w ⟨hS,hv3⟩
       refine⟨⟨fun _=>hS.pk [0,4],hS.pk [0,4]⟩,?_⟩
       refine zda 6 (xap 5 (r:=i+1) Zb Zt hS (hS.rowN 6 rfl) (Yu _ _ _)) ?_;rintro v4 w ⟨hS,hv4⟩
       refine⟨⟨fun _=>hS.pk [0,4],hS.pk [0,4]⟩,?_⟩
       replace hS:=hS.recont 5 rfl (d:=ints (upd a i k)) (Wb a i k)
       refine zdc 9 (xc0 TL) (ih (i:=i+1) (a:=upd a i k) (l:=l-k*(p.L i+p.kerf)) (out:=o2) w0 w (Sat.bundle (l1:= [_,_,_]) (hS.pk [1,2,5,0,3,4,6])) h hw2 hv4 (by omega) (by omega) (hx.step hp h0 (by omega) (by omega) (by omega)) yS (by omega) (Wg hwa (by omega)) (by omega)) ?_;rintro qS w ⟨_,ux1,qB,fx1,rfl,qG,zU,xA,hS⟩
       replace hS:=Sat.unbundle (l1:= [_,_]) (l3:= []) hS
       have xl:=fun k (k0:0<=k) (k1:k<ux1)=>hS.slhIn 1 rfl k0 k1
       refine⟨⟨fun _=>hS.pk [2,4],hS.pk [2,4]⟩,?_⟩
       refine(zDw 10 xas)<|zdd<|zbn<|ztn<|zrg ?_
       refine(zP)<|(zV (Zq (r:=k-1)))<|(zP)<|zln<|zlq ⟨((o2++exI p wi (i+1) (upd a i k) (l-k*(p.L i+p.kerf))).take 301),ux1,qB,fx1,qS,k-1,rfl,(by omega),(by omega),?_,?_,?_,(by omega),rfl,hS.pk [2,0,1,3,4]⟩
       ·
        rw [<-ho2,X2 (k:=k) _ (by unfold least;split<;>omega),<-List.append_assoc,show k-1+1-least wi i=k-least wi i by omega];exact X9
       ·
        exact xA
       ·
        exact qG
      refine zka (xli (n:=1) (len:=1) (pv:= [(0,.int .i64 k)]) (cs:= [.int .i64 k]) (c:=ints (fun _=>k)) Zb Zt hS) ?_;rintro v1 w ⟨hS,hv1⟩
      refine⟨⟨fun _=>hS.pk [0,4],hS.pk [0,4]⟩,?_⟩
      refine zda 1 (xl0 (c:=ints a) Zb hS) ?_;rintro v2 w ⟨hS,hv2⟩
      refine⟨⟨fun _=>hS.pk [0,4],hS.pk [0,4]⟩,?_⟩
      refine zda 3 (xap 6 (r:=i) (f:=ints a) Zb Zt hS (hS.rowN 3 rfl) (by exact Yh _ _)) ?_;rintro v3 w ⟨hS,hv3⟩
      refine⟨⟨fun _=>hS.pk [0,4],hS.pk [0,4]⟩,?_⟩
      refine zda 6 (xap 6 (r:=i+1) Zb Zt hS (hS.rowN 5 rfl) (Yu _ _ _)) ?_;rintro v4 w ⟨hS,hv4⟩
      refine⟨⟨fun _=>hS.pk [0,4],hS.pk [0,4]⟩,?_⟩
      replace hS:=hS.recont 6 rfl (d:=ints (upd a i k)) (Wb a i k)
      refine zdc 9 (xc0 TL) (ih (i:=i+1) (a:=upd a i k) (l:=l-k*(p.L i+p.kerf)) (out:=o2) w0 w (Sat.bundle (l1:= [_,_,_]) (hS.pk [1,2,6,0,3,4,5])) h hw2 hv4 (by omega) (by omega) (hx.step hp h0 (by omega) (by omega) (by omega)) yS (by omega) (Wg hwa (by omega)) (by omega)) ?_;rintro qS w ⟨_,ux1,qB,fx1,rfl,qG,zU,xA,hS⟩
      replace hS:=Sat.unbundle (l1:= [_,_]) (l3:= []) hS
      have xl:=fun k (k0:0<=k) (k1:k<ux1)=>hS.slhIn 1 rfl k0 k1
      refine⟨⟨fun _=>hS.pk [2,4],hS.pk [2,4]⟩,?_⟩
      refine(zDw 10 xas)<|zdd<|zbn<|ztn<|zrg ?_
      refine(zP)<|(zV (Zq (r:=k-1)))<|(zP)<|zln<|zlq ⟨((o2++exI p wi (i+1) (upd a i k) (l-k*(p.L i+p.kerf))).take 301),ux1,qB,fx1,qS,k-1,rfl,(by omega),(by omega),?_,?_,?_,(by omega),rfl,hS.pk [2,0,1,3,4]⟩
      ·
       rw [<-ho2,X2 (k:=k) _ (by unfold least;split<;>omega),<-List.append_assoc,show k-1+1-least wi i=k-least wi i by omega];exact X9
      ·
       exact xA
      ·
       exact qG
     refine(zP)<|(zP)<|(zP)<|zlt<|Zf ?_ ?_<;>intro hc
     ·
      refine zdst [0,4] [0,4] 1000 mx_ hS ?_;clear hS;intro w hS
      refine(zDl 0 (fun w hS=>(xls 0 Z5 hS)))<|(zDw 2 xmv)<|(zDw 4 xmv)<|(zDw 7 xmv)<|(zDw 8 xmv)<|Vf (r:= [1,5]) ((YI ?_ (YI ?_ Ve)))
      ·
       refine zka (xl0 (c:=ints a) Zb hS) ?_;rintro v1 w ⟨hS,hv1⟩
       refine⟨⟨fun _=>hS.pk [0,4],hS.pk [0,4]⟩,?_⟩
       refine Vf (r:= [3,5]) ((YI ?_ (YI ?_ Ve)))
       ·
        refine zka (xap 5 (r:=i) (f:=ints a) Zb Zt hS (hS.rowN 3 rfl) (by exact Yh _ _)) ?_;rintro v2 w ⟨hS,hv2⟩
        refine⟨⟨fun _=>hS.pk [0,4],hS.pk [0,4]⟩,?_⟩
        refine zda 5 (xli (n:=1) (len:=1) (pv:= [(0,.int .i64 k)]) (cs:= [.int .i64 k]) (c:=ints (fun _=>k)) Zb Zt hS) ?_;rintro v3 w ⟨hS,hv3⟩
        refine⟨⟨fun _=>hS.pk [0,4],hS.pk [0,4]⟩,?_⟩
        refine zda 6 (xap 5 (r:=i+1) Zb Zt hS (hS.rowN 6 rfl) (Yu _ _ _)) ?_;rintro v4 w ⟨hS,hv4⟩
        refine⟨⟨fun _=>hS.pk [0,4],hS.pk [0,4]⟩,?_⟩
        replace hS:=hS.recont 5 rfl (d:=ints (upd a i k)) (Wb a i k)
        refine zdc 9 (xc0 TL) (ih (i:=i+1) (a:=upd a i k) (l:=l-k*(p.L i+p.kerf)) (out:=o2) w0 w (Sat.bundle (l1:= [_,_,_]) (hS.pk [1,2,5,0,3,4,6])) h hw2 hv4 (by omega) (by omega) (hx.step hp h0 (by omega) (by omega) (by omega)) yS (by omega) (Wg hwa (by omega)) (by omega)) ?_;rintro qS w ⟨_,ux1,qB,fx1,rfl,qG,zU,xA,hS⟩
        replace hS:=Sat.unbundle (l1:= [_,_]) (l3:= []) hS
        have xl:=fun k (k0:0<=k) (k1:k<ux1)=>hS.slhIn 1 rfl k0 k1
        refine⟨⟨fun _=>hS.pk [2,4],hS.pk [2,4]⟩,?_⟩
        refine(zDw 10 xas)<|zdd<|zbn<|ztn<|zrg ?_
        refine(zP)<|(zV (Zq (r:=k-1)))<|(zP)<|zln<|zlq ⟨((o2++exI p wi (i+1) (upd a i k) (l-k*(p.L i+p.kerf))).take 301),ux1,qB,fx1,qS,k-1,rfl,(by omega),(by omega),?_,?_,?_,(by omega),rfl,hS.pk [2,0,1,3,4]⟩
        ·
         rw [<-ho2,X2 (k:=k) _ (by unfold least;split<;>omega),<-List.append_assoc,show k-1+1-least wi i=k-least wi i by omega];exact X9
        ·
         exact xA
        ·
         exact qG
       refine zka (xli (n:=1) (len:=1) (pv:= [(0,.int .i64 k)]) (cs:= [.int .i64 k]) (c:=ints (fun _=>k)) Zb Zt hS) ?_;rintro v2 w ⟨hS,hv2⟩
       refine⟨⟨fun _=>hS.pk [0,4],hS.pk [0,4]⟩,?_⟩
       refine zda 3 (xap 5 (r:=i) (f:=ints a) Zb Zt hS (hS.rowN 3 rfl) (by exact Yh _ _)) ?_;rintro v3 w ⟨hS,hv3⟩
       refine⟨⟨fun _=>hS.pk [0,4],hS.pk [0,4]⟩,?_⟩
       refine zda 6 (xap 5 (r:=i+1) Zb Zt hS (hS.rowN 6 rfl) (Yu _ _ _)) ?_;rintro v4 w ⟨hS,hv4⟩
       refine⟨⟨fun _=>hS.pk [0,4],hS.pk [0,4]⟩,?_⟩
       replace hS:=hS.recont 5 rfl (d:=ints (upd a i k)) (Wb a i k)
       refine zdc 9 (xc0 TL) (ih (i:=i+1) (a:=upd a i k) (l:=l-k*(p.L i+p.kerf)) (out:=o2) w0 w (Sat.bundle (l1:= [_,_,_]) (hS.pk [1,2,5,0,3,4,6])) h hw2 hv4 (by omega) (by omega) (hx.step hp h0 (by omega) (by omega) (by omega)) yS (by omega) (Wg hwa (by omega)) (by omega)) ?_;rintro qS w ⟨_,ux1,qB,fx1,rfl,qG,zU,xA,hS⟩
       replace hS:=Sat.unbundle (l1:= [_,_]) (l3:= []) hS
       have xl:=fun k (k0:0<=k) (k1:k<ux1)=>hS.slhIn 1 rfl k0 k1
       refine⟨⟨fun _=>hS.pk [2,4],hS.pk [2,4]⟩,?_⟩
       refine(zDw 10 xas)<|zdd<|zbn<|ztn<|zrg ?_
       refine(zP)<|(zV (Zq (r:=k-1)))<|(zP)<|zln<|zlq ⟨((o2++exI p wi (i+1) (upd a i k) (l-k*(p.L i+p.kerf))).take 301),ux1,qB,fx1,qS,k-1,rfl,(by omega),(by omega),?_,?_,?_,(by omega),rfl,hS.pk [2,0,1,3,4]⟩
       ·
        rw [<-ho2,X2 (k:=k) _ (by unfold least;split<;>omega),<-List.append_assoc,show k-1+1-least wi i=k-least wi i by omega];exact X9
       ·
        exact xA
       ·
        exact qG
      refine zka (xli (n:=1) (len:=1) (pv:= [(0,.int .i64 k)]) (cs:= [.int .i64 k]) (c:=ints (fun _=>k)) Zb Zt hS) ?_;rintro v1 w ⟨hS,hv1⟩
      refine⟨⟨fun _=>hS.pk [0,4],hS.pk [0,4]⟩,?_⟩
      refine zda 1 (xl0 (c:=ints a) Zb hS) ?_;rintro v2 w ⟨hS,hv2⟩
      refine⟨⟨fun _=>hS.pk [0,4],hS.pk [0,4]⟩,?_⟩
      refine zda 3 (xap 6 (r:=i) (f:=ints a) Zb Zt hS (hS.rowN 3 rfl) (by exact Yh _ _)) ?_;rintro v3 w ⟨hS,hv3⟩
      refine⟨⟨fun _=>hS.pk [0,4],hS.pk [0,4]⟩,?_⟩
      refine zda 6 (xap 6 (r:=i+1) Zb Zt hS (hS.rowN 5 rfl) (Yu _ _ _)) ?_;rintro v4 w ⟨hS,hv4⟩
      refine⟨⟨fun _=>hS.pk [0,4],hS.pk [0,4]⟩,?_⟩
      replace hS:=hS.recont 6 rfl (d:=ints (upd a i k)) (Wb a i k)
      refine zdc 9 (xc0 TL) (ih (i:=i+1) (a:=upd a i k) (l:=l-k*(p.L i+p.kerf)) (out:=o2) w0 w (Sat.bundle (l1:= [_,_,_]) (hS.pk [1,2,6,0,3,4,5])) h hw2 hv4 (by omega) (by omega) (hx.step hp h0 (by omega) (by omega) (by omega)) yS (by omega) (Wg hwa (by omega)) (by omega)) ?_;rintro qS w ⟨_,ux1,qB,fx1,rfl,qG,zU,xA,hS⟩
      replace hS:=Sat.unbundle (l1:= [_,_]) (l3:= []) hS
      have xl:=fun k (k0:0<=k) (k1:k<ux1)=>hS.slhIn 1 rfl k0 k1
      refine⟨⟨fun _=>hS.pk [2,4],hS.pk [2,4]⟩,?_⟩
      refine(zDw 10 xas)<|zdd<|zbn<|ztn<|zrg ?_
      refine(zP)<|(zV (Zq (r:=k-1)))<|(zP)<|zln<|zlq ⟨((o2++exI p wi (i+1) (upd a i k) (l-k*(p.L i+p.kerf))).take 301),ux1,qB,fx1,qS,k-1,rfl,(by omega),(by omega),?_,?_,?_,(by omega),rfl,hS.pk [2,0,1,3,4]⟩
      ·
       rw [<-ho2,X2 (k:=k) _ (by unfold least;split<;>omega),<-List.append_assoc,show k-1+1-least wi i=k-least wi i by omega];exact X9
      ·
       exact xA
      ·
       exact qG
     refine zx4<|(zP)<|(zV (Zq (r:=k-1)))<|(zP)<|zln<|zlq ⟨o2,u2,vv2,f2,w2,k-1,rfl,(by omega),(by omega),?_,?_,?_,(by omega),rfl,hS⟩
     ·
      rw [<-ho2,ZhS (k:=k) (by omega) (by unfold least;rw [if_pos (by omega)])]
     ·
      exact yS
     ·
      exact hw2
    refine zx8<|(zP)<|(zP)<|zx1<|zf1 ⟨_,rfl,?_⟩
    exact⟨_,_,_,_,rfl,hw2,by omega,by rw [<-ho2,show k= -1 by omega,Zj7 _ (by unfold least;split<;>omega),List.append_nil,WG (by have:=yS.1;omega)];exact yS,hS.pk [1,2,4]⟩
end Go.Proofs.YtkichmnjjblodaaGreat
namespace Go.Proofs.YtkichmnjjblodaaGreat
open Go Go.RowKit Go.Proofs.Gw
variable {wi:Int}
def Zjf(p:Prob)(wi u:Int)(f:Int->Int->Int)(e:Int):Prop:=(¬p.Ok/\e=1/\u=0)\/(p.Ok/\¬(0<=wi/\wi<p.m)/\e=2/\u=0)\/
  (p.Ok/\(0<=wi/\wi<p.m)/\300<(MX p wi).length/\e=9/\u=0)\/(p.Ok/\(0<=wi/\wi<p.m)/\(MX p wi).length<=300/\e=0/\Ls p.m u f (MX p wi))
theorem Zds{p:Prob}{u:Int}{f:Int->Int->Int}(h:Ls p.m u f (([]++exI p wi 0 (fun _=>0) (p.stock+p.kerf)).take 301))(hu:300<u):300<(MX p wi).length:=by
  have h1:=h.1
  rw [List.nil_append,List.length_take] at h1
  unfold MX;omega
theorem T6{p:Prob}{u:Int}{f:Int->Int->Int}(h:Ls p.m u f (([]++exI p wi 0 (fun _=>0) (p.stock+p.kerf)).take 301))(hu:¬300<u):(MX p wi).length<=300/\Ls p.m u f (MX p wi):=by
  have h1:=h.1
  rw [List.nil_append,List.length_take] at h1
  have h2:(MX p wi).length<=300:=by unfold MX;omega
  refine⟨h2,?_⟩
  have h3:=h
  rw [List.nil_append,List.take_of_length_le (by have:(exI p wi 0 (fun _=>0) (p.stock+p.kerf)).length<=300:=h2;omega)] at h3
  exact h3
theorem Zib{vL vD:Value}{p:Prob}(w0:World)(h:PAt w0 vL vD p):
    Calls Tryz.prog 46 [.agg #[vL,vD,.int .i64 p.stock,.int .i64 p.kerf],.int .i64 wi].toArray w0 fun e w=>∃v,e= .returned v/\∃r u vv f e,v= .tuple #[r,.int .i64 e]/\Zjf p wi u f e/\Slh r u/\Sat w0 w [.own r 1 22 u vv,.sem (Frame.rows 3 u vv (fun _=>p.m) f)]:=by
  have hm:=h.L.slh.n0;have hm1:=h.L.slh.n1;have hd:=h.D.slh.n0;have hd1:=h.D.slh.n1;have hs:=h.is;have hk:=h.ik
  refine zenG Tryz.func46 Tryz.ntmps46 fun w hS=> ?_
  refine zsr<|zla (xbx (cs:= [_,_,_,_]) hS) ?_;rintro _ w ⟨g1,rfl,hS⟩
  refine(zP)<|(zP)<|zlt<|zsq<|zbk<|zsr<|(zV (xls 0 Z5 hS))<|zlc (xc0 UN) (YE (p:=p) w (h.below hS.below)) ?_;rintro _ w ⟨rfl,hS'⟩
  replace hS:=hS.cmp hS';clear hS'
  refine(zP)<|(zP)<|zlt<|Zf ?_ ?_<;>intro hc
  ·
   refine zsr<|(zP)<|(zP)<|Xz<|zf2 ⟨_,rfl,?_⟩
   exact⟨_,0,_,_,_,rfl,.inl ⟨‹¬p.Ok›,rfl,rfl⟩,slh_nil,((hS.sub (.cons _ .slnil)).addnil 1 22 (fun _=>Value.slice none 0 0)).addrows 3 (fun _=>Value.slice none 0 0) (fun _=>p.m) (fun _ _=>0)⟩
  refine zsr<|zlv xmv ?_
  have hp:p.Ok:=by first|assumption|exact Classical.not_not.1 ‹_›
  have hpm:=hp.m1;have qI:=hp.m2;have hpd:=hp.d;have hs1:=hp.s1;have hs2:=hp.s2;have hk1:=hp.k1;have hk2:=hp.k2
  refine(zP)<|(zP)<|zlb 14 ?_ ?_<;>intro hc
  ·
   iterate 5 refine zlo ?_
   refine(zP)<|(zP)<|zlt<|zct<|zsr ?_
   refine(zP)<|(zP)<|Xz<|zf2 ⟨_,rfl,?_⟩
   exact⟨_,0,_,_,_,rfl,.inr (.inl ⟨hp,by omega,rfl,rfl⟩),slh_nil,((hS.sub (.cons _ .slnil)).addnil 1 22 (fun _=>Value.slice none 0 0)).addrows 3 (fun _=>Value.slice none 0 0) (fun _=>p.m) (fun _ _=>0)⟩
  refine(zP)<|(zV (xfb 0 fd_24_0))<|(zV (xlb 0 pl_22 hS))<|(zV (xln Zb h.L.slh))<|(zP)<|(zP)<|(zP)<|zlt<|Zf ?_ ?_<;>intro hc
  ·
   refine zsr<|(zP)<|(zP)<|Xz<|zf2 ⟨_,rfl,?_⟩
   exact⟨_,0,_,_,_,rfl,.inr (.inl ⟨hp,by omega,rfl,rfl⟩),slh_nil,((hS.sub (.cons _ .slnil)).addnil 1 22 (fun _=>Value.slice none 0 0)).addrows 3 (fun _=>Value.slice none 0 0) (fun _=>p.m) (fun _ _=>0)⟩
  refine zsk<|zbn<|ztn<|zsr<|(zV (xls 0 Z5 hS))<|zlv xmv ?_
  replace hS:=(hS.addnil 1 22 (fun _=>Value.slice none 0 0)).addrows 3 (fun _=>Value.slice none 0 0) (fun _=>p.m) (fun _ _=>0)
  replace hS:=hS.addnil 1 3 (ints (fun _=>0))
  refine zlc (xc0 TL) (ZlA (p:=p) (wi:=wi) hp (by omega) _ (i:=0) (a:=fun _=>0) (l:=p.stock+p.kerf) (out:= []) w0 w (Sat.bundle (l1:= [_,_,_]) (hS.pk [1,2,3,0])) h slh_nil slh_nil (by omega) (by omega) (Pfx.start hp) Ls.nil (by omega) (by omega) (Nat.lt_succ_self _)) ?_;rintro qS w ⟨_,ux1,qB,fx1,rfl,qG,zU,xA,hS⟩
  replace hS:=Sat.unbundle (l1:= [_,_]) (l3:= []) hS
  have xl:=fun k (k0:0<=k) (k1:k<ux1)=>hS.slhIn 1 rfl k0 k1
  refine(zP)<|zx5<|(zP)<|(zV (xln Zm qG))<|(zP)<|zlt<|Zf ?_ ?_<;>intro hc
  ·
   refine zsr<|(zP)<|(zP)<|zx14<|zf2 ⟨_,rfl,?_⟩
   exact⟨_,0,_,_,_,rfl,.inr (.inr (.inl ⟨hp,by omega,Zds xA (by omega),rfl,rfl⟩)),slh_nil,((hS.sub (.cons _ (.cons _ (.cons _ .slnil)))).addnil 1 22 (fun _=>Value.slice none 0 0)).addrows 3 (fun _=>Value.slice none 0 0) (fun _=>p.m) (fun _ _=>0)⟩
  refine ZT<|(zP)<|(zP)<|(zP)<|zx1<|zf2 ⟨_,rfl,?_⟩
  exact⟨_,_,_,_,0,rfl,.inr (.inr (.inr ⟨hp,by omega,(T6 xA (by omega)).1,rfl,(T6 xA (by omega)).2⟩)),qG,hS.pk [0,1]⟩
end Go.Proofs.YtkichmnjjblodaaGreat
namespace Go.Proofs.YtkichmnjjblodaaGreat
open Go Go.RowKit Go.Proofs.Gw
theorem Zk7:Zc Tryz.prog 152=true:=by kernel_rfl
theorem ZlK{x:Int}(w0:World):
    Calls Tryz.prog 152 [.int .i64 x].toArray w0 fun e w=>∃v,e= .returned v/\v=B (0<x)/\Sat w0 w []:=by
  refine zenG Tryz.func152 Tryz.ntmps152 fun w hS=> ?_
  refine zsr<|(zP)<|zlz<|(zP)<|(zP)<|(zP)<|zx1<|zf1 ⟨_,rfl,?_⟩
  exact⟨Zk (by omega),hS⟩
theorem ZlR{v:Value}{n:Int}{f:Int->Int}(w0:World)(hR:Row w0 v 1 n (ints f)):
    Calls Tryz.prog 159 [v,.func (.func 152) #[] #[]].toArray w0 fun e w=>∃v,e= .returned v/\∃r:Int,v= .int .i64 r/\((r= -1/\∀k,0<=k->k<n->¬(0<f k))\/(0<=r/\r<n/\(0<f r)))/\Sat w0 w []:=by
  have hn:=hR.slh.n0;have hn1:=hR.slh.n1
  refine zenG Tryz.func159 Tryz.ntmps159 fun w hS=> ?_
  refine zsr<|(zP)<|zx5<|(zP)<|(zV (xln Zb hR.slh))<|(zP)<|zx6<|zlp (fun mm M w=>∃(i:Int),mm=((n-i).toNat)/\(0<=i)/\(i<=n)/\(∀k,0<=k->k<i->¬(0<f k))/\M= [(0,v),(1,.func (.func 152) #[] #[]),(7,.int .i64 n),(8,.int .i64 i)]/\Sat w0 w []) ⟨0,rfl,(by omega),(by omega),?_,rfl,hS⟩ ?_
  ·
   intro k h0 h1;omega
  clear hS w
  rintro mm M w ⟨i,rfl,h0,h1,qa,rfl,hS⟩
  refine zsr<|(zP)<|zx7<|Zf ?_ ?_<;>intro hc
  ·
   refine zx3<|(zP)<|(zP)<|zlz<|(zP)<|(zP)<|(zP)<|(zV (xix (kk:=i) Zb hR.slh))<|(zV (xlr (u:= .int .i64 (f i)) pl_3 (hR.below hS.below)))<|zlc (xc0 Zk7) (ZlK (x:=(f i)) w) ?_;rintro _ w ⟨rfl,hS'⟩
   replace hS:=hS.cmp hS';clear hS'
   refine zlt<|Zf ?_ ?_<;>intro hc
   ·
    refine zsr<|(zP)<|(zP)<|zx2<|zf1 ⟨_,rfl,?_⟩
    exact⟨i,rfl,.inr ⟨by omega,by omega,‹0<f i›⟩,hS⟩
   refine zx4<|(zV (Zh (r:=i+1)))<|(zP)<|zln<|zlq ⟨i+1,rfl,(by omega),(by omega),?_,rfl,hS⟩
   ·
    intro k h0' h1';rcases Int.lt_or_eq_of_le (show k<=i by omega) with hk|hk;exact qa k h0' hk;rw [hk];assumption
  refine zx8<|(zP)<|zx1<|zf1 ⟨_,rfl,?_⟩
  exact⟨-1,rfl,.inl ⟨rfl,fun k h0 h1=>qa k h0 (by omega)⟩,hS⟩
theorem Zl3{v:Value}{n:Int}{f:Int->Int}(w0:World)(hR:Row w0 v 1 n (ints f)):
    Calls Tryz.prog 151 [v,.func (.func 152) #[] #[]].toArray w0 fun e w=>∃v,e= .returned v/\v=B (∃k,0<=k/\k<n/\0<f k)/\Sat w0 w []:=by
  refine zenG Tryz.func151 Tryz.ntmps151 fun w hS=> ?_
  refine zsr<|(zP)<|zlz<|(zP)<|(zP)<|zlc (xc0 WO) (ZlR (n:=n) (f:=f) w (hR.below hS.below)) ?_;rintro _ w ⟨r1,rfl,hr1,hS'⟩
  replace hS:=hS.cmp hS';clear hS'
  refine(zP)<|(zP)<|zx1<|zf1 ⟨_,rfl,?_⟩
  exact⟨Zk (by
   rcases hr1 with⟨h1,h2⟩|⟨h1,h2,h3⟩
   · exact⟨fun h=>by omega,fun⟨k,h4,h5,h6⟩=>absurd h6 (h2 k h4 h5)⟩
   · exact⟨fun _=>⟨_,h1,h2,h3⟩,fun _=>h1⟩),hS⟩
end Go.Proofs.YtkichmnjjblodaaGreat
namespace Go.Proofs.Gw
open Go Go.RowKit
noncomputable def Frame.cd(p:Prop)(F G:Frame):Frame:= @ite _ p (Classical.propDecidable p) F G
theorem Y9{p:Prop}{F G:Frame}(h:p):Frame.cd p F G=F:=if_pos h
theorem WD{p:Prop}{F G:Frame}(h:¬p):Frame.cd p F G=G:=if_neg h
structure BX where
  v:Value
  n:Int
  f:Int->Int
theorem VC{f:Int->Int}{i x:Int}(h:f i=x):upd f i x=f:=by
  funext k;unfold upd;split
  · rename_i e;rw [e,h]
  · rfl
theorem Xv(f:Int->Int)(i x y:Int):upd (ints (upd f i x)) i (.int .i64 y)=ints (upd f i y):=by
  funext k;unfold upd ints;dsimp only;split<;>rfl
end Go.Proofs.Gw
namespace Go.Proofs.YtkichmnjjblodaaGreat
open Go Go.RowKit Go.Proofs.Gw
theorem Zd7{vL vD:Value}{p:Prob}{wi:Int}(w0:World)(h:PAt w0 vL vD p)(hp:p.Ok):
    Calls Tryz.prog 114 [.agg #[vL,vD,.int .i64 p.stock,.int .i64 p.kerf],.int .i64 wi].toArray w0 fun e w=>∃v,e= .returned v/\∃g2 g3 g5 g6 vl,v= .func (.func 149) #[] #[.pointer (some ⟨g5,0,none⟩),.pointer (some ⟨g6,0,none⟩),.pointer (some ⟨g3,0,none⟩),.pointer (some ⟨g2,0,none⟩)]/\Slh vl (p.m+1)/\Sat w0 w [.blk g2 [vL,vD,.int .i64 p.stock,.int .i64 p.kerf],.blk g3 [.int .i64 wi],.blk g5 [.int .i64 p.m],.blk g6 [vl],.own vl 1 3 (p.m+1) (ints (Xu p))]:=by
  have hm:=h.L.slh.n0;have hm1:=h.L.slh.n1;have hd:=h.D.slh.n0;have hd1:=h.D.slh.n1;have hs:=h.is;have hk:=h.ik
  have hpm:=hp.m1;have qI:=hp.m2;have hpd:=hp.d;have hs1:=hp.s1;have hs2:=hp.s2;have hk1:=hp.k1;have hk2:=hp.k2
  refine zenG Tryz.func114 Tryz.ntmps114 fun w hS=> ?_
  refine zsr<|zla (xbx (cs:= [_,_,_,_]) hS) ?_;rintro _ w ⟨g1,rfl,hS⟩
  refine zla (xbx (cs:= [_]) hS) ?_;rintro _ w ⟨g2,rfl,hS⟩
  refine(zP)<|zlz<|(zV (xfb 0 fd_32_0))<|(zV (xlb 0 pl_22 hS))<|(zV (xln Zb h.L.slh))<|zla (xal (cs:= [_]) Zt hS) ?_;rintro _ w ⟨g3,rfl,hS⟩
  refine zle (xsb 2 pl_3 hS) ?_;clear hS;rintro w hS
  refine zlz<|(zV (xlb 2 pl_3 hS))<|(zV (Zh (r:=p.m+1)))<|zla (xmk Zb Zt hS) ?_;rintro v1 w ⟨hS,hv1⟩
  refine zla (xal (cs:= [_]) Ya hS) ?_;rintro _ w ⟨g4,rfl,hS⟩
  refine zle (xsb 4 pl_22 hS (hv:=hv1.one)) ?_;clear hS;rintro w hS
  refine zx5<|(zV (xlb 2 pl_3 hS))<|(zV (Zq (r:=p.m-1)))<|(zP)<|zx6<|zlp (fun mm M w=>∃(g:Int->Int) (i:Int),mm=((i+1).toNat)/\(-1<=i)/\(i<p.m)/\(∀k,i<k->k<=p.m->g k=Xu p k)/\M= [(2,.pointer (some ⟨g1,0,none⟩)),(3,.pointer (some ⟨g2,0,none⟩)),(4,(Value.nilFunc)),(5,.pointer (some ⟨g3,0,none⟩)),(6,.pointer (some ⟨g4,0,none⟩)),(7,.int .i64 i)]/\Sat w0 w [.blk g1 [vL,vD,.int .i64 p.stock,.int .i64 p.kerf],.blk g2 [.int .i64 wi],.blk g3 [.int .i64 p.m],.own v1 1 3 (p.m+1) (ints g),.blk g4 [v1]]) ⟨(fun _=>0),p.m-1,rfl,(by omega),(by omega),?_,rfl,hS⟩ ?_
  ·
   intro k k0 k1;rw [LatI_end (by omega)]
  clear hS w
  rintro mm M w ⟨g,i,rfl,h0,h1,hg,rfl,hS⟩
  refine zx11<|(zP)<|(zP)<|zlt<|Zf ?_ ?_<;>intro hc
  ·
   refine zx29<|zdst [0,1,2,3,4] [0,1,2,4] 18 mx_ hS ?_;clear hS;intro w hS
   refine(zDl 0 (fun w hS=>(xlb 3 pl_22 hS)))<|(zDw 1 xmv)<|(zDl 2 (fun w hS=>(xlb 3 pl_22 hS)))<|(zDw 3 xmv)<|(zDw 4 (Zh (r:=i+1)))<|(zDw 5 (xix (kk:=i+1) Zb hv1))<|zdl 6 (fun w hS=>(xlr (u:= .int .i64 (g (i+1))) pl_3 (hS.rowN 3 rfl))) ?_
   have hei:=hp.all i (by omega) (by omega);unfold Prob.each at hei
   have hLn:=Zag hp (i:=i+1) (by omega)
   have hgn:=hg (i+1) (by omega) (by omega)
   have hml:0<=p.D i*(p.L i+p.kerf)/\p.D i*(p.L i+p.kerf)<=2100000:=⟨Int.mul_nonneg (by omega) (by omega),Int.le_trans (Int.mul_le_mul (show p.D i<=1000 by omega) (show p.L i+p.kerf<=2100 by omega) (by omega) (by omega)) (by omega)⟩
   refine(zDw 7 (xfb 1 fd_32_1))<|(zDl 8 (fun w hS=>(xlb 0 pl_22 hS)))<|(zDw 9 xmv)<|(zDw 10 (xix (kk:=i) Zb h.D.slh))<|zdla 11 (fun w hS=>(xlr (u:= .int .i64 (p.D i)) pl_3 (h.D.below hS.below))) ?_
   have hbv:=h.iD i
   refine(zDl 12 (fun w hS=>(xls 0 st_32 hS)))<|(zDw 13 xmv)<|zdc 14 (xc0 XM) (XN (p:=p) (i:=i) w (h.below hS.below) hp (by omega) (by omega)) ?_;rintro _ w ⟨rfl,hS'⟩
   replace hS:=hS.cmp hS';clear hS'
   refine⟨⟨fun _=>hS,hS.pk [0,1,2,4]⟩,?_⟩
   refine zDrv 15 (Z2 (r:=((p.D i)*(p.L i+p.kerf))) (e:=rfl) (hr:=(by unfold I64;omega))) ?_
   refine(zDw 16 (Zh (r:=g (i+1)+((p.D i)*(p.L i+p.kerf)))))<|(zDw 17 (xix (kk:=i) Zb hv1))<|zde 18 (xso 3 pl_3 hS (Zx _ _ _)) ?_;clear hS;rintro w hS
   refine⟨⟨fun h=>absurd h (by decide),hS.pk [0,1,2,4]⟩,?_⟩
   refine zdd<|zbn<|ztn<|zrg ?_
   refine(zP)<|(zV (Zq (r:=i-1)))<|(zP)<|zln<|zlq ⟨(upd g i (g (i+1)+((p.D i)*(p.L i+p.kerf)))),i-1,rfl,(by omega),(by omega),?_,rfl,hS⟩
   ·
    intro k k0 k1;by_cases e:k=i
    · rw [e,Zw,UB (by omega) h1,<-hg (i+1) (by omega) (by omega)]
    · rw [upd_ne _ _ e];exact hg k (by omega) k1
  refine zx8<|(zV xmf)<|(zP)<|zx1<|zf1 ⟨_,rfl,?_⟩
  have hi:i= -1:=by omega
  replace hS:=hS.recont 3 rfl (d:=ints (Xu p)) (fun k k0 k1=>by unfold ints;rw [hg k (by omega) (by omega)])
  exact⟨_,_,_,_,_,rfl,hv1,hS.pk [0,1,2,4,3]⟩
end Go.Proofs.YtkichmnjjblodaaGreat
namespace Go.Proofs.YtkichmnjjblodaaGreat
open Go Go.RowKit Go.Proofs.Gw
theorem TM:Zc Tryz.prog 150=true:=by kernel_rfl
theorem Uj:ZM Tryz.prog 209=true:=by kernel_rfl
theorem Zh3 {vL vD:Value} {p:Prob} (hp:p.Ok) {wi:Int} {St Tt:Type} (qd:St->List (Int->Int)) (Inv:St->Prop) (Stp:Tt->Prop) (t0:Tt) {g2 g3 g5 g6:Nat} {vl:Value} (hvl:Slh vl (p.m+1)) {lq:Nat} {C:St->Gw.Frame} {D:Tt->Gw.Frame} (N:Nat):∀{F:Gw.Frame} {s:St} {ga gy gv:Nat} {va:Value} {a:Int->Int} {i l need:Int} {pre post:List (Int->Int)} (w0 w:World) (hS:Sat w0 w [.sem (C s),.blk g2 [vL,vD,.int .i64 p.stock,.int .i64 p.kerf],.blk g3 [.int .i64 wi],.blk g5 [.int .i64 p.m],.blk g6 [vl],.own vl 1 3 (p.m+1) (ints (Xu p)),.blk ga [va],.own va 1 3 p.m (ints a),.blk gy [.func (.yield lq) #[] #[]],.blk gv [.func (.func 150) #[] #[.pointer (some ⟨g6,0,none⟩),.pointer (some ⟨g5,0,none⟩),.pointer (some ⟨ga,0,none⟩),.pointer (some ⟨gy,0,none⟩),.pointer (some ⟨g3,0,none⟩),.pointer (some ⟨g2,0,none⟩),.pointer (some ⟨gv,0,none⟩)]],.sem F]) (h:PAt w0 vL vD p) (hva:Slh va p.m) (h0:0<=i) (h1:i<=p.m) (hx:Pfx p i a l) (hn:NeedP p a i need) (hI:Inv s) (hh:qd s=pre) (hM:MX p wi=pre++(exI p wi i a l++post)) (hY:∀(s:St) (x:BX) (rest:Gw.Frame) (w:World),(fun(s:St) (x:BX) (rest:Gw.Frame)=>Inv s/\Slh x.v x.n/\x.n=p.m/\∃r,MX p wi=qd s++x.f::r) s x rest->Sat w0 w (.sem (C s)::([.blk g2 [vL,vD,.int .i64 p.stock,.int .i64 p.kerf],.blk g3 [.int .i64 wi],.blk g5 [.int .i64 p.m],.blk g6 [vl],.own vl 1 3 (p.m+1) (ints (Xu p))]++((fun(x:BX)=> [.own x.v 1 3 x.n (ints x.f)]) x++ [.sem rest])))->Yld Tryz.prog lq [x.v] w fun v w'=>(v= .bool true/\∃s',(fun(s:St) (x:BX) (s1:St)=>qd s1=qd s++ [x.f]/\Inv s1) s x s'/\Sat w0 w' (.sem (C s')::([.blk g2 [vL,vD,.int .i64 p.stock,.int .i64 p.kerf],.blk g3 [.int .i64 wi],.blk g5 [.int .i64 p.m],.blk g6 [vl],.own vl 1 3 (p.m+1) (ints (Xu p))]++ [.sem rest])))\/(v= .bool false/\∃t,Stp t/\Sat w0 w' (.sem (D t)::([.blk g2 [vL,vD,.int .i64 p.stock,.int .i64 p.kerf],.blk g3 [.int .i64 wi],.blk g5 [.int .i64 p.m],.blk g6 [vl],.own vl 1 3 (p.m+1) (ints (Xu p))]++ [.sem rest])))) (hN:(p.m-i).toNat<N),
    Calls Tryz.prog 150 [.int .i64 i,.int .i64 l,.int .i64 need,.pointer (some ⟨g6,0,none⟩),.pointer (some ⟨g5,0,none⟩),.pointer (some ⟨ga,0,none⟩),.pointer (some ⟨gy,0,none⟩),.pointer (some ⟨g3,0,none⟩),.pointer (some ⟨g2,0,none⟩),.pointer (some ⟨gv,0,none⟩)].toArray w fun e w=>∃v,e= .returned v/\∃(ok:Prop) (s2:St) (t2:Tt) (a2:Int->Int),v=B ok/\(ok->a2=a/\Inv s2/\qd s2=pre++exI p wi i a l)/\(¬ok->Stp t2)/\Sat w0 w [.sem (Frame.cd ok (C s2) (D t2)),.blk g2 [vL,vD,.int .i64 p.stock,.int .i64 p.kerf],.blk g3 [.int .i64 wi],.blk g5 [.int .i64 p.m],.blk g6 [vl],.own vl 1 3 (p.m+1) (ints (Xu p)),.blk ga [va],.own va 1 3 p.m (ints a2),.blk gy [.func (.yield lq) #[] #[]],.blk gv [.func (.func 150) #[] #[.pointer (some ⟨g6,0,none⟩),.pointer (some ⟨g5,0,none⟩),.pointer (some ⟨ga,0,none⟩),.pointer (some ⟨gy,0,none⟩),.pointer (some ⟨g3,0,none⟩),.pointer (some ⟨g2,0,none⟩),.pointer (some ⟨gv,0,none⟩)]],.sem F]:=by
  induction N with
  |zero=>intros;omega
  | succ N ih=>
    intro F s ga gy gv va a i l need pre post w0 w hS h hva h0 h1 hx hn hI hh hM hY hN
    have hm:=h.L.slh.n0;have hm1:=h.L.slh.n1;have hdn:=h.D.slh.n0;have fN:=h.D.slh.n1;have hs:=h.is;have hk:=h.ik
    have hpm:=hp.m1;have qI:=hp.m2;have hpd:=hp.d;have hs1:=hp.s1;have hs2:=hp.s2;have hk1:=hp.k1;have hk2:=hp.k2
    have hlx:=ZeH hp hx h0 h1;have hl0:=hx.l0;have hLn:=Zag hp h0;have hnt:=hn.top
    refine ZeX Tryz.func150 Tryz.ntmps150 ?_
    refine hsq<|hrz ?_
    refine(zP)<|zln<|zh<|htn<|hsq<|hsq<|hrz ?_
    refine(zP)<|(zV (xlb 4 pl_22 hS))<|(zP)<|(zV (xix (kk:=i) Zb hvl))<|(zV (xlr (u:= .int .i64 (Xu p i)) pl_3 (hS.rowN 5 rfl)))<|(zV (Zq (r:=l-(Xu p i))))<|(zP)<|(zP)<|zln<|zh<|htn ?_
    refine Y0 ?_ ?_<;>intro hc
    ·
     refine hsq<|hrz ?_
     refine(zP)<|zln<|zh<|htn<|hrt<|ztr<|zf1 ⟨_,rfl,?_⟩
     exact⟨True,s,t0,a,(ZK trivial).symm,fun _=>⟨rfl,hI,by first|rw [Zcw hp h0 h1 hx hn (by omega),hh,List.append_nil]|rw [UY (by omega) ‹_›,hh,List.append_nil]⟩,fun hq=>absurd trivial hq,by rw [Y9 trivial];exact hS.pk [0,1,2,3,4,5,6,7,8,9,10]⟩
    refine hsk<|htn<|hsq<|hsq<|hrz ?_
    refine(zP)<|(zV (xlb 3 pl_3 hS))<|(zP)<|zln<|zh<|htn ?_
    refine Y0 ?_ ?_<;>intro hc
    ·
     refine hsq<|hrz ?_
     refine(zV (xlb 6 pl_22 hS))<|zlc (xc0 WP) (Zl3 (n:=p.m) (f:=a) w (hS.rowN 7 rfl)) ?_;rintro _ w ⟨rfl,hS'⟩
     replace hS:=hS.cmp hS';clear hS'
     refine(zP)<|(zP)<|zlb 14 ?_ ?_<;>intro hc
     ·
      refine zln<|zh<|htn<|hsq ?_
      refine hdr 8 mx_ hS ?_;clear hS;intro w hS
      refine hd1 0 ?_
      refine hov xmv ?_
      refine hd1 1 ?_
      refine hov xmv ?_
      refine hd2 2 3 ?_ ?_
      ·
       refine hof ?_
       refine hd1 3 ?_
       refine hof ?_
       refine hd1 4 ?_
       refine hof ?_
       refine hd1 5 ?_
       refine hof ?_
       refine hd1 6 ?_
       refine hov xpt ?_
       refine hd1 7 ?_
       refine hov xas ?_
       refine hd0<|htn<|hrt<|ztr<|zf1 ⟨_,rfl,?_⟩
       exact⟨True,s,t0,a,(ZK trivial).symm,fun _=>⟨rfl,hI,by first|rw [Zcw hp h0 h1 hx hn (by omega),hh,List.append_nil]|rw [UY (by omega) ‹_›,hh,List.append_nil]⟩,fun hq=>absurd trivial hq,by rw [Y9 trivial];exact hS.pk [0,1,2,3,4,5,6,7,8,9,10]⟩
      ·
       refine hof ?_
       refine hd2 2 4 ?_ ?_
       ·
        refine hof ?_
        refine hd1 4 ?_
        refine hof ?_
        refine hd1 5 ?_
        refine hof ?_
        refine hd1 6 ?_
        refine hov xpt ?_
        refine hd1 7 ?_
        refine hov xas ?_
        refine hd0<|htn<|hrt<|ztr<|zf1 ⟨_,rfl,?_⟩
        exact⟨True,s,t0,a,(ZK trivial).symm,fun _=>⟨rfl,hI,by first|rw [Zcw hp h0 h1 hx hn (by omega),hh,List.append_nil]|rw [UY (by omega) ‹_›,hh,List.append_nil]⟩,fun hq=>absurd trivial hq,by rw [Y9 trivial];exact hS.pk [0,1,2,3,4,5,6,7,8,9,10]⟩
       ·
        refine hof ?_
        refine hd1 2 ?_
        refine hof ?_
        refine hd1 5 ?_
        refine hof ?_
        refine hd1 6 ?_
        refine hov xpt ?_
        refine hd1 7 ?_
        refine hov xas ?_
        refine hd0<|htn<|hrt<|ztr<|zf1 ⟨_,rfl,?_⟩
        exact⟨True,s,t0,a,(ZK trivial).symm,fun _=>⟨rfl,hI,by first|rw [Zcw hp h0 h1 hx hn (by omega),hh,List.append_nil]|rw [UY (by omega) ‹_›,hh,List.append_nil]⟩,fun hq=>absurd trivial hq,by rw [Y9 trivial];exact hS.pk [0,1,2,3,4,5,6,7,8,9,10]⟩
     refine zln<|zh<|htn<|hsq ?_
     refine hdr 8 mx_ hS ?_;clear hS;intro w hS
     refine hd1 0 ?_
     refine hov xmv ?_
     refine hd1 1 ?_
     refine hov xmv ?_
     refine hd2 2 3 ?_ ?_
     ·
      refine hov (xlb 8 pl_208 hS) ?_
      refine hd1 3 ?_
      refine hov (xlb 6 pl_22 hS) ?_
      refine hd1 4 ?_
      refine hoc (xc0 cl_65) (c_clone (n:=p.m) (f:=a) w (hS.rowN 7 rfl) (by omega)) ?_;rintro vq1 w ⟨_,rfl,qb,hS'⟩
      replace hS:=(hS.comp hS').n12;clear hS'
      refine hd1 5 ?_
      replace hS:=hS.pk [0,1,2,3,4,5,11,6,7,8,9,10]
      refine hoy (hY s ⟨vq1,p.m,a⟩ _ w ⟨hI,qb,rfl,post,by rw [hM,Wf (by omega) hn (by rw [LatI_end (by omega)] at*;omega) (Classical.not_not.1 ‹_›),hh];rfl⟩ (Sat.bundle (l1:= [_,_,_,_,_,_,_]) hS)) ?_;rintro _ w (⟨rfl,sy1,qu,hS⟩|⟨rfl,ty1,xb,hS⟩)
      ·
       replace hS:=Sat.unbundle (l1:= [_,_,_,_,_,_]) (l3:= []) hS
       refine hd1 6 ?_
       refine hov xpf ?_
       refine hd1 7 ?_
       refine hov xas ?_
       refine hd0<|htn<|hrt<|ztr<|zf1 ⟨_,rfl,?_⟩
       exact⟨True,sy1,t0,a,(ZK trivial).symm,fun _=>⟨rfl,qu.2,by rw [Wf (by omega) hn (by rw [LatI_end (by omega)] at*;omega) (Classical.not_not.1 ‹_›),qu.1,hh]⟩,fun hq=>absurd trivial hq,by rw [Y9 trivial];exact hS.pk [0,1,2,3,4,5,6,7,8,9,10]⟩
      ·
       replace hS:=Sat.unbundle (l1:= [_,_,_,_,_,_]) (l3:= []) hS
       refine hd1 6 ?_
       refine hov xpf ?_
       refine hd1 7 ?_
       refine hov xas ?_
       refine hd0<|htn<|hrt<|ztr<|zf1 ⟨_,rfl,?_⟩
       exact⟨False,s,ty1,a,(Zz not_false).symm,fun hq=>hq.elim,fun _=>xb,by rw [WD not_false];exact hS.pk [0,1,2,3,4,5,6,7,8,9,10]⟩
     ·
      refine hov (xlb 6 pl_22 hS) ?_
      refine hd2 2 4 ?_ ?_
      ·
       refine hov (xlb 8 pl_208 hS) ?_
       refine hd1 4 ?_
       refine hoc (xc0 cl_65) (c_clone (n:=p.m) (f:=a) w (hS.rowN 7 rfl) (by omega)) ?_;rintro vq1 w ⟨_,rfl,qb,hS'⟩
       replace hS:=(hS.comp hS').n12;clear hS'
       refine hd1 5 ?_
       replace hS:=hS.pk [0,1,2,3,4,5,11,6,7,8,9,10]
       refine hoy (hY s ⟨vq1,p.m,a⟩ _ w ⟨hI,qb,rfl,post,by rw [hM,Wf (by omega) hn (by rw [LatI_end (by omega)] at*;omega) (Classical.not_not.1 ‹_›),hh];rfl⟩ (Sat.bundle (l1:= [_,_,_,_,_,_,_]) hS)) ?_;rintro _ w (⟨rfl,sy1,qu,hS⟩|⟨rfl,ty1,xb,hS⟩)
       ·
        replace hS:=Sat.unbundle (l1:= [_,_,_,_,_,_]) (l3:= []) hS
        refine hd1 6 ?_
        refine hov xpf ?_
        refine hd1 7 ?_
        refine hov xas ?_
        refine hd0<|htn<|hrt<|ztr<|zf1 ⟨_,rfl,?_⟩
        exact⟨True,sy1,t0,a,(ZK trivial).symm,fun _=>⟨rfl,qu.2,by rw [Wf (by omega) hn (by rw [LatI_end (by omega)] at*;omega) (Classical.not_not.1 ‹_›),qu.1,hh]⟩,fun hq=>absurd trivial hq,by rw [Y9 trivial];exact hS.pk [0,1,2,3,4,5,6,7,8,9,10]⟩
       ·
        replace hS:=Sat.unbundle (l1:= [_,_,_,_,_,_]) (l3:= []) hS
        refine hd1 6 ?_
        refine hov xpf ?_
        refine hd1 7 ?_
        refine hov xas ?_
        refine hd0<|htn<|hrt<|ztr<|zf1 ⟨_,rfl,?_⟩
        exact⟨False,s,ty1,a,(Zz not_false).symm,fun hq=>hq.elim,fun _=>xb,by rw [WD not_false];exact hS.pk [0,1,2,3,4,5,6,7,8,9,10]⟩
      ·
       refine hoc (xc0 cl_65) (c_clone (n:=p.m) (f:=a) w (hS.rowN 7 rfl) (by omega)) ?_;rintro vq1 w ⟨_,rfl,qb,hS'⟩
       replace hS:=(hS.comp hS').n12;clear hS'
       refine hd1 2 ?_
       refine hov (xlb 8 pl_208 hS) ?_
       refine hd1 5 ?_
       replace hS:=hS.pk [0,1,2,3,4,5,11,6,7,8,9,10]
       refine hoy (hY s ⟨vq1,p.m,a⟩ _ w ⟨hI,qb,rfl,post,by rw [hM,Wf (by omega) hn (by rw [LatI_end (by omega)] at*;omega) (Classical.not_not.1 ‹_›),hh];rfl⟩ (Sat.bundle (l1:= [_,_,_,_,_,_,_]) hS)) ?_;rintro _ w (⟨rfl,sy1,qu,hS⟩|⟨rfl,ty1,xb,hS⟩)
       ·
        replace hS:=Sat.unbundle (l1:= [_,_,_,_,_,_]) (l3:= []) hS
        refine hd1 6 ?_
        refine hov xpf ?_
        refine hd1 7 ?_
        refine hov xas ?_
        refine hd0<|htn<|hrt<|ztr<|zf1 ⟨_,rfl,?_⟩
        exact⟨True,sy1,t0,a,(ZK trivial).symm,fun _=>⟨rfl,qu.2,by rw [Wf (by omega) hn (by rw [LatI_end (by omega)] at*;omega) (Classical.not_not.1 ‹_›),qu.1,hh]⟩,fun hq=>absurd trivial hq,by rw [Y9 trivial];exact hS.pk [0,1,2,3,4,5,6,7,8,9,10]⟩
       ·
        replace hS:=Sat.unbundle (l1:= [_,_,_,_,_,_]) (l3:= []) hS
        refine hd1 6 ?_
        refine hov xpf ?_
        refine hd1 7 ?_
        refine hov xas ?_
        refine hd0<|htn<|hrt<|ztr<|zf1 ⟨_,rfl,?_⟩
        exact⟨False,s,ty1,a,(Zz not_false).symm,fun hq=>hq.elim,fun _=>xb,by rw [WD not_false];exact hS.pk [0,1,2,3,4,5,6,7,8,9,10]⟩
    refine hsk<|htn<|hsq<|hrz ?_
    refine(zP)<|zln<|zh<|htn<|hsq<|hsq<|hrz ?_
    refine(zP)<|(zV (xlb 2 pl_3 hS))<|(zP)<|zln<|zh<|htn ?_
    refine Y0 ?_ ?_<;>intro hc
    ·
     refine hrz ?_
     refine(zP)<|zln<|zh<|htn<|hsq<|hsq ?_
     refine hdst [0,1,2,3,4,5,6,7,8,9,10] [0,1,2,3,4,5,6,7,8,9,10] 1000 mx_ hS ?_;clear hS;intro w hS
     refine(zDw 0 (xfb 1 fd_32_1))<|(zDl 1 (fun w hS=>(xlb 1 pl_22 hS)))<|(zDw 2 xmv)<|(zDw 3 (xix (kk:=i) Zb h.D.slh))<|zdla 4 (fun w hS=>(xlr (u:= .int .i64 (p.D i)) pl_3 (h.D.below hS.below))) ?_
     have hbv:=h.iD i
     have hei:=hp.all i h0 (by omega);unfold Prob.each at hei
     have hqd:=Yv (a:=l) (b:=p.L i+p.kerf) (by omega) (by omega)
     have hml:min (p.D i) (Int.tdiv l (p.L i+p.kerf))=most p i l:=rfl
     refine(zDw 5 xmv)<|(zDl 6 (fun w hS=>(xls 1 st_32 hS)))<|(zDw 7 xmv)<|zdc 8 (xc0 XM) (XN (p:=p) (i:=i) w (h.below hS.below) hp (by omega) (by omega)) ?_;rintro _ w ⟨rfl,hS'⟩
     replace hS:=hS.cmp hS';clear hS'
     refine⟨⟨fun _=>hS,hS⟩,?_⟩
     refine(zDw 9 (VB (r:=(Int.tdiv l (p.L i+p.kerf)))))<|(zDw 10 (U5 (r:=(min (p.D i) (Int.tdiv l (p.L i+p.kerf))))))<|(zDw 11 xas)<|zdd<|zh<|htn<|hbk ?_
     have hlw:least wi i=1:=by unfold least;first|rw [if_pos (by omega)]|rw [if_neg (by omega)]
     rw [<-VC (show a i=0 from hx.zero i (by omega))] at hS
     refine hlp (fun mm M w=>∃(s2:St) (z:Int) (k:Int),mm=((k+1-least wi i).toNat)/\(least wi i-1<=k\/k=most p i l)/\(k<=most p i l)/\(Inv s2)/\(MX p wi=qd s2++(dn (kid p wi i a l) (least wi i) (k+1-least wi i).toNat++post))/\M= [(0,.int .i64 i),(1,.int .i64 l),(2,.int .i64 need),(5,.pointer (some ⟨ga,0,none⟩)),(8,.pointer (some ⟨g2,0,none⟩)),(9,.pointer (some ⟨gv,0,none⟩)),(15,.int .i64 1),(16,.int .i64 k)]/\Sat w0 w [.sem (C s2),.blk g2 [vL,vD,.int .i64 p.stock,.int .i64 p.kerf],.blk g3 [.int .i64 wi],.blk g5 [.int .i64 p.m],.blk g6 [vl],.own vl 1 3 (p.m+1) (ints (Xu p)),.blk ga [va],.own va 1 3 p.m (ints (upd a i z)),.blk gy [.func (.yield lq) #[] #[]],.blk gv [.func (.func 150) #[] #[.pointer (some ⟨g6,0,none⟩),.pointer (some ⟨g5,0,none⟩),.pointer (some ⟨ga,0,none⟩),.pointer (some ⟨gy,0,none⟩),.pointer (some ⟨g3,0,none⟩),.pointer (some ⟨g2,0,none⟩),.pointer (some ⟨gv,0,none⟩)]],.sem F]) ⟨s,0,(min (p.D i) (Int.tdiv l (p.L i+p.kerf))),rfl,(by omega),(by omega),?_,?_,rfl,hS⟩ ?_
     ·
      exact hI
     ·
      rw [hM,XK h0 (by omega),hh];rfl
     clear hS w
     rintro mm M w ⟨s2,z,k,rfl,k0,k1,hI2,hM2,rfl,hS⟩
     refine hsq<|hsq<|hrz ?_
     refine(zP)<|(zP)<|(zP)<|zln<|zh<|htn ?_
     refine Y0 ?_ ?_<;>intro hc
     ·
      refine hsk<|htn<|hsq<|hbk<|hsq<|hrz ?_
      refine(zP)<|(zP)<|zln<|zh<|htn<|hsq<|hsq<|hrz ?_
      refine(zP)<|(zV (xfb 1 fd_32_1))<|(zV (xlb 1 pl_22 hS))<|(zP)<|(zV (xix (kk:=i) Zb h.D.slh))<|zlv (xlr (u:= .int .i64 (p.D i)) pl_3 (h.D.below hS.below)) ?_
      have hbv:=h.iD i
      refine(zP)<|zln<|zh<|htn ?_
      refine Y0 ?_ ?_<;>intro hc
      ·
       refine hrz ?_
       refine(zP)<|(zV (xls 1 st_32 hS))<|(zP)<|zlc (xc0 XM) (XN (p:=p) (i:=i) w (h.below hS.below) hp (by omega) (by omega)) ?_;rintro _ w ⟨rfl,hS'⟩
       replace hS:=hS.cmp hS';clear hS'
       refine(zV (U5 (r:=(min need (p.L i+p.kerf)))))<|(zP)<|zln<|zh<|htn<|hsq<|hrz ?_
       refine(zV (xlb 6 pl_22 hS))<|(zP)<|(zP)<|(zV (xix (kk:=i) Zb hva))<|zle (xso 7 pl_3 hS (Xv a i z k)) ?_;clear hS;rintro w hS
       refine zln<|zh<|htn<|hsq ?_
       refine hdst [1,2,3,4,6,8,9,5] [1,2,3,4,6,8,9,5] 1000 mx_ hS ?_;clear hS;intro w hS
       refine(zDl 0 (fun w hS=>(xlb 6 Uj hS)))<|(zDw 1 xmv)<|(zDw 2 (Zh (r:=i+1)))<|(zDw 3 xmv)<|(zDw 4 xmv)<|zdla 5 (fun w hS=>(xls 0 st_32 hS)) ?_
       have hmm:=XG hp h0 (by omega) hx.l0 (k:=k) (by omega) (by omega)
       refine(zDw 6 xmv)<|(zDw 10 xmv)<|zdc 7 (xc0 XM) (XN (p:=p) (i:=i) w (h.below hS.below) hp (by omega) (by omega)) ?_;rintro _ w ⟨rfl,hS'⟩
       replace hS:=hS.cmp hS';clear hS'
       refine⟨⟨fun _=>hS.pk [1,2,3,4,6,8,9,5],hS.pk [1,2,3,4,6,8,9,5]⟩,?_⟩
       refine(zDw 8 (Z2 (r:=(k*(p.L i+p.kerf))) (e:=rfl)))<|(zDw 9 (Zq (r:=l-(k*(p.L i+p.kerf)))))<|zdc 11 (xcc (vs:= [_,_,_]) TM) (ih (s:=s2) (i:=i+1) (a:=upd a i k) (l:=l-k*(p.L i+p.kerf)) (need:=(min need (p.L i+p.kerf))) (pre:=qd s2) (post:=dn (kid p wi i a l) (least wi i) (k-least wi i).toNat++post) w0 w (Sat.bundle (l1:= [_,_,_,_,_,_,_,_,_,_]) (hS.pk [0,1,2,3,4,5,6,7,8,9,10])) h hva (by omega) (by omega) (hx.step hp h0 (by omega) (by omega) (by omega)) (hn.yes h0 (by omega)) hI2 rfl (by rw [hM2,X2 (k:=k) _ (by omega),List.append_assoc];rfl) hY (by omega)) ?_;rintro _ w ⟨qT,sz1,tz1,zd,rfl,yH,yU,hS⟩
       replace hS:=Sat.unbundle (l1:= [_,_,_,_,_,_,_,_,_,_]) (l3:= []) hS
       refine⟨⟨fun _=>hS.pk [1,2,3,4,6,8,9,5],hS.pk [1,2,3,4,6,8,9,5]⟩,?_⟩
       refine(zDw 12 Yy)<|zdd<|zh<|htn ?_
       refine Y0 ?_ ?_<;>intro hc
       ·
        refine hsq<|hrz ?_
        refine(zP)<|zln<|zh<|htn<|hrt<|zbr<|ztr<|ztr<|zbr<|ztr<|zf1 ⟨_,rfl,?_⟩
        have yr:=Classical.not_not.1 (fun hh9=>hh9 ‹¬qT›)
        exact⟨False,s,tz1,zd,(Zz not_false).symm,fun hq=>hq.elim,fun _=>yU yr,by rw [WD not_false];rw [WD yr] at hS;exact hS.pk [0,1,2,3,4,5,6,7,8,9,10]⟩
       refine hsk<|zbn<|htn<|hrz ?_
       refine zlv xmv ?_
       obtain⟨rfl,xg,zu⟩:=yH (Classical.not_not.1 ‹¬¬qT›)
       rw [Y9 (Classical.not_not.1 ‹¬¬qT›)] at hS
       refine(zV (Zq (r:=k-1)))<|(zP)<|zln<|zh<|hlq ⟨sz1,k,k-1,rfl,(by omega),(by omega),?_,?_,rfl,hS⟩
       ·
        exact xg
       ·
        rw [zu,hM2,X2 (k:=k) _ (by omega),show k-1+1-least wi i=k-least wi i by omega,List.append_assoc,List.append_assoc];rfl
      refine hsk<|htn<|hsq<|hrz ?_
      refine(zV (xlb 6 pl_22 hS))<|(zP)<|(zP)<|(zV (xix (kk:=i) Zb hva))<|zle (xso 7 pl_3 hS (Xv a i z k)) ?_;clear hS;rintro w hS
      refine zln<|zh<|htn<|hsq ?_
      refine hdst [1,2,3,4,6,8,9,5] [1,2,3,4,6,8,9,5] 1000 mx_ hS ?_;clear hS;intro w hS
      refine(zDl 0 (fun w hS=>(xlb 6 Uj hS)))<|(zDw 1 xmv)<|(zDw 2 (Zh (r:=i+1)))<|(zDw 3 xmv)<|(zDw 4 xmv)<|zdla 5 (fun w hS=>(xls 0 st_32 hS)) ?_
      have hmm:=XG hp h0 (by omega) hx.l0 (k:=k) (by omega) (by omega)
      refine(zDw 6 xmv)<|(zDw 10 xmv)<|zdc 7 (xc0 XM) (XN (p:=p) (i:=i) w (h.below hS.below) hp (by omega) (by omega)) ?_;rintro _ w ⟨rfl,hS'⟩
      replace hS:=hS.cmp hS';clear hS'
      refine⟨⟨fun _=>hS.pk [1,2,3,4,6,8,9,5],hS.pk [1,2,3,4,6,8,9,5]⟩,?_⟩
      refine(zDw 8 (Z2 (r:=(k*(p.L i+p.kerf))) (e:=rfl)))<|(zDw 9 (Zq (r:=l-(k*(p.L i+p.kerf)))))<|zdc 11 (xcc (vs:= [_,_,_]) TM) (ih (s:=s2) (i:=i+1) (a:=upd a i k) (l:=l-k*(p.L i+p.kerf)) (need:=need) (pre:=qd s2) (post:=dn (kid p wi i a l) (least wi i) (k-least wi i).toNat++post) w0 w (Sat.bundle (l1:= [_,_,_,_,_,_,_,_,_,_]) (hS.pk [0,1,2,3,4,5,6,7,8,9,10])) h hva (by omega) (by omega) (hx.step hp h0 (by omega) (by omega) (by omega)) (hn.no h0 (by omega)) hI2 rfl (by rw [hM2,X2 (k:=k) _ (by omega),List.append_assoc];rfl) hY (by omega)) ?_;rintro _ w ⟨qT,sz1,tz1,zd,rfl,yH,yU,hS⟩
      replace hS:=Sat.unbundle (l1:= [_,_,_,_,_,_,_,_,_,_]) (l3:= []) hS
      refine⟨⟨fun _=>hS.pk [1,2,3,4,6,8,9,5],hS.pk [1,2,3,4,6,8,9,5]⟩,?_⟩
      refine(zDw 12 Yy)<|zdd<|zh<|htn ?_
      refine Y0 ?_ ?_<;>intro hc
      ·
       refine hsq<|hrz ?_
       refine(zP)<|zln<|zh<|htn<|hrt<|zbr<|ztr<|ztr<|zbr<|ztr<|zf1 ⟨_,rfl,?_⟩
       have yr:=Classical.not_not.1 (fun hh9=>hh9 ‹¬qT›)
       exact⟨False,s,tz1,zd,(Zz not_false).symm,fun hq=>hq.elim,fun _=>yU yr,by rw [WD not_false];rw [WD yr] at hS;exact hS.pk [0,1,2,3,4,5,6,7,8,9,10]⟩
      refine hsk<|zbn<|htn<|hrz ?_
      refine zlv xmv ?_
      obtain⟨rfl,xg,zu⟩:=yH (Classical.not_not.1 ‹¬¬qT›)
      rw [Y9 (Classical.not_not.1 ‹¬¬qT›)] at hS
      refine(zV (Zq (r:=k-1)))<|(zP)<|zln<|zh<|hlq ⟨sz1,k,k-1,rfl,(by omega),(by omega),?_,?_,rfl,hS⟩
      ·
       exact xg
      ·
       rw [zu,hM2,X2 (k:=k) _ (by omega),show k-1+1-least wi i=k-least wi i by omega,List.append_assoc,List.append_assoc];rfl
     refine hxt<|ztx<|ztx<|zbh<|htn<|hsq<|hrz ?_
     refine(zV (xlb 6 pl_22 hS))<|(zP)<|(zV (xix (kk:=i) Zb hva))<|zle (xso 7 pl_3 hS (Xv a i z 0)) ?_;clear hS;rintro w hS
     refine zln<|zh<|htn<|hsq<|hrz ?_
     refine(zP)<|zln<|zh<|htn<|hrt<|zf1 ⟨_,rfl,?_⟩
     rw [VC (show a i=0 from hx.zero i (by omega))] at hS
     have hk9:k+1-least wi i=0:=by omega
     rw [show(k+1-least wi i).toNat=0 by omega] at hM2
     exact⟨True,s2,t0,a,(ZK trivial).symm,fun _=>⟨rfl,hI2,List.append_cancel_right (by rw [<-hM2,hM,List.append_assoc];rfl)⟩,fun hq=>absurd trivial hq,by rw [Y9 trivial];exact hS.pk [0,1,2,3,4,5,6,7,8,9,10]⟩
    refine hsk<|htn<|hsq<|hsq ?_
    refine hdst [0,1,2,3,4,5,6,7,8,9,10] [0,1,2,3,4,5,6,7,8,9,10] 1000 mx_ hS ?_;clear hS;intro w hS
    refine(zDw 0 (xfb 1 fd_32_1))<|(zDl 1 (fun w hS=>(xlb 1 pl_22 hS)))<|(zDw 2 xmv)<|(zDw 3 (xix (kk:=i) Zb h.D.slh))<|zdla 4 (fun w hS=>(xlr (u:= .int .i64 (p.D i)) pl_3 (h.D.below hS.below))) ?_
    have hbv:=h.iD i
    have hei:=hp.all i h0 (by omega);unfold Prob.each at hei
    have hqd:=Yv (a:=l) (b:=p.L i+p.kerf) (by omega) (by omega)
    have hml:min (p.D i) (Int.tdiv l (p.L i+p.kerf))=most p i l:=rfl
    refine(zDw 5 xmv)<|(zDl 6 (fun w hS=>(xls 1 st_32 hS)))<|(zDw 7 xmv)<|zdc 8 (xc0 XM) (XN (p:=p) (i:=i) w (h.below hS.below) hp (by omega) (by omega)) ?_;rintro _ w ⟨rfl,hS'⟩
    replace hS:=hS.cmp hS';clear hS'
    refine⟨⟨fun _=>hS,hS⟩,?_⟩
    refine(zDw 9 (VB (r:=(Int.tdiv l (p.L i+p.kerf)))))<|(zDw 10 (U5 (r:=(min (p.D i) (Int.tdiv l (p.L i+p.kerf))))))<|(zDw 11 xas)<|zdd<|zh<|htn<|hbk ?_
    have hlw:least wi i=0:=by unfold least;first|rw [if_pos (by omega)]|rw [if_neg (by omega)]
    rw [<-VC (show a i=0 from hx.zero i (by omega))] at hS
    refine hlp (fun mm M w=>∃(s2:St) (z:Int) (k:Int),mm=((k+1-least wi i).toNat)/\(least wi i-1<=k\/k=most p i l)/\(k<=most p i l)/\(Inv s2)/\(MX p wi=qd s2++(dn (kid p wi i a l) (least wi i) (k+1-least wi i).toNat++post))/\M= [(0,.int .i64 i),(1,.int .i64 l),(2,.int .i64 need),(5,.pointer (some ⟨ga,0,none⟩)),(8,.pointer (some ⟨g2,0,none⟩)),(9,.pointer (some ⟨gv,0,none⟩)),(15,.int .i64 0),(16,.int .i64 k)]/\Sat w0 w [.sem (C s2),.blk g2 [vL,vD,.int .i64 p.stock,.int .i64 p.kerf],.blk g3 [.int .i64 wi],.blk g5 [.int .i64 p.m],.blk g6 [vl],.own vl 1 3 (p.m+1) (ints (Xu p)),.blk ga [va],.own va 1 3 p.m (ints (upd a i z)),.blk gy [.func (.yield lq) #[] #[]],.blk gv [.func (.func 150) #[] #[.pointer (some ⟨g6,0,none⟩),.pointer (some ⟨g5,0,none⟩),.pointer (some ⟨ga,0,none⟩),.pointer (some ⟨gy,0,none⟩),.pointer (some ⟨g3,0,none⟩),.pointer (some ⟨g2,0,none⟩),.pointer (some ⟨gv,0,none⟩)]],.sem F]) ⟨s,0,(min (p.D i) (Int.tdiv l (p.L i+p.kerf))),rfl,(by omega),(by omega),?_,?_,rfl,hS⟩ ?_
    ·
     exact hI
    ·
     rw [hM,XK h0 (by omega),hh];rfl
    clear hS w
    rintro mm M w ⟨s2,z,k,rfl,k0,k1,hI2,hM2,rfl,hS⟩
    refine hsq<|hsq<|hrz ?_
    refine(zP)<|(zP)<|(zP)<|zln<|zh<|htn ?_
    refine Y0 ?_ ?_<;>intro hc
    ·
     refine hsk<|htn<|hsq<|hbk<|hsq<|hrz ?_
     refine(zP)<|(zP)<|zln<|zh<|htn<|hsq<|hsq<|hrz ?_
     refine(zP)<|(zV (xfb 1 fd_32_1))<|(zV (xlb 1 pl_22 hS))<|(zP)<|(zV (xix (kk:=i) Zb h.D.slh))<|zlv (xlr (u:= .int .i64 (p.D i)) pl_3 (h.D.below hS.below)) ?_
     have hbv:=h.iD i
     refine(zP)<|zln<|zh<|htn ?_
     refine Y0 ?_ ?_<;>intro hc
     ·
      refine hrz ?_
      refine(zP)<|(zV (xls 1 st_32 hS))<|(zP)<|zlc (xc0 XM) (XN (p:=p) (i:=i) w (h.below hS.below) hp (by omega) (by omega)) ?_;rintro _ w ⟨rfl,hS'⟩
      replace hS:=hS.cmp hS';clear hS'
      refine(zV (U5 (r:=(min need (p.L i+p.kerf)))))<|(zP)<|zln<|zh<|htn<|hsq<|hrz ?_
      refine(zV (xlb 6 pl_22 hS))<|(zP)<|(zP)<|(zV (xix (kk:=i) Zb hva))<|zle (xso 7 pl_3 hS (Xv a i z k)) ?_;clear hS;rintro w hS
      refine zln<|zh<|htn<|hsq ?_
      refine hdst [1,2,3,4,6,8,9,5] [1,2,3,4,6,8,9,5] 1000 mx_ hS ?_;clear hS;intro w hS
      refine(zDl 0 (fun w hS=>(xlb 6 Uj hS)))<|(zDw 1 xmv)<|(zDw 2 (Zh (r:=i+1)))<|(zDw 3 xmv)<|(zDw 4 xmv)<|zdla 5 (fun w hS=>(xls 0 st_32 hS)) ?_
      have hmm:=XG hp h0 (by omega) hx.l0 (k:=k) (by omega) (by omega)
      refine(zDw 6 xmv)<|(zDw 10 xmv)<|zdc 7 (xc0 XM) (XN (p:=p) (i:=i) w (h.below hS.below) hp (by omega) (by omega)) ?_;rintro _ w ⟨rfl,hS'⟩
      replace hS:=hS.cmp hS';clear hS'
      refine⟨⟨fun _=>hS.pk [1,2,3,4,6,8,9,5],hS.pk [1,2,3,4,6,8,9,5]⟩,?_⟩
      refine(zDw 8 (Z2 (r:=(k*(p.L i+p.kerf))) (e:=rfl)))<|(zDw 9 (Zq (r:=l-(k*(p.L i+p.kerf)))))<|zdc 11 (xcc (vs:= [_,_,_]) TM) (ih (s:=s2) (i:=i+1) (a:=upd a i k) (l:=l-k*(p.L i+p.kerf)) (need:=(min need (p.L i+p.kerf))) (pre:=qd s2) (post:=dn (kid p wi i a l) (least wi i) (k-least wi i).toNat++post) w0 w (Sat.bundle (l1:= [_,_,_,_,_,_,_,_,_,_]) (hS.pk [0,1,2,3,4,5,6,7,8,9,10])) h hva (by omega) (by omega) (hx.step hp h0 (by omega) (by omega) (by omega)) (hn.yes h0 (by omega)) hI2 rfl (by rw [hM2,X2 (k:=k) _ (by omega),List.append_assoc];rfl) hY (by omega)) ?_;rintro _ w ⟨qT,sz1,tz1,zd,rfl,yH,yU,hS⟩
      replace hS:=Sat.unbundle (l1:= [_,_,_,_,_,_,_,_,_,_]) (l3:= []) hS
      refine⟨⟨fun _=>hS.pk [1,2,3,4,6,8,9,5],hS.pk [1,2,3,4,6,8,9,5]⟩,?_⟩
      refine(zDw 12 Yy)<|zdd<|zh<|htn ?_
      refine Y0 ?_ ?_<;>intro hc
      ·
       refine hsq<|hrz ?_
       refine(zP)<|zln<|zh<|htn<|hrt<|zbr<|ztr<|ztr<|zbr<|ztr<|zf1 ⟨_,rfl,?_⟩
       have yr:=Classical.not_not.1 (fun hh9=>hh9 ‹¬qT›)
       exact⟨False,s,tz1,zd,(Zz not_false).symm,fun hq=>hq.elim,fun _=>yU yr,by rw [WD not_false];rw [WD yr] at hS;exact hS.pk [0,1,2,3,4,5,6,7,8,9,10]⟩
      refine hsk<|zbn<|htn<|hrz ?_
      refine zlv xmv ?_
      obtain⟨rfl,xg,zu⟩:=yH (Classical.not_not.1 ‹¬¬qT›)
      rw [Y9 (Classical.not_not.1 ‹¬¬qT›)] at hS
      refine(zV (Zq (r:=k-1)))<|(zP)<|zln<|zh<|hlq ⟨sz1,k,k-1,rfl,(by omega),(by omega),?_,?_,rfl,hS⟩
      ·
       exact xg
      ·
       rw [zu,hM2,X2 (k:=k) _ (by omega),show k-1+1-least wi i=k-least wi i by omega,List.append_assoc,List.append_assoc];rfl
     refine hsk<|htn<|hsq<|hrz ?_
     refine(zV (xlb 6 pl_22 hS))<|(zP)<|(zP)<|(zV (xix (kk:=i) Zb hva))<|zle (xso 7 pl_3 hS (Xv a i z k)) ?_;clear hS;rintro w hS
     refine zln<|zh<|htn<|hsq ?_
     refine hdst [1,2,3,4,6,8,9,5] [1,2,3,4,6,8,9,5] 1000 mx_ hS ?_;clear hS;intro w hS
     refine(zDl 0 (fun w hS=>(xlb 6 Uj hS)))<|(zDw 1 xmv)<|(zDw 2 (Zh (r:=i+1)))<|(zDw 3 xmv)<|(zDw 4 xmv)<|zdla 5 (fun w hS=>(xls 0 st_32 hS)) ?_
     have hmm:=XG hp h0 (by omega) hx.l0 (k:=k) (by omega) (by omega)
     refine(zDw 6 xmv)<|(zDw 10 xmv)<|zdc 7 (xc0 XM) (XN (p:=p) (i:=i) w (h.below hS.below) hp (by omega) (by omega)) ?_;rintro _ w ⟨rfl,hS'⟩
     replace hS:=hS.cmp hS';clear hS'
     refine⟨⟨fun _=>hS.pk [1,2,3,4,6,8,9,5],hS.pk [1,2,3,4,6,8,9,5]⟩,?_⟩
     refine(zDw 8 (Z2 (r:=(k*(p.L i+p.kerf))) (e:=rfl)))<|(zDw 9 (Zq (r:=l-(k*(p.L i+p.kerf)))))<|zdc 11 (xcc (vs:= [_,_,_]) TM) (ih (s:=s2) (i:=i+1) (a:=upd a i k) (l:=l-k*(p.L i+p.kerf)) (need:=need) (pre:=qd s2) (post:=dn (kid p wi i a l) (least wi i) (k-least wi i).toNat++post) w0 w (Sat.bundle (l1:= [_,_,_,_,_,_,_,_,_,_]) (hS.pk [0,1,2,3,4,5,6,7,8,9,10])) h hva (by omega) (by omega) (hx.step hp h0 (by omega) (by omega) (by omega)) (hn.no h0 (by omega)) hI2 rfl (by rw [hM2,X2 (k:=k) _ (by omega),List.append_assoc];rfl) hY (by omega)) ?_;rintro _ w ⟨qT,sz1,tz1,zd,rfl,yH,yU,hS⟩
     replace hS:=Sat.unbundle (l1:= [_,_,_,_,_,_,_,_,_,_]) (l3:= []) hS
     refine⟨⟨fun _=>hS.pk [1,2,3,4,6,8,9,5],hS.pk [1,2,3,4,6,8,9,5]⟩,?_⟩
     refine(zDw 12 Yy)<|zdd<|zh<|htn ?_
     refine Y0 ?_ ?_<;>intro hc
     ·
      refine hsq<|hrz ?_
      refine(zP)<|zln<|zh<|htn<|hrt<|zbr<|ztr<|ztr<|zbr<|ztr<|zf1 ⟨_,rfl,?_⟩
      have yr:=Classical.not_not.1 (fun hh9=>hh9 ‹¬qT›)
      exact⟨False,s,tz1,zd,(Zz not_false).symm,fun hq=>hq.elim,fun _=>yU yr,by rw [WD not_false];rw [WD yr] at hS;exact hS.pk [0,1,2,3,4,5,6,7,8,9,10]⟩
     refine hsk<|zbn<|htn<|hrz ?_
     refine zlv xmv ?_
     obtain⟨rfl,xg,zu⟩:=yH (Classical.not_not.1 ‹¬¬qT›)
     rw [Y9 (Classical.not_not.1 ‹¬¬qT›)] at hS
     refine(zV (Zq (r:=k-1)))<|(zP)<|zln<|zh<|hlq ⟨sz1,k,k-1,rfl,(by omega),(by omega),?_,?_,rfl,hS⟩
     ·
      exact xg
     ·
      rw [zu,hM2,X2 (k:=k) _ (by omega),show k-1+1-least wi i=k-least wi i by omega,List.append_assoc,List.append_assoc];rfl
    refine hxt<|ztx<|ztx<|zbh<|htn<|hsq<|hrz ?_
    refine(zV (xlb 6 pl_22 hS))<|(zP)<|(zV (xix (kk:=i) Zb hva))<|zle (xso 7 pl_3 hS (Xv a i z 0)) ?_;clear hS;rintro w hS
    refine zln<|zh<|htn<|hsq<|hrz ?_
    refine(zP)<|zln<|zh<|htn<|hrt<|zf1 ⟨_,rfl,?_⟩
    rw [VC (show a i=0 from hx.zero i (by omega))] at hS
    have hk9:k+1-least wi i=0:=by omega
    rw [show(k+1-least wi i).toNat=0 by omega] at hM2
    exact⟨True,s2,t0,a,(ZK trivial).symm,fun _=>⟨rfl,hI2,List.append_cancel_right (by rw [<-hM2,hM,List.append_assoc];rfl)⟩,fun hq=>absurd trivial hq,by rw [Y9 trivial];exact hS.pk [0,1,2,3,4,5,6,7,8,9,10]⟩
end Go.Proofs.YtkichmnjjblodaaGreat
namespace Go.Proofs.YtkichmnjjblodaaGreat
open Go Go.RowKit Go.Proofs.Gw
theorem Zj0:ZW Tryz.prog 209=some (.nilFunc,1,8):=by kernel_rfl
theorem ZlL{vL vD:Value}{p:Prob}{wi:Int}{St Tt:Type}(qd:St->List (Int->Int))(Inv:St->Prop)(Stp:Tt->Prop)(t0:Tt)(s0:St)(hs0:qd s0= [])(hI0:Inv s0){g2 g3 g5 g6:Nat}{vl:Value}(w0:World)(hvl:Slh vl (p.m+1))(hp:p.Ok)(h:PAt w0 vL vD p):ItG (St:=St) (X:=BX) (Tt:=Tt) Tryz.prog w0 149 [.pointer (some ⟨g5,0,none⟩),.pointer (some ⟨g6,0,none⟩),.pointer (some ⟨g3,0,none⟩),.pointer (some ⟨g2,0,none⟩)] [.blk g2 [vL,vD,.int .i64 p.stock,.int .i64 p.kerf],.blk g3 [.int .i64 wi],.blk g5 [.int .i64 p.m],.blk g6 [vl],.own vl 1 3 (p.m+1) (ints (Xu p))] (fun x=> [x.v]) (fun x=> [.own x.v 1 3 x.n (ints x.f)]) (fun(s:St) (x:BX) (rest:Gw.Frame)=>Inv s/\Slh x.v x.n/\x.n=p.m/\∃r,MX p wi=qd s++x.f::r) (fun(s:St) (x:BX) (s1:St)=>qd s1=qd s++ [x.f]/\Inv s1) (fun _ _ t=>Stp t) (s0) (fun s rest=>Inv s/\qd s=MX p wi) (fun t _=>Stp t):=by
  intro l C D w hS hY
  have hm:=h.L.slh.n0;have hm1:=h.L.slh.n1;have hdn:=h.D.slh.n0;have fN:=h.D.slh.n1;have hs:=h.is;have hk:=h.ik
  have hpm:=hp.m1;have qI:=hp.m2;have hpd:=hp.d;have hs1:=hp.s1;have hs2:=hp.s2;have hk1:=hp.k1;have hk2:=hp.k2
  refine ZeX Tryz.func149 Tryz.ntmps149 ?_
  refine hsq<|hrz ?_
  refine zla (xbx (cs:= [_]) hS) ?_;rintro _ w ⟨g7,rfl,hS⟩
  replace hS:=hS.n7
  refine zln<|zh<|htn<|hsq<|hrz ?_
  refine zlv (xlb 3 pl_3 hS) ?_
  refine zla (xmk Zb Zt hS) ?_;rintro v1 w ⟨hS,hv1⟩
  replace hS:=hS.n8
  refine zla (xal (cs:= [_]) Ya hS) ?_;rintro _ w ⟨g8,rfl,hS⟩
  replace hS:=hS.n9
  refine zle (xsb 8 pl_22 hS (hv:=hv1.one)) ?_;clear hS;rintro w hS
  replace hS:=hS.n9
  refine zln<|zh<|htn<|hsq<|hrz ?_
  refine zla (xal (cs:= [_]) Zj0 hS) ?_;rintro _ w ⟨g9,rfl,hS⟩
  replace hS:=hS.n10
  refine zln<|zh<|htn<|hsq<|hrz ?_
  refine zlv xmf ?_
  refine zle (xsb 9 Uj hS) ?_;clear hS;rintro w hS
  replace hS:=hS.n10
  refine zln<|zh<|htn<|hrz ?_
  refine zlv (xlb 9 Uj hS) ?_
  refine zlv (xfb 2 fd_32_2) ?_
  refine zlv (xlb 1 pl_3 hS) ?_
  refine zlv (xfb 3 fd_32_3) ?_
  refine zlv (xlb 1 pl_3 hS) ?_
  refine zlv (Zh (r:=p.stock+p.kerf)) ?_
  refine zlv (xfb 2 fd_32_2) ?_
  refine zlv (xlb 1 pl_3 hS) ?_
  refine zlv (xfb 3 fd_32_3) ?_
  refine zlv (xlb 1 pl_3 hS) ?_
  refine zlv (Zh (r:=p.stock+p.kerf)) ?_
  refine zlv (Zh (r:=p.stock+p.kerf+1)) ?_
  refine zlc (xcc (vs:= [_,_,_]) TM) (Zh3 hp qd Inv Stp t0 hvl _ (s:=s0) (i:=0) (a:=fun _=>0) (l:=p.stock+p.kerf) (need:=p.stock+p.kerf+1) (pre:= []) (post:= []) w0 w (Sat.bundle (l1:= [_,_,_,_,_,_,_,_,_,_]) (l2:= []) (hS.pk [0,1,2,3,4,5,8,7,6,9])) h hv1 (by omega) (by omega) (Pfx.start hp) (NeedP.start p) hI0 hs0 (by rw [List.nil_append,List.append_nil];rfl) hY (Nat.lt_succ_self _)) ?_;rintro _ w ⟨qT,sz1,tz1,zd,rfl,yH,yU,hS⟩
  replace hS:=Sat.unbundle (l1:= [_,_,_,_,_,_,_,_,_,_]) (l3:= []) hS
  replace hS:=hS.n10
  refine zln<|zh<|XA ⟨_,rfl,?_⟩
  by_cases hok:qT
  · obtain⟨_,hi,hh⟩:=yH hok
    rw [Y9 hok] at hS
    exact .inl ⟨sz1,_,⟨hi,by rw [hh,List.nil_append];rfl⟩,Sat.bundle (l1:= [_,_,_,_,_,_]) hS⟩
  · rw [WD hok] at hS
    exact .inr ⟨tz1,_,yU hok,Sat.bundle (l1:= [_,_,_,_,_,_]) hS⟩
end Go.Proofs.YtkichmnjjblodaaGreat
namespace Go.Proofs.YtkichmnjjblodaaGreat
open Go Go.RowKit Go.Proofs.Gw
theorem Zlr:Zc Tryz.prog 114=true:=by kernel_rfl
theorem Zk8:Zc Tryz.prog 149=true:=by kernel_rfl
theorem ZmD:ZW Tryz.prog 49=some (.int .i64 0,1,8):=by kernel_rfl
structure WSt where
  v:Value
  n:Int
  vv:Int->Value
  f:Int->Int->Int
  l:List (Int->Int)
def ZnS(p:Prob)(s:WSt):Prop:=Slh s.v s.n/\Ls p.m s.n s.f s.l/\s.n<=300
def Zmg(p:Prob)(wi u:Int)(f:Int->Int->Int)(e:Int):Prop:=(300<(MX p wi).length/\e=9/\u=0)\/((MX p wi).length<=300/\e=0/\Ls p.m u f (MX p wi))
theorem Zgj{vL vD:Value}{p:Prob}{wi:Int}(w0:World)(h:PAt w0 vL vD p)(hp:p.Ok):
    Calls Tryz.prog 77 [.agg #[vL,vD,.int .i64 p.stock,.int .i64 p.kerf],.int .i64 wi].toArray w0 fun e w=>∃v,e= .returned v/\∃r u vv f e,v= .tuple #[r,.int .i64 e]/\Zmg p wi u f e/\Slh r u/\Sat w0 w [.own r 1 22 u vv,.sem (Frame.rows 3 u vv (fun _=>p.m) f)]:=by
  have hm:=h.L.slh.n0;have hm1:=h.L.slh.n1;have hd:=h.D.slh.n0;have hd1:=h.D.slh.n1;have hs:=h.is;have hk:=h.ik
  have hpm:=hp.m1;have qI:=hp.m2;have hpd:=hp.d;have hs1:=hp.s1;have hs2:=hp.s2;have hk1:=hp.k1;have hk2:=hp.k2
  refine ZhA Tryz.func77 Tryz.ntmps77 fun w hS=> ?_
  refine hsq<|hrz ?_
  refine zla (xbx (cs:= [_,_,_,_]) hS) ?_;rintro _ w ⟨g1,rfl,hS⟩
  refine zla (xal (cs:= [_]) Zfl hS) ?_;rintro _ w ⟨g2,rfl,hS⟩
  refine zla (xal (cs:= [_]) ZmD hS) ?_;rintro _ w ⟨g3,rfl,hS⟩
  refine zln<|zh<|htn<|hsq<|hrz ?_
  refine zla (xal (cs:= [_]) Zfl hS) ?_;rintro _ w ⟨g4,rfl,hS⟩
  refine zln<|zh<|htn<|hsq<|hsq<|hrz ?_
  refine(zV (xls 0 st_32 hS))<|(zP)<|zlc (xc0 Zlr) (Zd7 (p:=p) (wi:=wi) w (h.below hS.below) hp) ?_;rintro _ w ⟨g5,g6,g7,g8,vl1,rfl,fe,hS'⟩
  replace hS:=(hS.comp hS').n9;clear hS'
  refine zln<|zh<|htn<|hbk ?_
  replace hS:=hS.addnil 1 22 (fun _=>Value.slice none 0 0)
  replace hS:=hS.addrows 3 (fun _=>Value.slice none 0 0) (fun _=>p.m) (fun _ _=>0)
  refine Zmt (St:=WSt) (X:=BX) (Tt:=Unit) (fun s=> [.blk g1 [vL,vD,.int .i64 p.stock,.int .i64 p.kerf],.blk g2 [.slice none 0 0],.blk g3 [.int .i64 0],.blk g4 [s.v],.own s.v 1 22 s.n s.vv,.sem (Frame.rows 3 s.n s.vv (fun _=>p.m) s.f)]) (fun t=> [.blk g2 [.slice none 0 0],.blk g3 [.int .i64 9]]) (fun _=> .ret) (⟨.slice none 0 0,0,fun _=> .slice none 0 0,fun _ _=>0, []⟩:WSt) (fun x M es=>M= [(0,.agg #[vL,vD,.int .i64 p.stock,.int .i64 p.kerf]),(1,.int .i64 wi),(2,.pointer (some ⟨g1,0,none⟩)),(4,.pointer (some ⟨g2,0,none⟩)),(5,.pointer (some ⟨g3,0,none⟩)),(6,.pointer (some ⟨g4,0,none⟩)),(8,.agg #[vL,vD,.int .i64 p.stock,.int .i64 p.kerf]),(9,.int .i64 wi),(10,.func (.func 149) #[] #[.pointer (some ⟨g7,0,none⟩),.pointer (some ⟨g8,0,none⟩),.pointer (some ⟨g6,0,none⟩),.pointer (some ⟨g5,0,none⟩)]),(11,x.v),(7,x.v)]/\es= [.own x.v 1 3 x.n (ints x.f)]) (ZlL (wi:=wi) (fun s=>s.l) (ZnS p) (fun(_:Unit)=>300<(MX p wi).length) () (⟨.slice none 0 0,0,fun _=> .slice none 0 0,fun _ _=>0, []⟩:WSt) rfl ⟨slh_nil,Ls.nil,by show(0:Int)<=300;omega⟩ w0 fe hp h) (hS.pk [0,1,2,3,9,10,4,5,6,7,8]) Zk8 (fun _=>rfl) (fun _=> .inl rfl) ?_ ?_ ?_ ?_
  ·
   intro lq s x rest w qr qJ hrr hS
   refine hrz ?_
   refine(zP)<|zln<|zh<|ZeY ⟨rfl,rfl⟩ hS
  ·
   rintro lq s x _ _ rest w qr ⟨rfl,rfl⟩ qJ hrr hS
   obtain⟨⟨hlO,hls,hn3⟩,hxv,hxn,r9,hM9⟩:=qr
   have hrO:=fun k (k0:0<=k) (k1:k<s.n)=>hS.slhIn 5 rfl k0 k1
   have hsn:=hlO.n0
   have xD:=hls.1
   refine hbk<|hsq<|hsq<|hrz ?_
   refine(zV (xlb 3 ZQ hS))<|(zV (xln Zm hlO))<|(zP)<|zln<|zh<|htn ?_
   refine Y0 ?_ ?_<;>intro hc
   ·
    refine hsq<|hrz ?_
    refine zle (xsb 1 ZQ hS) ?_;clear hS;rintro w hS
    refine zle (xsb 2 pl_49 hS) ?_;clear hS;rintro w hS
    refine zln<|zh<|htn<|hrt<|ztr<|zbr<|ZeW () (by show 300<(MX p wi).length;rw [hM9,List.length_append,List.length_cons];omega) rfl (hS.pk [1,2,6,7,8,9,10,11])
   refine hsk<|htn<|hrz ?_
   refine(zV (xlb 3 ZQ hS))<|(zP)<|zla (xli (n:=1) (len:=1) (pv:= [(0,x.v)]) (cs:= [x.v]) (c:=(fun _=>x.v)) Zm Ya hS (hf:=by have hz:=hxv;revert hz;generalize x.v=z;rintro⟨_,_,_,_,rfl,_⟩;show _=_;kernel_rfl)) ?_;rintro v1 w ⟨hS,hv1⟩
   refine zla (xap 4 (r:=s.n+1) Zm Ya hS (hS.rowN 13 rfl) (Xs _ _ _) (h1:=fun _ _ _=>hxv.one)) ?_;rintro v2 w ⟨hS,hv2⟩
   replace hS:=Sat.merge (l1:= [_,_,_,_,_]) (l2:= [_,_,_,_,_,_]) (l3:= [_]) hS (by omega)
   have qY:=fun k (k0:0<=k) (k1:k<s.n+1)=>hS.slhIn 5 rfl k0 k1
   refine zle (xsb 3 ZQ hS (hv:=hv2.one)) ?_;clear hS;rintro w hS
   refine zln<|zh<|zbn ?_
   replace hS:=hS.rerows (vv':=(gsn s.vv s.n x.v)) (ln':=fun _=>p.m) (f':=(gsn s.f s.n x.f)) 5 rfl (fun k k0 k1=>⟨rfl,by unfold gsn;split<;>(try dsimp only)<;>omega,fun _ _ _=>rfl⟩)
   refine ZbU ⟨v2,s.n+1,gsn s.vv s.n x.v,gsn s.f s.n x.f,s.l++ [x.f]⟩ ⟨rfl,hv2,hls.snoc fun _ _ _=>rfl,by show s.n+1<=300;omega⟩ (hS.pk [0,1,2,3,4,5,6,7,8,9,10,11])
  ·
   intro Dk s rest w qA hS
   obtain⟨⟨hlO,hls,hn3⟩,hh9⟩:=qA
   have hrO:=fun k (k0:0<=k) (k1:k<s.n)=>hS.slhIn 5 rfl k0 k1
   have hsn:=hlO.n0
   have xD:=hls.1
   refine zbn<|htn<|hsq<|hrz ?_
   refine(zV (xlb 3 ZQ hS))<|zle (xsb 1 ZQ hS (hv:=hlO.one)) ?_;clear hS;rintro w hS
   refine zle (xsb 2 pl_49 hS) ?_;clear hS;rintro w hS
   refine zln<|zh<|htn<|hrt<|ZbV 12 hS fun w hS=>Zmj ZQ pl_49 (hS.cellN 1 rfl rfl) (hS.cellN 2 rfl rfl) ⟨_,rfl,?_⟩
   exact⟨_,_,_,_,0,rfl,.inr ⟨by rw [<-hh9];omega,rfl,by rw [<-hh9];exact hls⟩,hlO,hS.pk [4,5]⟩
  ·
   intro Dk t rest w qA hS
   show Ge _ _ _ .ret _ _
   refine zbr<|ztr<|ZbV 8 hS fun w hS=>Zmj ZQ pl_49 (hS.cellN 0 rfl rfl) (hS.cellN 1 rfl rfl) ⟨_,rfl,?_⟩
   exact⟨_,0,_,_,_,rfl,.inl ⟨qA,rfl,rfl⟩,slh_nil,((hS.sub (.cons _ (.cons _ (.cons _ (.cons _ (.cons _ (.cons _ (.cons _ (.cons _ (.cons _ .slnil)))))))))).addnil 1 22 (fun _=>Value.slice none 0 0)).addrows 3 (fun _=>Value.slice none 0 0) (fun _=>p.m) (fun _ _=>0)⟩
end Go.Proofs.YtkichmnjjblodaaGreat
namespace Go.Proofs.YtkichmnjjblodaaGreat
open Go Go.RowKit Go.Proofs.Gw
theorem ZmQ:Zc Tryz.prog 77=true:=by kernel_rfl
theorem Zif{vL vD:Value}{p:Prob}{wi:Int}(w0:World)(h:PAt w0 vL vD p):
    Calls Tryz.prog 44 [.agg #[vL,vD,.int .i64 p.stock,.int .i64 p.kerf],.int .i64 wi].toArray w0 fun e w=>∃v,e= .returned v/\∃r u vv f e,v= .tuple #[r,.int .i64 e]/\Zjf p wi u f e/\Slh r u/\Sat w0 w [.own r 1 22 u vv,.sem (Frame.rows 3 u vv (fun _=>p.m) f)]:=by
  have hm:=h.L.slh.n0;have hm1:=h.L.slh.n1;have hd:=h.D.slh.n0;have hd1:=h.D.slh.n1;have hs:=h.is;have hk:=h.ik
  refine zenG Tryz.func44 Tryz.ntmps44 fun w hS=> ?_
  refine zsr<|zla (xbx (cs:= [_,_,_,_]) hS) ?_;rintro _ w ⟨g1,rfl,hS⟩
  refine(zP)<|(zP)<|zlt<|zsq<|zbk<|zsr<|(zV (xls 0 st_32 hS))<|zlc (xc0 XL) (Yb (p:=p) w (h.below hS.below)) ?_;rintro _ w ⟨rfl,hS'⟩
  replace hS:=hS.cmp hS';clear hS'
  refine(zP)<|(zP)<|zlt<|Zf ?_ ?_<;>intro hc
  ·
   refine zsr<|(zP)<|(zP)<|Xz<|zf2 ⟨_,rfl,?_⟩
   exact⟨_,0,_,_,_,rfl,.inl ⟨‹¬p.Ok›,rfl,rfl⟩,slh_nil,((hS.sub (.cons _ .slnil)).addnil 1 22 (fun _=>Value.slice none 0 0)).addrows 3 (fun _=>Value.slice none 0 0) (fun _=>p.m) (fun _ _=>0)⟩
  refine zsr<|zs2 ?_
  have hp:p.Ok:=by first|assumption|exact Classical.not_not.1 ‹_›
  have hpm:=hp.m1;have qI:=hp.m2;have hpd:=hp.d;have hs1:=hp.s1;have hs2:=hp.s2;have hk1:=hp.k1;have hk2:=hp.k2
  refine(zP)<|zlb 13 ?_ ?_<;>intro hc
  ·
   iterate 5 refine zlo ?_
   refine(zP)<|(zP)<|zlt<|zct<|zsr ?_
   refine(zP)<|(zP)<|Xz<|zf2 ⟨_,rfl,?_⟩
   exact⟨_,0,_,_,_,rfl,.inr (.inl ⟨hp,by omega,rfl,rfl⟩),slh_nil,((hS.sub (.cons _ .slnil)).addnil 1 22 (fun _=>Value.slice none 0 0)).addrows 3 (fun _=>Value.slice none 0 0) (fun _=>p.m) (fun _ _=>0)⟩
  refine(zP)<|(zV (xfb 0 fd_32_0))<|(zV (xlb 0 pl_22 hS))<|(zV (xln Zb h.L.slh))<|(zP)<|(zP)<|(zP)<|zlt<|Zf ?_ ?_<;>intro hc
  ·
   refine zsr<|(zP)<|(zP)<|Xz<|zf2 ⟨_,rfl,?_⟩
   exact⟨_,0,_,_,_,rfl,.inr (.inl ⟨hp,by omega,rfl,rfl⟩),slh_nil,((hS.sub (.cons _ .slnil)).addnil 1 22 (fun _=>Value.slice none 0 0)).addrows 3 (fun _=>Value.slice none 0 0) (fun _=>p.m) (fun _ _=>0)⟩
  refine zsk<|zbn<|ztn<|zsr<|(zV (xls 0 st_32 hS))<|(zP)<|zlc (xc0 ZmQ) (Zgj (p:=p) (wi:=wi) w (h.below hS.below) hp) ?_;rintro _ w ⟨qS,ux1,qB,fx1,ex1,rfl,x8,qG,hS'⟩
  replace hS:=(hS.comp hS').n3;clear hS'
  have xl:∀k,0<=k->k<ux1->Slh (qB k) p.m:=fun k k0 k1=>hS.slhIn 2 rfl k0 k1
  refine zs4 ?_
  refine zx1<|zf2 ⟨_,rfl,?_⟩
  exact⟨_,_,_,_,_,rfl,(by rcases x8 with⟨h8,h9⟩|⟨h8,h9,h7⟩;exact .inr (.inr (.inl ⟨hp,by omega,h8,h9⟩));exact .inr (.inr (.inr ⟨hp,by omega,h8,h9,h7⟩))),qG,hS.pk [1,2]⟩
end Go.Proofs.YtkichmnjjblodaaGreat
namespace Go.Proofs.Gw
open Go Go.RowKit
variable {i j k:Int}
def pr2{α:Type}(x y:α):Int->α:=fun j=>if j=0 then x else y
def ZE(vv:Int->Value)(s k b:Int):Int->Value:=fun j=>if j%5=0 then vv (2*(j/5)) else if j%5=1 then vv (2*(j/5)+1) else if j%5=2 then .int .i64 s else if j%5=3 then .int .i64 k else .int .i64 b
theorem ZhF(vv:Int->Value)(s k b:Int)(h:j=5*i):ZE vv s k b j=vv (2*i):=by
  unfold ZE;rw [if_pos (by omega),show j/5=i by omega]
theorem ZhE(vv:Int->Value)(s k b:Int)(h:j=5*i+1):ZE vv s k b j=vv (2*i+1):=by
  unfold ZE;rw [if_neg (by omega),if_pos (by omega),show j/5=i by omega]
theorem ZhD(vv:Int->Value)(s k b:Int)(h:j=5*i+2):ZE vv s k b j= .int .i64 s:=by
  unfold ZE;rw [if_neg (by omega),if_neg (by omega),if_pos (by omega)]
theorem ZhC(vv:Int->Value)(s k b:Int)(h:j=5*i+3):ZE vv s k b j= .int .i64 k:=by
  unfold ZE;rw [if_neg (by omega),if_neg (by omega),if_neg (by omega),if_pos (by omega)]
theorem ZhB(vv:Int->Value)(s k b:Int)(h:j=5*i+4):ZE vv s k b j= .int .i64 b:=by
  unfold ZE;rw [if_neg (by omega),if_neg (by omega),if_neg (by omega),if_neg (by omega)]
theorem Up(vv:Int->Value)(s k b:Int){q:Int}(h:q=5*i):∀(j:Nat) u, [vv (2*i),vv (2*i+1),Value.int .i64 s,.int .i64 k,.int .i64 b][j]? =some u->ZE vv s k b (q+j)=u:=fun j u hu=>by
  rcases j with _|_|_|_|_|j
  · cases hu;exact ZhF vv s k b (by omega)
  · cases hu;exact ZhE vv s k b (by omega)
  · cases hu;exact ZhD vv s k b (i:=i) (by omega)
  · cases hu;exact ZhC vv s k b (i:=i) (by omega)
  · cases hu;exact ZhB vv s k b (i:=i) (by omega)
  · simp at hu
theorem TB{vv:Int->Value}{s b:Int}(h:∀i,(vv i).oneCell'=true)(j:Int):(ZE vv s k b j).oneCell'=true:=by
  unfold ZE
  split
  · exact h _
  · split
    · exact h _
    · split
      · rfl
      · split<;>rfl
theorem Zcy{x y:Value}(hx:x.oneCell'=true)(hy:y.oneCell'=true)(i:Int):(pr2 x y i).oneCell'=true:=by
  unfold pr2;split
  · exact hx
  · exact hy
theorem TO(vv:Int->Value)(s k b n:Int)(x y:Value):cat (n*5) (ZE vv s k b) (ZE (pr2 x y) s k b)=ZE (gsn (gsn vv (2*n) x) (2*n+1) y) s k b:=by
  funext j
  unfold cat ZE gsn pr2
  by_cases h:j<n*5
  · simp only [if_pos h]
    have h1:2*(j/5)<2*n:=by omega
    have h2:2*(j/5)+1<2*n:=by omega
    have h3:2*(j/5)<2*n+1:=by omega
    have h4:2*(j/5)+1<2*n+1:=by omega
    simp only [if_pos h1,if_pos h2,if_pos h3,if_pos h4]
  · simp only [if_neg h]
    have e1:(j-n*5)%5=j%5:=by omega
    have e2:(j-n*5)/5=j/5-n:=by omega
    rw [e1,e2]
    have h1:¬2*(j/5)<2*n:=by omega
    have h2:¬2*(j/5)+1<2*n+1:=by omega
    have h3:¬2*(j/5-n)+1=0:=by omega
    simp only [if_neg h1,if_neg h2,if_neg h3]
    by_cases h5:2*(j/5)<2*n+1
    · have h6:2*(j/5-n)=0:=by omega
      simp only [if_pos h5,if_pos h6]
    · have h6:¬2*(j/5-n)=0:=by omega
      simp only [if_neg h5,if_neg h6]
theorem Sat.rowsn{w w0:World}{l:List Ent}{E:TypeId}{n m:Int}{vv:Int->Value}{ln:Int->Int}{f:Int->Int->Int}(i:Nat)(h:Sat w0 w l)(hi:l[i]? =some (.sem (Frame.rows E n vv ln f)))(e:n=m):Sat w0 w (l.set i (.sem (Frame.rows E m vv ln f))):=by
  subst e
  rw [Yz hi,<-ZY hi];exact h
def gfn(p:Prob)(X:List (Int->Int)):Int->Int->Int:=fun k=>if k%2=0 then p.L else fun j=>p.D j-YA X (k/2) j
theorem Zmx(p:Prob)(X:List (Int->Int))(h:k=2*i):gfn p X k=p.L:=by unfold gfn;rw [if_pos (by omega)]
theorem ZjA(p:Prob)(X:List (Int->Int))(h:k=2*i+1):gfn p X k=fun j=>p.D j-YA X i j:=by unfold gfn;rw [if_neg (by omega),show k/2=i by omega]
theorem RF{p:Prob}(hd:p.d=p.m){X:List (Int->Int)}{x:Int->Int}(i0:0<=i)(hx:∀j,0<=j->j<p.m->x j=YA X i j)(vv:Int->Value):∀k,0<=k->k<2*i+2->vv k=vv k/\gsn (gsn (fun _=>p.m) (2*i) p.m) (2*i+1) p.d k=(fun _=>p.m) k/\
    ∀j,0<=j->j<gsn (gsn (fun _=>p.m) (2*i) p.m) (2*i+1) p.d k->gsn (gsn (gfn p X) (2*i) p.L) (2*i+1) (fun j=>p.D j-x j) k j=gfn p X k j:=fun k k0 k1=>by
  refine⟨rfl,by unfold gsn;split<;>(try split)<;>first|rfl|exact hd,fun j j0 j1=> ?_⟩
  have hl:gsn (gsn (fun _=>p.m) (2*i) p.m) (2*i+1) p.d k=p.m:=by unfold gsn;split<;>(try split)<;>first|rfl|exact hd
  rw [hl] at j1
  by_cases e1:k<2*i
  · rw [ZA (by omega),ZA e1]
  · by_cases e2:k<2*i+1
    · rw [ZA e2,ZJ e1,Zmx p X (i:=i) (by omega)]
    · rw [ZJ e2,ZjA p X (i:=i) (by omega)]
      show p.D j-x j=p.D j-YA X i j
      rw [hx j j0 j1]
end Go.Proofs.Gw
namespace Go.Proofs.YtkichmnjjblodaaGreat
open Go Go.RowKit Go.Proofs.Gw
variable {b wi:Int} {vD:Value}
theorem ZfA:Zc Tryz.prog 37=true:=by kernel_rfl
theorem Zc5:Zc Tryz.prog 43=true:=by kernel_rfl
theorem ZmZ:Zc Tryz.prog 48=true:=by kernel_rfl
theorem ZcX:ZW Tryz.prog 34=some (.agg #[.slice none 0 0,.slice none 0 0,.int .i64 0,.int .i64 0,.int .i64 0],5,72):=by kernel_rfl
theorem fd_26_0:Zr Tryz.prog 26 0=some 0:=by kernel_rfl
theorem fd_26_1:Zr Tryz.prog 26 1=some 4:=by kernel_rfl
theorem fd_34_0:Zr Tryz.prog 34 0=some 0:=by kernel_rfl
theorem fd_34_1:Zr Tryz.prog 34 1=some 4:=by kernel_rfl
theorem Th:Zy Tryz.prog 26=some 5:=by kernel_rfl
theorem Yw:Zy Tryz.prog 34=some 5:=by kernel_rfl
def ZG(p:Prob)(b:Int):Prop:=p.Ok/\0<=b/\b<=1000
def ZD(p:Prob)(b wi:Int):Prop:=ZG p b/\1<=b/\(0<=wi/\wi<p.m)/\p.D wi≠0/\(MX p wi).length<=300
noncomputable def Zl(p:Prob)(b wi:Int):Int:= @ite _ (ZD p b wi) (Classical.propDecidable _) ((MX p wi).length:Int) 0
theorem Yi{p:Prob}(h:ZD p b wi):Zl p b wi=(MX p wi).length:=if_pos h
theorem Xg{p:Prob}(h:¬ZD p b wi):Zl p b wi=0:=if_neg h
theorem ZaN{p:Prob}(hp:p.Ok){u:Int}{f:Int->Int->Int}(h:Ls p.m u f (MX p wi)){i:Int}(i0:0<=i)(i1:i<u):∀k,0<=k->k<p.m->0<=f i k/\f i k<=p.D k:=fun k k0 k1=>by
  rw [h.2 i i0 i1 k k0 k1]
  exact(ZgS hp (ZaL i0 (by have:=h.1;omega))).1.rng k k0 k1
def XP(p:Prob)(b n:Int)(l:Int->Int):Prop:=ZG p b/\2<=n/\Chk p (n-1) (fun k=>l (k+1)) (l 0)=0/\b<YX p (n-1) (fun k=>l (k+1)) (l 0)
theorem KY{vL:Value}{p:Prob}(w0:World)(h:PAt w0 vL vD p):
    Calls Tryz.prog 43 [.agg #[vL,vD,.int .i64 p.stock,.int .i64 p.kerf,.int .i64 b]].toArray w0 fun e w=>∃v,e= .returned v/\v=B (ZG p b)/\Sat w0 w []:=by
  have hm:=h.L.slh.n0;have hm1:=h.L.slh.n1;have hd:=h.D.slh.n0;have hd1:=h.D.slh.n1;have hs:=h.is;have hk:=h.ik
  refine zenG Tryz.func43 Tryz.ntmps43 fun w hS=> ?_
  refine zsr<|zla (xbx (cs:= [_,_,_,_,_]) hS) ?_;rintro _ w ⟨g1,rfl,hS⟩
  refine(zP)<|zlz<|(zV (xfb 0 fd_34_0))<|(zV (xlp 0 (ds:= [vL,vD,.int .i64 p.stock,.int .i64 p.kerf]) st_32 hS))<|zlc (xc0 XL) (Yb (p:=p) w (h.below hS.below)) ?_;rintro _ w ⟨rfl,hS'⟩
  replace hS:=hS.cmp hS';clear hS'
  refine(zP)<|zlb 6 ?_ ?_<;>intro hc
  ·
   refine(zV (xfb 4 fd_34_1))<|(zV (xlb 0 pl_3 hS))<|(zP)<|(zP)<|(zP)<|zlb 11 ?_ ?_<;>intro hc
   ·
    refine(zV (xfb 4 fd_34_1))<|(zV (xlb 0 pl_3 hS))<|(zP)<|(zP)<|(zP)<|zx1<|zf1 ⟨_,rfl,?_⟩
    exact⟨Zk ⟨fun hh=>⟨by first|assumption|exact Classical.not_not.1 ‹_›,by omega,hh⟩,fun hh=>hh.2.2⟩,hS.nl⟩
   iterate 3 refine zlo ?_
   refine(zP)<|(zP)<|zx1<|zf1 ⟨_,rfl,?_⟩
   exact⟨Ze (by rintro⟨h1,h2,h3⟩;first|omega|exact absurd h1 ‹¬p.Ok›),hS.nl⟩
  iterate 3 refine zlo ?_
  refine zs2 ?_
  iterate 3 refine zlo ?_
  refine(zP)<|(zP)<|zx1<|zf1 ⟨_,rfl,?_⟩
  exact⟨Ze (by rintro⟨h1,h2,h3⟩;first|omega|exact absurd h1 ‹¬p.Ok›),hS.nl⟩
theorem KV{vL:Value}{p:Prob}(w0:World)(h:PAt w0 vL vD p):
    Calls Tryz.prog 37 [.agg #[vL,vD,.int .i64 p.stock,.int .i64 p.kerf,.int .i64 b]].toArray w0 fun e w=>∃v,e= .returned v/\v=B (ZG p b)/\Sat w0 w []:=by
  have hm:=h.L.slh.n0;have hm1:=h.L.slh.n1;have hd:=h.D.slh.n0;have hd1:=h.D.slh.n1;have hs:=h.is;have hk:=h.ik
  refine zenG Tryz.func37 Tryz.ntmps37 fun w hS=> ?_
  refine zsr<|zla (xbx (cs:= [_,_,_,_,_]) hS) ?_;rintro _ w ⟨g1,rfl,hS⟩
  refine(zP)<|zlz<|(zV (xfb 0 fd_26_0))<|(zV (xlp 0 (ds:= [vL,vD,.int .i64 p.stock,.int .i64 p.kerf]) Z5 hS))<|zlc (xc0 UN) (YE (p:=p) w (h.below hS.below)) ?_;rintro _ w ⟨rfl,hS'⟩
  replace hS:=hS.cmp hS';clear hS'
  refine(zP)<|zlb 6 ?_ ?_<;>intro hc
  ·
   refine(zV (xfb 4 fd_26_1))<|(zV (xlb 0 pl_3 hS))<|(zP)<|(zP)<|(zP)<|zlb 11 ?_ ?_<;>intro hc
   ·
    refine(zV (xfb 4 fd_26_1))<|(zV (xlb 0 pl_3 hS))<|(zP)<|(zP)<|(zP)<|zx1<|zf1 ⟨_,rfl,?_⟩
    exact⟨Zk ⟨fun hh=>⟨by first|assumption|exact Classical.not_not.1 ‹_›,by omega,hh⟩,fun hh=>hh.2.2⟩,hS.nl⟩
   iterate 3 refine zlo ?_
   refine(zP)<|(zP)<|zx1<|zf1 ⟨_,rfl,?_⟩
   exact⟨Ze (by rintro⟨h1,h2,h3⟩;first|omega|exact absurd h1 ‹¬p.Ok›),hS.nl⟩
  iterate 3 refine zlo ?_
  refine zs2 ?_
  iterate 3 refine zlo ?_
  refine(zP)<|(zP)<|zx1<|zf1 ⟨_,rfl,?_⟩
  exact⟨Ze (by rintro⟨h1,h2,h3⟩;first|omega|exact absurd h1 ‹¬p.Ok›),hS.nl⟩
theorem Zgq{vL:Value}{p:Prob}{vl:Value}{nl:Int}{l:Int->Int}(w0:World)(h:PAt w0 vL vD p)(hl:IAt w0 vl nl l)(hrm:Gw.XO vl):
    Calls Tryz.prog 16 [.agg #[vL,vD,.int .i64 p.stock,.int .i64 p.kerf,.int .i64 b],vl].toArray w0 fun e w=>∃v,e= .returned v/\v=B (XP p b nl l)/\Sat w0 w []:=by
  have hm:=h.L.slh.n0;have hm1:=h.L.slh.n1;have hd:=h.D.slh.n0;have hd1:=h.D.slh.n1;have hs:=h.is;have hk:=h.ik
  have hl0:=hl.n0;have hl1:=hl.n1;have hrm:=hrm
  refine zenG Tryz.func16 Tryz.ntmps16 fun w hS=> ?_
  refine zsr<|zla (xbx (cs:= [_,_,_,_,_]) hS) ?_;rintro _ w ⟨g1,rfl,hS⟩
  refine(zP)<|zx5<|(zV (xls 0 Yw hS))<|zlc (xc0 Zc5) (KY (p:=p) (b:=b) w (h.below hS.below)) ?_;rintro _ w ⟨rfl,hS'⟩
  replace hS:=hS.cmp hS';clear hS'
  refine(zP)<|(zP)<|zlb 10 ?_ ?_<;>intro hc
  ·
   iterate 3 refine zlo ?_
   refine(zP)<|zlt<|zct<|zsr ?_
   refine(zP)<|zx14<|zf1 ⟨_,rfl,?_⟩
   exact⟨Ze (by rintro⟨h1,h2,h3,h4⟩;first|omega|exact absurd h1 ‹¬ZG p b›),hS.nl⟩
  refine(zP)<|(zV (xln Zb hl.row.slh))<|(zP)<|(zP)<|zlt<|Zf ?_ ?_<;>intro hc
  ·
   refine zsr<|(zP)<|zx14<|zf1 ⟨_,rfl,?_⟩
   exact⟨Ze (by rintro⟨h1,h2,h3,h4⟩;first|omega|exact absurd h1 ‹¬ZG p b›),hS.nl⟩
  refine zsk<|ztn<|zsq<|zdst [0] [0] 1000 mx_ hS ?_;clear hS;intro w hS
  refine(zDw 0 (xfb 0 fd_34_0))<|(zDl 1 (fun w hS=>(xlp 0 (ds:= [vL,vD,.int .i64 p.stock,.int .i64 p.kerf]) st_32 hS)))<|(zDw 2 xmv)<|ZgX 3 rfl rfl rfl rfl (by kernel_rfl) rfl (fun w=>(YC (q:=1) rfl Zb rfl rfl rfl hl.row.slh rfl (by omega) (by omega))) ?_
  refine(zDw 4 xmv)<|(zDw 5 (xix (kk:=0) Zb hl.row.slh))<|zdla 6 (fun w hS=>(xlr (u:= .int .i64 (l 0)) pl_3 (hl.row.below hS.below))) ?_
  have hbv:=hl.i 0
  refine zDrv 7 (xany (v:= .agg #[(Xd vl 1),.int .i64 (l 0)]) (hr:=by have hz:=(YK (q:=1) hl.row.slh hrm (by omega)).slh;revert hz;generalize (Xd vl 1)=z;rintro⟨_,_,_,_,rfl,_⟩;show _=_;kernel_rfl)) ?_
  refine zdc 8 (xc0 Zi7) (Zdf (p:=p) w (h.below hS.below) (show Row _ _ 1 (nl-1) (ints (fun z9=>l (z9+1))) from Suf.row (c:=ints l) (YK (q:=1) hl.row.slh hrm (by omega)) (by omega) (hl.row.below hS.below)) (by omega)) ?_;rintro _ w ⟨rfl,hS'⟩
  replace hS:=hS.cmp hS';clear hS'
  refine⟨⟨fun _=>hS,hS⟩,?_⟩
  refine(zDw 9 xmv)<|(zDw 10 xex)<|(zDw 11 xex)<|(zDw 12 xas)<|(zDw 13 xas)<|zdd<|ztn<|zsr ?_
  refine(zP)<|(zP)<|(zP)<|zlb 29 ?_ ?_<;>intro hc
  ·
   refine(zP)<|(zV (xfb 4 fd_34_1))<|(zV (xlb 0 pl_3 hS))<|(zP)<|(zP)<|(zP)<|zx1<|zf1 ⟨_,rfl,?_⟩
   exact⟨Zk ⟨fun hh=>⟨Classical.not_not.1 ‹_›,by omega,by omega,hh⟩,fun hh=>hh.2.2.2⟩,hS.nl⟩
  iterate 4 refine zlo ?_
  refine(zP)<|(zP)<|zx1<|zf1 ⟨_,rfl,?_⟩
  exact⟨Ze (by rintro⟨h1,h2,h3,h4⟩;first|omega|exact absurd h1 ‹¬ZG p b›),hS.nl⟩
theorem Zid{vL:Value}{p:Prob}{vl:Value}{nl:Int}{l:Int->Int}(w0:World)(h:PAt w0 vL vD p)(hl:IAt w0 vl nl l)(hrm:Gw.XO vl):
    Calls Tryz.prog 17 [.agg #[vL,vD,.int .i64 p.stock,.int .i64 p.kerf,.int .i64 b],vl].toArray w0 fun e w=>∃v,e= .returned v/\v=B (XP p b nl l)/\Sat w0 w []:=by
  have hm:=h.L.slh.n0;have hm1:=h.L.slh.n1;have hd:=h.D.slh.n0;have hd1:=h.D.slh.n1;have hs:=h.is;have hk:=h.ik
  have hl0:=hl.n0;have hl1:=hl.n1;have hrm:=hrm
  refine zenG Tryz.func17 Tryz.ntmps17 fun w hS=> ?_
  refine zsr<|zla (xbx (cs:= [_,_,_,_,_]) hS) ?_;rintro _ w ⟨g1,rfl,hS⟩
  refine(zP)<|zx5<|(zV (xls 0 Th hS))<|zlc (xc0 ZfA) (KV (p:=p) (b:=b) w (h.below hS.below)) ?_;rintro _ w ⟨rfl,hS'⟩
  replace hS:=hS.cmp hS';clear hS'
  refine(zP)<|(zP)<|zlb 10 ?_ ?_<;>intro hc
  ·
   iterate 3 refine zlo ?_
   refine(zP)<|zlt<|zct<|zsr ?_
   refine(zP)<|zx14<|zf1 ⟨_,rfl,?_⟩
   exact⟨Ze (by rintro⟨h1,h2,h3,h4⟩;first|omega|exact absurd h1 ‹¬ZG p b›),hS.nl⟩
  refine(zP)<|(zV (xln Zb hl.row.slh))<|(zP)<|(zP)<|zlt<|Zf ?_ ?_<;>intro hc
  ·
   refine zsr<|(zP)<|zx14<|zf1 ⟨_,rfl,?_⟩
   exact⟨Ze (by rintro⟨h1,h2,h3,h4⟩;first|omega|exact absurd h1 ‹¬ZG p b›),hS.nl⟩
  refine zsk<|ztn<|zsq<|zdst [0] [0] 1000 mx_ hS ?_;clear hS;intro w hS
  refine(zDw 0 (xfb 0 fd_26_0))<|(zDl 1 (fun w hS=>(xlp 0 (ds:= [vL,vD,.int .i64 p.stock,.int .i64 p.kerf]) Z5 hS)))<|(zDw 2 xmv)<|ZgX 3 rfl rfl rfl rfl (by kernel_rfl) rfl (fun w=>(YC (q:=1) rfl Zb rfl rfl rfl hl.row.slh rfl (by omega) (by omega))) ?_
  refine(zDw 4 xmv)<|(zDw 5 (xix (kk:=0) Zb hl.row.slh))<|zdla 6 (fun w hS=>(xlr (u:= .int .i64 (l 0)) pl_3 (hl.row.below hS.below))) ?_
  have hbv:=hl.i 0
  refine zDrv 7 (xany (v:= .agg #[(Xd vl 1),.int .i64 (l 0)]) (hr:=by have hz:=(YK (q:=1) hl.row.slh hrm (by omega)).slh;revert hz;generalize (Xd vl 1)=z;rintro⟨_,_,_,_,rfl,_⟩;show _=_;kernel_rfl)) ?_
  refine zdc 8 (xc0 ZmZ) (Zge (p:=p) w (h.below hS.below) (show Row _ _ 1 (nl-1) (ints (fun z9=>l (z9+1))) from Suf.row (c:=ints l) (YK (q:=1) hl.row.slh hrm (by omega)) (by omega) (hl.row.below hS.below)) (by omega)) ?_;rintro _ w ⟨rfl,hS'⟩
  replace hS:=hS.cmp hS';clear hS'
  refine⟨⟨fun _=>hS,hS⟩,?_⟩
  refine(zDw 9 xmv)<|(zDw 10 xex)<|(zDw 11 xex)<|(zDw 12 xas)<|(zDw 13 xas)<|zdd<|ztn<|zsr ?_
  refine(zP)<|(zP)<|(zP)<|zlb 29 ?_ ?_<;>intro hc
  ·
   refine(zP)<|(zV (xfb 4 fd_26_1))<|(zV (xlb 0 pl_3 hS))<|(zP)<|(zP)<|(zP)<|zx1<|zf1 ⟨_,rfl,?_⟩
   exact⟨Zk ⟨fun hh=>⟨Classical.not_not.1 ‹_›,by omega,by omega,hh⟩,fun hh=>hh.2.2.2⟩,hS.nl⟩
  iterate 4 refine zlo ?_
  refine(zP)<|(zP)<|zx1<|zf1 ⟨_,rfl,?_⟩
  exact⟨Ze (by rintro⟨h1,h2,h3,h4⟩;first|omega|exact absurd h1 ‹¬ZG p b›),hS.nl⟩
end Go.Proofs.YtkichmnjjblodaaGreat
namespace Go.Proofs.YtkichmnjjblodaaGreat
open Go Go.RowKit Go.Proofs.Gw
theorem ZlM{vL vD:Value}{p:Prob}{b:Int}{vA:Value}{n:Int}{x:Int->Int}(w0:World)(h:PAt w0 vL vD p)(hp:p.Ok)(hb:0<=b/\b<=1000)(hA:Row w0 vA 1 n (ints x))(hnm:n=p.m)(hx:∀k,0<=k->k<p.m->0<=x k/\x k<=p.D k):
    Calls Tryz.prog 45 [.agg #[vL,vD,.int .i64 p.stock,.int .i64 p.kerf,.int .i64 b],vA].toArray w0 fun e w=>∃v,e= .returned v/\∃r1 r2,v= .agg #[r1,r2,.int .i64 p.stock,.int .i64 p.kerf,.int .i64 (b-1)]/\Slh r1 p.m/\Slh r2 p.d/\Sat w0 w [.own r1 1 3 p.m (ints p.L),.own r2 1 3 p.d (ints fun k=>p.D k-x k)]:=by
  subst hnm
  have hm:=h.L.slh.n0;have hm1:=h.L.slh.n1;have hd:=h.D.slh.n0;have hd1:=h.D.slh.n1;have hs:=h.is;have hk:=h.ik
  have hpm:=hp.m1;have qI:=hp.m2;have hpd:=hp.d;have hs1:=hp.s1;have hs2:=hp.s2;have hk1:=hp.k1;have hk2:=hp.k2
  refine zenG Tryz.func45 Tryz.ntmps45 fun w hS=> ?_
  refine zsr<|zla (xbx (cs:= [_,_,_,_,_]) hS) ?_;rintro _ w ⟨g1,rfl,hS⟩
  refine zla (xal (cs:= [_,_,_,_,_]) ZcX hS) ?_;rintro _ w ⟨g2,rfl,hS⟩
  refine zlz<|(zV (xfb 0 fd_34_0))<|(zV (xlp 0 (ds:= [vL,vD,.int .i64 p.stock,.int .i64 p.kerf]) st_32 hS))<|zla (xal (cs:= [_,_,_,_]) Zfn hS) ?_;rintro _ w ⟨g3,rfl,hS⟩
  refine zle (xsw 2 st_32 hS (hd:=(Za h.L.slh.one (Za h.D.slh.one (Za rfl (Za rfl Zi)))))) ?_;clear hS;rintro w hS
  refine zx7<|zdst [0,1,2] [0,1,2] 1000 mx_ hS ?_;clear hS;intro w hS
  refine(zDw 0 (xfb 0 fd_32_0))<|(zDl 1 (fun w hS=>(xlb 2 pl_22 hS)))<|(zDw 2 (xln Zb h.L.slh))<|(zDw 4 (xfb 1 fd_32_1))<|(zDl 5 (fun w hS=>(xlb 2 pl_22 hS)))<|(zDw 6 (xln Zb h.D.slh))<|Vf (r:= [3,7]) ((YI ?_ (YI ?_ Ve)))
  ·
   refine zka (xmk Zb Zt hS) ?_;rintro v1 w ⟨hS,hv1⟩
   refine⟨⟨fun _=>hS.pk [0,1,2],hS.pk [0,1,2]⟩,?_⟩
   refine(zDw 8 xas)<|zda 7 (xmk Zb Zt hS) ?_;rintro v2 w ⟨hS,hv2⟩
   refine⟨⟨fun _=>hS.pk [0,1,2],hS.pk [0,1,2]⟩,?_⟩
   refine(zDw 9 xas)<|zdd<|ztn<|zsr ?_
   refine(zP)<|(zV (xfb 0 fd_32_0))<|(zV (xlb 2 pl_22 hS))<|R6 rfl rfl rfl (V3 3 rfl Zb rfl rfl hS rfl (h.L.below hS.below) (fun _ _ _=>rfl)) ?_;rintro _ w ⟨rfl,hS⟩
   refine zlz<|(zP)<|(zV (xfb 1 fd_32_1))<|(zV (xlb 2 pl_22 hS))<|R6 rfl rfl rfl (V3 4 rfl Zb rfl rfl hS rfl (h.D.below hS.below) (fun _ _ _=>rfl)) ?_;rintro _ w ⟨rfl,hS⟩
   refine zx5<|(zP)<|(zV (xln Zb hA.slh))<|(zP)<|zx6<|zlp (fun mm M w=>∃(fd:Int->Int) (i:Int),mm=((p.m-i).toNat)/\(0<=i)/\(i<=p.m)/\(∀k,0<=k->k<p.m->fd k=if k<i then p.D k-x k else p.D k)/\M= [(2,.pointer (some ⟨g1,0,none⟩)),(4,.pointer (some ⟨g2,0,none⟩)),(5,.pointer (some ⟨g3,0,none⟩)),(6,v1),(7,v2),(28,vA),(29,.int .i64 p.m),(30,.int .i64 i)]/\Sat w0 w [.blk g1 [vL,vD,.int .i64 p.stock,.int .i64 p.kerf,.int .i64 b],.blk g2 [.slice none 0 0,.slice none 0 0,.int .i64 0,.int .i64 0,.int .i64 0],.blk g3 [vL,vD,.int .i64 p.stock,.int .i64 p.kerf],.own v1 1 3 p.m (ints p.L),.own v2 1 3 p.d (ints fd)]) ⟨p.D,0,rfl,(by omega),(by omega),?_,rfl,hS⟩ ?_
   ·
    intro k k0 k1;rw [if_neg (by omega)]
   clear hS w
   rintro mm M w ⟨fd,i,rfl,h0,h1,hfd,rfl,hS⟩
   refine zsr<|(zP)<|zx7<|Zf ?_ ?_<;>intro hc
   ·
    refine zx3<|(zP)<|(zV (xix (kk:=i) Zb hA.slh))<|zlv (xlr (u:= .int .i64 (x i)) pl_3 (hA.below hS.below)) ?_
    have hxi:=hx i h0 (by omega);have hei:=hp.all i h0 (by omega);unfold Prob.each at hei;have hfi:=hfd i h0 (by omega);rw [if_neg (by omega)] at hfi
    refine(zP)<|(zP)<|zlt<|zrg<|(zP)<|(zP)<|(zV (xix (kk:=i) Zb hv2))<|(zV (xlr (u:= .int .i64 (fd i)) pl_3 (hS.rowN 4 rfl)))<|(zP)<|(zV (Zq (r:=fd i-(x i))))<|(zV (xix (kk:=i) Zb hv2))<|zle (xso 4 pl_3 hS (Zx _ _ _)) ?_;clear hS;rintro w hS
    refine zx10<|(zV (Zh (r:=i+1)))<|(zP)<|zln<|zlq ⟨(upd fd i (fd i-(x i))),i+1,rfl,(by omega),(by omega),?_,rfl,hS⟩
    ·
     intro k k0 k1;unfold upd;by_cases e:k=i
     · rw [if_pos e,if_pos (by omega),e];omega
     · rw [if_neg e,hfd k k0 k1];by_cases e2:k<i
       · rw [if_pos e2,if_pos (by omega)]
       · rw [if_neg e2,if_neg (by omega)]
   refine zx8<|(zP)<|(zP)<|(zV (xfb 0 fd_32_0))<|zle (xsb 2 pl_22 hS (hv:=hv1.one)) ?_;clear hS;rintro w hS
   refine(zV (xfb 1 fd_32_1))<|zle (xsb 2 pl_22 hS (hv:=hv2.one)) ?_;clear hS;rintro w hS
   refine zlz<|(zV (xls 2 st_32 hS))<|(zV (xfb 4 fd_34_1))<|(zV (xlb 0 pl_3 hS))<|(zV (Zq (r:=b-1)))<|zlv (xany (v:= .agg #[v1,v2,.int .i64 p.stock,.int .i64 p.kerf,.int .i64 (b-1)]) (hr:=by obtain⟨_,_,_,_,rfl,_⟩:=hv1;obtain⟨_,_,_,_,rfl,_⟩:=hv2;kernel_rfl)) ?_
   refine zle (xsw 1 Yw hS (hd:=(Za hv1.one (Za hv2.one (Za rfl (Za rfl (Za rfl Zi))))))) ?_;clear hS;rintro w hS
   refine zx1<|zfc 1 Yw hS ⟨_,rfl,?_⟩
   replace hS:=hS.recont 4 rfl (d:=ints fun k=>p.D k-x k) (fun k k0 k1=>by unfold ints;rw [hfd k k0 (by omega),if_pos (by omega)])
   exact⟨_,_,rfl,hv1,hv2,hS.pk [3,4]⟩
  refine zka (xmk Zb Zt hS) ?_;rintro v1 w ⟨hS,hv1⟩
  refine⟨⟨fun _=>hS.pk [0,1,2],hS.pk [0,1,2]⟩,?_⟩
  refine zda 3 (xmk Zb Zt hS) ?_;rintro v2 w ⟨hS,hv2⟩
  refine⟨⟨fun _=>hS.pk [0,1,2],hS.pk [0,1,2]⟩,?_⟩
  refine(zDw 8 xas)<|(zDw 9 xas)<|zdd<|ztn<|zsr ?_
  refine(zP)<|(zV (xfb 0 fd_32_0))<|(zV (xlb 2 pl_22 hS))<|R6 rfl rfl rfl (V3 4 rfl Zb rfl rfl hS rfl (h.L.below hS.below) (fun _ _ _=>rfl)) ?_;rintro _ w ⟨rfl,hS⟩
  refine zlz<|(zP)<|(zV (xfb 1 fd_32_1))<|(zV (xlb 2 pl_22 hS))<|R6 rfl rfl rfl (V3 3 rfl Zb rfl rfl hS rfl (h.D.below hS.below) (fun _ _ _=>rfl)) ?_;rintro _ w ⟨rfl,hS⟩
  refine zx5<|(zP)<|(zV (xln Zb hA.slh))<|(zP)<|zx6<|zlp (fun mm M w=>∃(fd:Int->Int) (i:Int),mm=((p.m-i).toNat)/\(0<=i)/\(i<=p.m)/\(∀k,0<=k->k<p.m->fd k=if k<i then p.D k-x k else p.D k)/\M= [(2,.pointer (some ⟨g1,0,none⟩)),(4,.pointer (some ⟨g2,0,none⟩)),(5,.pointer (some ⟨g3,0,none⟩)),(6,v2),(7,v1),(28,vA),(29,.int .i64 p.m),(30,.int .i64 i)]/\Sat w0 w [.blk g1 [vL,vD,.int .i64 p.stock,.int .i64 p.kerf,.int .i64 b],.blk g2 [.slice none 0 0,.slice none 0 0,.int .i64 0,.int .i64 0,.int .i64 0],.blk g3 [vL,vD,.int .i64 p.stock,.int .i64 p.kerf],.own v1 1 3 p.d (ints fd),.own v2 1 3 p.m (ints p.L)]) ⟨p.D,0,rfl,(by omega),(by omega),?_,rfl,hS⟩ ?_
  ·
   intro k k0 k1;rw [if_neg (by omega)]
  clear hS w
  rintro mm M w ⟨fd,i,rfl,h0,h1,hfd,rfl,hS⟩
  refine zsr<|(zP)<|zx7<|Zf ?_ ?_<;>intro hc
  ·
   refine zx3<|(zP)<|(zV (xix (kk:=i) Zb hA.slh))<|zlv (xlr (u:= .int .i64 (x i)) pl_3 (hA.below hS.below)) ?_
   have hxi:=hx i h0 (by omega);have hei:=hp.all i h0 (by omega);unfold Prob.each at hei;have hfi:=hfd i h0 (by omega);rw [if_neg (by omega)] at hfi
   refine(zP)<|(zP)<|zlt<|zrg<|(zP)<|(zP)<|(zV (xix (kk:=i) Zb hv1))<|(zV (xlr (u:= .int .i64 (fd i)) pl_3 (hS.rowN 3 rfl)))<|(zP)<|(zV (Zq (r:=fd i-(x i))))<|(zV (xix (kk:=i) Zb hv1))<|zle (xso 3 pl_3 hS (Zx _ _ _)) ?_;clear hS;rintro w hS
   refine zx10<|(zV (Zh (r:=i+1)))<|(zP)<|zln<|zlq ⟨(upd fd i (fd i-(x i))),i+1,rfl,(by omega),(by omega),?_,rfl,hS⟩
   ·
    intro k k0 k1;unfold upd;by_cases e:k=i
    · rw [if_pos e,if_pos (by omega),e];omega
    · rw [if_neg e,hfd k k0 k1];by_cases e2:k<i
      · rw [if_pos e2,if_pos (by omega)]
      · rw [if_neg e2,if_neg (by omega)]
  refine zx8<|(zP)<|(zP)<|(zV (xfb 0 fd_32_0))<|zle (xsb 2 pl_22 hS (hv:=hv2.one)) ?_;clear hS;rintro w hS
  refine(zV (xfb 1 fd_32_1))<|zle (xsb 2 pl_22 hS (hv:=hv1.one)) ?_;clear hS;rintro w hS
  refine zlz<|(zV (xls 2 st_32 hS))<|(zV (xfb 4 fd_34_1))<|(zV (xlb 0 pl_3 hS))<|(zV (Zq (r:=b-1)))<|zlv (xany (v:= .agg #[v2,v1,.int .i64 p.stock,.int .i64 p.kerf,.int .i64 (b-1)]) (hr:=by obtain⟨_,_,_,_,rfl,_⟩:=hv2;obtain⟨_,_,_,_,rfl,_⟩:=hv1;kernel_rfl)) ?_
  refine zle (xsw 1 Yw hS (hd:=(Za hv2.one (Za hv1.one (Za rfl (Za rfl (Za rfl Zi))))))) ?_;clear hS;rintro w hS
  refine zx1<|zfc 1 Yw hS ⟨_,rfl,?_⟩
  replace hS:=hS.recont 3 rfl (d:=ints fun k=>p.D k-x k) (fun k k0 k1=>by unfold ints;rw [hfd k k0 (by omega),if_pos (by omega)])
  exact⟨_,_,rfl,hv2,hv1,hS.pk [4,3]⟩
end Go.Proofs.YtkichmnjjblodaaGreat
namespace Go.Proofs.YtkichmnjjblodaaGreat
open Go Go.RowKit Go.Proofs.Gw
theorem Zm2:Zc Tryz.prog 44=true:=by kernel_rfl
theorem Zm1:Zc Tryz.prog 45=true:=by kernel_rfl
theorem VH:ZI Tryz.prog 29=some (34,5):=by kernel_rfl
theorem Zda{vL vD:Value}{p:Prob}{b:Int}{wi:Int}(w0:World)(h:PAt w0 vL vD p):
    Calls Tryz.prog 13 [.agg #[vL,vD,.int .i64 p.stock,.int .i64 p.kerf,.int .i64 b],.int .i64 wi].toArray w0 fun e w=>∃v,e= .returned v/\∃r vv,v= .tuple #[r,B (ZD p b wi)]/\Slh r (Zl p b wi)/\Sat w0 w [.own r 5 34 (Zl p b wi) (ZE vv p.stock p.kerf (b-1)),.sem (Frame.rows 3 (2*Zl p b wi) vv (fun _=>p.m) (gfn p (MX p wi)))]:=by
  have hm:=h.L.slh.n0;have hm1:=h.L.slh.n1;have hd:=h.D.slh.n0;have hd1:=h.D.slh.n1;have hs:=h.is;have hk:=h.ik
  refine zenG Tryz.func13 Tryz.ntmps13 fun w hS=> ?_
  refine zsr<|zla (xbx (cs:= [_,_,_,_,_]) hS) ?_;rintro _ w ⟨g1,rfl,hS⟩
  refine(zP)<|(zP)<|zx5<|(zV (xls 0 Yw hS))<|zlc (xc0 Zc5) (KY (p:=p) (b:=b) w (h.below hS.below)) ?_;rintro _ w ⟨rfl,hS'⟩
  replace hS:=hS.cmp hS';clear hS'
  refine(zP)<|(zP)<|zlb 14 ?_ ?_<;>intro hc;rotate_left
  refine(zV (xfb 4 fd_34_1))<|zlv (xlb 0 pl_3 hS) ?_
  have hpo:ZG p b:=by first|assumption|exact Classical.not_not.1 ‹_›
  have hp:=hpo.1;have hpb:=hpo.2
  have hpm:=hp.m1;have qI:=hp.m2;have hpd:=hp.d;have hs1:=hp.s1;have hs2:=hp.s2;have hk1:=hp.k1;have hk2:=hp.k2
  refine(zP)<|(zP)<|(zP)<|zlb 19 ?_ ?_<;>intro hc;rotate_left
  refine zs4 ?_
  refine zlb 23 ?_ ?_<;>intro hc;rotate_left
  refine(zP)<|(zV (xfb 0 fd_34_0))<|(zV (xfb 0 fd_32_0))<|(zV (xlb 0 pl_22 hS))<|(zV (xln Zb h.L.slh))<|(zP)<|(zP)<|(zP)<|zlb 31 ?_ ?_<;>intro hc;rotate_left
  refine(zV (xfb 0 fd_34_0))<|(zV (xfb 1 fd_32_1))<|(zV (xlb 0 pl_22 hS))<|(zP)<|(zV (xix (kk:=wi) Zb h.D.slh))<|zlv (xlr (u:= .int .i64 (p.D wi)) pl_3 (h.D.below hS.below)) ?_
  have hbv:=h.iD wi
  refine(zP)<|(zP)<|zlt<|Zf ?_ ?_<;>intro hc
  ·
   refine zsr<|(zP)<|(zP)<|zx14<|zf2 ⟨_,rfl,?_⟩
   have hno:¬ZD p b wi:=by
     rintro⟨⟨q1,q2,q3⟩,q4,⟨q5,q6⟩,q7,q8⟩
     first|omega|exact absurd (show ZG p b from⟨q1,q2,q3⟩) ‹¬ZG p b›|(rcases x8 with⟨g1,_⟩|⟨_,g1,_⟩|⟨_,_,g1,_⟩|⟨_,_,_,g1,_⟩;exact absurd q1 g1;exact absurd ⟨q5,q6⟩ g1;omega;omega)
   rw [Xg hno]
   exact⟨_,(fun _=>Value.slice none 0 0),by rw [Zz hno],slh_nil,((hS.sub (.cons _ .slnil)).addnil 5 34 (ZE (fun _=>Value.slice none 0 0) p.stock p.kerf (b-1))).addrows 3 (fun _=>Value.slice none 0 0) (fun _=>p.m) (gfn p (MX p wi))⟩
  refine ZT<|(zV (xfb 0 fd_34_0))<|(zV (xlp 0 (ds:= [vL,vD,.int .i64 p.stock,.int .i64 p.kerf]) st_32 hS))<|(zP)<|zlc (xc0 Zm2) (Zif (p:=p) (wi:=wi) w (h.below hS.below)) ?_;rintro _ w ⟨qS,ux1,qB,fx1,ex1,rfl,x8,qG,hS'⟩
  replace hS:=(hS.comp hS').n3;clear hS'
  have xl:∀k,0<=k->k<ux1->Slh (qB k) p.m:=fun k k0 k1=>hS.slhIn 2 rfl k0 k1
  refine zs5 ?_
  refine zx5<|(zP)<|(zP)<|zlt<|Zf ?_ ?_<;>intro hc
  ·
   refine zsr<|(zP)<|(zP)<|zx14<|zf2 ⟨_,rfl,?_⟩
   have hno:¬ZD p b wi:=by
     rintro⟨⟨q1,q2,q3⟩,q4,⟨q5,q6⟩,q7,q8⟩
     first|omega|exact absurd (show ZG p b from⟨q1,q2,q3⟩) ‹¬ZG p b›|(rcases x8 with⟨g1,_⟩|⟨_,g1,_⟩|⟨_,_,g1,_⟩|⟨_,_,_,g1,_⟩;exact absurd q1 g1;exact absurd ⟨q5,q6⟩ g1;omega;omega)
   rw [Xg hno]
   exact⟨_,(fun _=>Value.slice none 0 0),by rw [Zz hno],slh_nil,((hS.sub (.cons _ (.cons _ (.cons _ .slnil)))).addnil 5 34 (ZE (fun _=>Value.slice none 0 0) p.stock p.kerf (b-1))).addrows 3 (fun _=>Value.slice none 0 0) (fun _=>p.m) (gfn p (MX p wi))⟩
  refine ZT<|(zP)<|zx5<|(zP)<|(zV (xln Zm qG))<|zlv xmv ?_
  have qP:Ls p.m ux1 fx1 (MX p wi)/\(MX p wi).length<=300:=by rcases x8 with⟨_,g1,_⟩|⟨_,_,g1,_⟩|⟨_,_,_,g1,_⟩|⟨_,_,g2,_,g1⟩;omega;omega;omega;exact⟨g1,g2⟩
  have ev:=qP.2
  replace qP:=qP.1
  have hun:=qG.n0;have hul:=qP.1
  refine zx6 ?_
  replace hS:=(hS.addnil 5 34 (ZE (fun _=>Value.slice none 0 0) p.stock p.kerf (b-1))).addrows 3 (fun _=>Value.slice none 0 0) (fun _=>p.m) (gfn p (MX p wi))
  replace hS:=hS.rowsn 4 rfl (show(0:Int)=2*0 from rfl)
  refine zlp (fun mm M w=>∃(i:Int) (vv:Int->Value) (wG:Value),mm=((ux1-i).toNat)/\(0<=i)/\(i<=ux1)/\(Slh wG i)/\M= [(2,.pointer (some ⟨g1,0,none⟩)),(4,.slice none 0 0),(5,.bool false),(8,wG),(49,qS),(50,.int .i64 ux1),(51,.int .i64 i)]/\Sat w0 w [.blk g1 [vL,vD,.int .i64 p.stock,.int .i64 p.kerf,.int .i64 b],.own qS 1 22 ux1 qB,.sem (Frame.rows 3 ux1 qB (fun _=>p.m) fx1),.own wG 5 34 i (ZE vv p.stock p.kerf (b-1)),.sem (Frame.rows 3 (2*i) vv (fun _=>p.m) (gfn p (MX p wi)))]) ⟨0,(fun _=>Value.slice none 0 0),(.slice none 0 0),rfl,(by omega),(by omega),?_,rfl,hS⟩ ?_
  ·
   exact slh_nil
  clear hS w
  rintro mm M w ⟨i,vv,wG,rfl,h0,h1,hwG,rfl,hS⟩
  have hrG:∀k,0<=k->k<2*i->Slh (vv k) p.m:=fun k k0 k1=>hS.slhIn 4 rfl k0 k1
  refine zsr<|(zP)<|zx7<|Zf ?_ ?_<;>intro hc
  ·
   refine zx3<|(zV (xix (kk:=i) Zm qG))<|(zV (xlr (u:=(qB i)) pl_22 (hS.rowN 1 rfl)))<|(zP)<|zlt<|zrg<|(zP)<|(zV (xls 0 Yw hS))<|(zP)<|zlc (xc0 Zm1) (ZlM (p:=p) (b:=b) (x:=(fx1 i)) w (h.below hS.below) hp hpb (show Row _ _ 1 p.m _ from(hS.rowIn (k:=i) 2 rfl (by omega) (by omega))) rfl (ZaN hp qP h0 (by omega))) ?_;rintro _ w ⟨ao,ap,rfl,bM,bN,hS'⟩
   replace hS:=(hS.comp hS').n7;clear hS'
   refine zla (xli (n:=1) (len:=1) (pv:= [(0,.agg #[ao,ap,.int .i64 p.stock,.int .i64 p.kerf,.int .i64 (b-1)])]) (cs:= [ao,ap,.int .i64 p.stock,.int .i64 p.kerf,.int .i64 (b-1)]) (c:=ZE (pr2 ao ap) p.stock p.kerf (b-1)) VH ZcX hS (hf:=by obtain⟨_,_,_,_,rfl,_⟩:=bM;obtain⟨_,_,_,_,rfl,_⟩:=bN;kernel_rfl)) ?_;rintro v1 w ⟨hS,hv1⟩
   refine zla (xap 3 (r:=i+1) VH ZcX hS (hS.rowN 7 rfl) (TO _ _ _ _ _ _ _) (h1:=fun k _ _=>TB (Zcy bM.one bN.one) k)) ?_;rintro v2 w ⟨hS,hv2⟩
   replace hS:=Sat.merge (l1:= [_,_,_,_]) (l2:= []) (l3:= [_,_]) hS (by omega)
   replace hS:=hS.rowsn 4 rfl (show _=2*i+1 by omega)
   have qY:=fun k (k0:0<=k) (k1:k<2*i+1)=>hS.slhIn 4 rfl k0 k1
   replace hS:=Sat.merge (l1:= [_,_,_,_]) (l2:= []) (l3:= [_]) hS (by omega)
   replace hS:=hS.rowsn 4 rfl (show _=2*i+2 by omega)
   have yz:=fun k (k0:0<=k) (k1:k<2*i+2)=>hS.slhIn 4 rfl k0 k1
   replace hS:=hS.rerows (vv':=(gsn (gsn vv (2*i) ao) (2*i+1) ap)) (ln':=fun _=>p.m) (f':=(gfn p (MX p wi))) 4 rfl (RF hpd h0 (qP.2 i h0 (by omega)) _)
   replace hS:=hS.rowsn 4 rfl (show 2*i+2=2*(i+1) by omega)
   refine(zP)<|zx10<|(zV (Zh (r:=i+1)))<|zlv xmv ?_
   have qP:Ls p.m ux1 fx1 (MX p wi)/\(MX p wi).length<=300:=by rcases x8 with⟨_,g1,_⟩|⟨_,_,g1,_⟩|⟨_,_,_,g1,_⟩|⟨_,_,g2,_,g1⟩;omega;omega;omega;exact⟨g1,g2⟩
   have ev:=qP.2
   replace qP:=qP.1
   have hun:=qG.n0;have hul:=qP.1
   refine zln<|zlq ⟨i+1,(gsn (gsn vv (2*i) ao) (2*i+1) ap),v2,rfl,(by omega),(by omega),?_,rfl,hS.pk [0,1,2,3,4]⟩
   ·
    exact hv2
  refine zx8<|(zP)<|(zP)<|(zP)<|zx1<|zf2 ⟨_,rfl,?_⟩
  have hi9:i=((MX p wi).length:Int):=by have:=qP.1;omega
  have az:ZD p b wi:=⟨hpo,by omega,by omega,by omega,by have:=qP.1;omega⟩
  rw [Yi az]
  subst hi9
  exact⟨_,_,by rw [ZK az],hwG,hS.pk [3,4]⟩
  all_goals
   refine zOps ?_
   refine zlt<|zct<|zsr ?_
   refine zOps ?_
   refine zx14<|zf2 ⟨_,rfl,?_⟩
   have hno:¬ZD p b wi:=by
     rintro⟨⟨q1,q2,q3⟩,q4,⟨q5,q6⟩,q7,q8⟩
     first|omega|exact absurd (show ZG p b from⟨q1,q2,q3⟩) ‹¬ZG p b›|(rcases x8 with⟨g1,_⟩|⟨_,g1,_⟩|⟨_,_,g1,_⟩|⟨_,_,_,g1,_⟩;exact absurd q1 g1;exact absurd ⟨q5,q6⟩ g1;omega;omega)
   rw [Xg hno]
   exact⟨_,(fun _=>Value.slice none 0 0),by rw [Zz hno],slh_nil,((hS.sub (.cons _ .slnil)).addnil 5 34 (ZE (fun _=>Value.slice none 0 0) p.stock p.kerf (b-1))).addrows 3 (fun _=>Value.slice none 0 0) (fun _=>p.m) (gfn p (MX p wi))⟩
end Go.Proofs.YtkichmnjjblodaaGreat
namespace Go.Proofs.YtkichmnjjblodaaGreat
open Go Go.RowKit Go.Proofs.Gw
theorem Zm0:Zc Tryz.prog 46=true:=by kernel_rfl
theorem ZmE:ZW Tryz.prog 24=some (.agg #[.slice none 0 0,.slice none 0 0,.int .i64 0,.int .i64 0],4,64):=by kernel_rfl
theorem ZiU:ZW Tryz.prog 26=some (.agg #[.slice none 0 0,.slice none 0 0,.int .i64 0,.int .i64 0,.int .i64 0],5,72):=by kernel_rfl
theorem Zaz:ZI Tryz.prog 36=some (26,5):=by kernel_rfl
theorem Zf7{vL vD:Value}{p:Prob}{b:Int}{wi:Int}(w0:World)(h:PAt w0 vL vD p):
    Calls Tryz.prog 15 [.agg #[vL,vD,.int .i64 p.stock,.int .i64 p.kerf,.int .i64 b],.int .i64 wi].toArray w0 fun e w=>∃v,e= .returned v/\∃r vv,v= .tuple #[r,B (ZD p b wi)]/\Slh r (Zl p b wi)/\Sat w0 w [.own r 5 26 (Zl p b wi) (ZE vv p.stock p.kerf (b-1)),.sem (Frame.rows 3 (2*Zl p b wi) vv (fun _=>p.m) (gfn p (MX p wi)))]:=by
  have hm:=h.L.slh.n0;have hm1:=h.L.slh.n1;have hd:=h.D.slh.n0;have hd1:=h.D.slh.n1;have hs:=h.is;have hk:=h.ik
  refine zenG Tryz.func15 Tryz.ntmps15 fun w hS=> ?_
  refine zsr<|zla (xbx (cs:= [_,_,_,_,_]) hS) ?_;rintro _ w ⟨g1,rfl,hS⟩
  refine(zP)<|(zP)<|zx5<|(zV (xls 0 Th hS))<|zlc (xc0 ZfA) (KV (p:=p) (b:=b) w (h.below hS.below)) ?_;rintro _ w ⟨rfl,hS'⟩
  replace hS:=hS.cmp hS';clear hS'
  refine(zP)<|(zP)<|zlb 15 ?_ ?_<;>intro hc;rotate_left
  refine zlv xmv ?_
  have hpo:ZG p b:=by first|assumption|exact Classical.not_not.1 ‹_›
  have hp:=hpo.1;have hpb:=hpo.2
  have hpm:=hp.m1;have qI:=hp.m2;have hpd:=hp.d;have hs1:=hp.s1;have hs2:=hp.s2;have hk1:=hp.k1;have hk2:=hp.k2
  refine(zP)<|(zP)<|(zP)<|zlb 19 ?_ ?_<;>intro hc;rotate_left
  refine(zP)<|(zV (xfb 0 fd_26_0))<|(zV (xfb 0 fd_24_0))<|(zV (xlb 0 pl_22 hS))<|(zV (xln Zb h.L.slh))<|(zP)<|(zP)<|(zP)<|zlb 27 ?_ ?_<;>intro hc;rotate_left
  refine(zV (xfb 0 fd_26_0))<|(zV (xfb 1 fd_24_1))<|(zV (xlb 0 pl_22 hS))<|(zP)<|(zV (xix (kk:=wi) Zb h.D.slh))<|zlv (xlr (u:= .int .i64 (p.D wi)) pl_3 (h.D.below hS.below)) ?_
  have hbv:=h.iD wi
  refine(zP)<|(zP)<|(zP)<|zlb 36 ?_ ?_<;>intro hc;rotate_left
  refine(zV (xfb 4 fd_26_1))<|(zV (xlb 0 pl_3 hS))<|(zP)<|(zP)<|zlt<|Zf ?_ ?_<;>intro hc
  ·
   refine zsr<|(zP)<|(zP)<|zx14<|zf2 ⟨_,rfl,?_⟩
   have hno:¬ZD p b wi:=by
     rintro⟨⟨q1,q2,q3⟩,q4,⟨q5,q6⟩,q7,q8⟩
     first|omega|exact absurd (show ZG p b from⟨q1,q2,q3⟩) ‹¬ZG p b›|(rcases x8 with⟨g1,_⟩|⟨_,g1,_⟩|⟨_,_,g1,_⟩|⟨_,_,_,g1,_⟩;exact absurd q1 g1;exact absurd ⟨q5,q6⟩ g1;omega;omega)
   rw [Xg hno]
   exact⟨_,(fun _=>Value.slice none 0 0),by rw [Zz hno],slh_nil,((hS.sub (.cons _ .slnil)).addnil 5 26 (ZE (fun _=>Value.slice none 0 0) p.stock p.kerf (b-1))).addrows 3 (fun _=>Value.slice none 0 0) (fun _=>p.m) (gfn p (MX p wi))⟩
  refine ZT<|(zV (xfb 0 fd_26_0))<|(zV (xlp 0 (ds:= [vL,vD,.int .i64 p.stock,.int .i64 p.kerf]) Z5 hS))<|(zP)<|zlc (xc0 Zm0) (Zib (p:=p) (wi:=wi) w (h.below hS.below)) ?_;rintro _ w ⟨qS,ux1,qB,fx1,ex1,rfl,x8,qG,hS'⟩
  replace hS:=(hS.comp hS').n3;clear hS'
  have xl:∀k,0<=k->k<ux1->Slh (qB k) p.m:=fun k k0 k1=>hS.slhIn 2 rfl k0 k1
  refine zs5 ?_
  refine zx5<|(zP)<|(zP)<|zlt<|Zf ?_ ?_<;>intro hc
  ·
   refine zsr<|(zP)<|(zP)<|zx14<|zf2 ⟨_,rfl,?_⟩
   have hno:¬ZD p b wi:=by
     rintro⟨⟨q1,q2,q3⟩,q4,⟨q5,q6⟩,q7,q8⟩
     first|omega|exact absurd (show ZG p b from⟨q1,q2,q3⟩) ‹¬ZG p b›|(rcases x8 with⟨g1,_⟩|⟨_,g1,_⟩|⟨_,_,g1,_⟩|⟨_,_,_,g1,_⟩;exact absurd q1 g1;exact absurd ⟨q5,q6⟩ g1;omega;omega)
   rw [Xg hno]
   exact⟨_,(fun _=>Value.slice none 0 0),by rw [Zz hno],slh_nil,((hS.sub (.cons _ (.cons _ (.cons _ .slnil)))).addnil 5 26 (ZE (fun _=>Value.slice none 0 0) p.stock p.kerf (b-1))).addrows 3 (fun _=>Value.slice none 0 0) (fun _=>p.m) (gfn p (MX p wi))⟩
  refine ZT<|(zP)<|zx5<|zlv xas ?_
  have qP:Ls p.m ux1 fx1 (MX p wi)/\(MX p wi).length<=300:=by rcases x8 with⟨_,g1,_⟩|⟨_,_,g1,_⟩|⟨_,_,_,g1,_⟩|⟨_,_,g2,_,g1⟩;omega;omega;omega;exact⟨g1,g2⟩
  have ev:=qP.2
  replace qP:=qP.1
  have hun:=qG.n0;have hul:=qP.1
  refine zx6 ?_
  replace hS:=(hS.addnil 5 26 (ZE (fun _=>Value.slice none 0 0) p.stock p.kerf (b-1))).addrows 3 (fun _=>Value.slice none 0 0) (fun _=>p.m) (gfn p (MX p wi))
  replace hS:=hS.rowsn 4 rfl (show(0:Int)=2*0 from rfl)
  refine zlp (fun mm M w=>∃(i:Int) (vv:Int->Value) (wG:Value),mm=((ux1-i).toNat)/\(0<=i)/\(i<=ux1)/\(Slh wG i)/\M= [(2,.pointer (some ⟨g1,0,none⟩)),(4,.slice none 0 0),(5,.bool false),(6,qS),(8,wG),(9,.int .i64 i)]/\Sat w0 w [.blk g1 [vL,vD,.int .i64 p.stock,.int .i64 p.kerf,.int .i64 b],.own qS 1 22 ux1 qB,.sem (Frame.rows 3 ux1 qB (fun _=>p.m) fx1),.own wG 5 26 i (ZE vv p.stock p.kerf (b-1)),.sem (Frame.rows 3 (2*i) vv (fun _=>p.m) (gfn p (MX p wi)))]) ⟨0,(fun _=>Value.slice none 0 0),(.slice none 0 0),rfl,(by omega),(by omega),?_,rfl,hS⟩ ?_
  ·
   exact slh_nil
  clear hS w
  rintro mm M w ⟨i,vv,wG,rfl,h0,h1,hwG,rfl,hS⟩
  have hrG:∀k,0<=k->k<2*i->Slh (vv k) p.m:=fun k k0 k1=>hS.slhIn 4 rfl k0 k1
  refine zx11<|(zP)<|(zP)<|(zV (xln Zm qG))<|(zP)<|zlt<|Zf ?_ ?_<;>intro hc
  ·
   refine zx3<|(zV (xfb 0 fd_26_0))<|(zV (xlp 0 (ds:= [vL,vD,.int .i64 p.stock,.int .i64 p.kerf]) Z5 hS))<|zla (xal (cs:= [_,_,_,_]) ZmE hS) ?_;rintro _ w ⟨g2,rfl,hS⟩
   refine zle (xsw 5 Z5 hS (hd:=(Za h.L.slh.one (Za h.D.slh.one (Za rfl (Za rfl Zi)))))) ?_;clear hS;rintro w hS
   refine zlz<|zla (xl0 (c:=ints p.L) Zb hS) ?_;rintro v1 w ⟨hS,hv1⟩
   refine(zV (xfb 0 fd_24_0))<|(zV (xlb 5 pl_22 hS))<|zla (xap 6 (r:=p.m) (f:=ints p.L) Zb Zt hS (h.L.below hS.below) (by exact Yh _ _)) ?_;rintro v2 w ⟨hS,hv2⟩
   refine(zV (xfb 0 fd_24_0))<|zle (xsb 5 pl_22 hS (hv:=hv2.one)) ?_;clear hS;rintro w hS
   refine zlz<|zla (xl0 (c:=ints p.D) Zb hS) ?_;rintro v3 w ⟨hS,hv3⟩
   refine(zV (xfb 1 fd_24_1))<|(zV (xlb 5 pl_22 hS))<|zla (xap 7 (r:=p.d) (f:=ints p.D) Zb Zt hS (h.D.below hS.below) (by exact Yh _ _)) ?_;rintro v4 w ⟨hS,hv4⟩
   refine(zV (xfb 1 fd_24_1))<|zle (xsb 5 pl_22 hS (hv:=hv4.one)) ?_;clear hS;rintro w hS
   refine zx5<|(zP)<|zx6<|zlp (fun mm M w=>∃(fd:Int->Int) (n:Int),mm=((p.m-n).toNat)/\(0<=n)/\(n<=p.m)/\(∀k,0<=k->k<p.m->fd k=if k<n then p.D k-fx1 i k else p.D k)/\M= [(2,.pointer (some ⟨g1,0,none⟩)),(4,.slice none 0 0),(5,.bool false),(6,qS),(8,wG),(9,.int .i64 i),(10,.pointer (some ⟨g2,0,none⟩)),(11,.int .i64 n)]/\Sat w0 w [.blk g1 [vL,vD,.int .i64 p.stock,.int .i64 p.kerf,.int .i64 b],.own qS 1 22 ux1 qB,.sem (Frame.rows 3 ux1 qB (fun _=>p.m) fx1),.own wG 5 26 i (ZE vv p.stock p.kerf (b-1)),.sem (Frame.rows 3 (2*i) vv (fun _=>p.m) (gfn p (MX p wi))),.blk g2 [v2,v4,.int .i64 p.stock,.int .i64 p.kerf],.own v2 1 3 p.m (ints p.L),.own v4 1 3 p.d (ints fd)]) ⟨p.D,0,rfl,(by omega),(by omega),?_,rfl,hS⟩ ?_
   ·
    intro k k0 k1;rw [if_neg (by omega)]
   clear hS w
   rintro mm M w ⟨fd,n,rfl,n0,n1,hfd,rfl,hS⟩
   refine zx11<|(zP)<|(zP)<|(zP)<|(zV (xix (kk:=i) Zm qG))<|(zV (xlr (u:=(qB i)) pl_22 (hS.rowN 1 rfl)))<|(zV (xln Zb (xl i (by omega) (by omega))))<|(zP)<|zlt<|Zf ?_ ?_<;>intro hc
   ·
    refine zx29<|zdst [0,1,2,3,4,5,6,7] [0,1,2,3,4,5,6] 14 mx_ hS ?_;clear hS;intro w hS
    refine(zDw 0 (xfb 1 fd_24_1))<|(zDl 1 (fun w hS=>(xlb 5 pl_22 hS)))<|(zDw 2 xmv)<|(zDw 3 (xix (kk:=n) Zb hv4))<|zdl 4 (fun w hS=>(xlr (u:= .int .i64 (fd n)) pl_3 (hS.rowN 7 rfl))) ?_
    have hxi:=ZaN hp qP h0 (show i<ux1 by omega) n n0 (by omega);have hei:=hp.all n n0 (by omega);unfold Prob.each at hei;have hfi:=hfd n n0 (by omega);rw [if_neg (by omega)] at hfi
    refine(zDw 5 xmv)<|(zDw 6 xmv)<|(zDw 7 (xix (kk:=i) Zm qG))<|(zDl 8 (fun w hS=>(xlr (u:=(qB i)) pl_22 (hS.rowN 1 rfl))))<|(zDw 9 xmv)<|(zDw 10 (xix (kk:=n) Zb (xl i (by omega) (by omega))))<|(zDl 11 (fun w hS=>(xlr (u:= .int .i64 (fx1 i n)) pl_3 (show Row _ _ 1 p.m _ from(hS.rowIn (k:=i) 2 rfl (by omega) (by omega))))))<|(zDw 12 (Zq (r:=fd n-(fx1 i n))))<|(zDw 13 (xix (kk:=n) Zb hv4))<|zde 14 (xso 7 pl_3 hS (Zx _ _ _)) ?_;clear hS;rintro w hS
    refine⟨⟨fun h=>absurd h (by decide),hS.pk [0,1,2,3,4,5,6]⟩,?_⟩
    refine zdd<|zbn<|ztn<|zrg ?_
    refine(zP)<|(zV (Zh (r:=n+1)))<|(zP)<|zln<|zlq ⟨(upd fd n (fd n-(fx1 i n))),n+1,rfl,(by omega),(by omega),?_,rfl,hS⟩
    ·
     intro k k0 k1;unfold upd;by_cases e:k=n
     · rw [if_pos e,if_pos (by omega),e];omega
     · rw [if_neg e,hfd k k0 k1];by_cases e2:k<n
       · rw [if_pos e2,if_pos (by omega)]
       · rw [if_neg e2,if_neg (by omega)]
   refine zxt<|ztx<|ztx<|zbh<|ztn<|zrg<|zlv xmv ?_
   replace hS:=hS.recont 7 rfl (d:=ints (fun k=>p.D k-(fx1 i) k)) (fun k k0 k1=>by unfold ints;rw [hfd k k0 (by omega),if_pos (by omega)])
   refine(zV (xls 5 Z5 hS))<|(zV (xfb 4 fd_26_1))<|(zV (xlb 0 pl_3 hS))<|(zV (Zq (r:=b-1)))<|zlv (xany (v:= .agg #[v2,v4,.int .i64 p.stock,.int .i64 p.kerf,.int .i64 (b-1)]) (hr:=by obtain⟨_,_,_,_,rfl,_⟩:=hv2;obtain⟨_,_,_,_,rfl,_⟩:=hv4;kernel_rfl)) ?_
   refine zla (xli (n:=1) (len:=1) (pv:= [(0,.agg #[v2,v4,.int .i64 p.stock,.int .i64 p.kerf,.int .i64 (b-1)])]) (cs:= [v2,v4,.int .i64 p.stock,.int .i64 p.kerf,.int .i64 (b-1)]) (c:=ZE (pr2 v2 v4) p.stock p.kerf (b-1)) Zaz ZiU hS (hf:=by obtain⟨_,_,_,_,rfl,_⟩:=hv2;obtain⟨_,_,_,_,rfl,_⟩:=hv4;kernel_rfl)) ?_;rintro v5 w ⟨hS,hv5⟩
   refine zla (xap 3 (r:=i+1) Zaz ZiU hS (hS.rowN 8 rfl) (TO _ _ _ _ _ _ _) (h1:=fun k _ _=>TB (Zcy hv2.one hv4.one) k)) ?_;rintro v6 w ⟨hS,hv6⟩
   replace hS:=Sat.merge (l1:= [_,_,_,_]) (l2:= [_]) (l3:= [_,_]) hS (by omega)
   replace hS:=hS.rowsn 4 rfl (show _=2*i+1 by omega)
   have qY:=fun k (k0:0<=k) (k1:k<2*i+1)=>hS.slhIn 4 rfl k0 k1
   replace hS:=Sat.merge (l1:= [_,_,_,_]) (l2:= [_]) (l3:= [_]) hS (by omega)
   replace hS:=hS.rowsn 4 rfl (show _=2*i+2 by omega)
   have yz:=fun k (k0:0<=k) (k1:k<2*i+2)=>hS.slhIn 4 rfl k0 k1
   replace hS:=hS.rerows (vv':=(gsn (gsn vv (2*i) v2) (2*i+1) v4)) (ln':=fun _=>p.m) (f':=(gfn p (MX p wi))) 4 rfl (RF hpd h0 (qP.2 i h0 (by omega)) _)
   replace hS:=hS.rowsn 4 rfl (show 2*i+2=2*(i+1) by omega)
   refine(zP)<|zx10<|(zP)<|(zV (Zh (r:=i+1)))<|(zP)<|zln<|zlq ⟨i+1,(gsn (gsn vv (2*i) v2) (2*i+1) v4),v6,rfl,(by omega),(by omega),?_,rfl,hS.pk [0,1,2,3,4]⟩
   ·
    exact hv6
  refine zx8<|(zP)<|(zP)<|(zP)<|zx1<|zf2 ⟨_,rfl,?_⟩
  have hi9:i=((MX p wi).length:Int):=by have:=qP.1;omega
  have az:ZD p b wi:=⟨hpo,by omega,by omega,by omega,by have:=qP.1;omega⟩
  rw [Yi az]
  subst hi9
  exact⟨_,_,by rw [ZK az],hwG,hS.pk [3,4]⟩
  all_goals
   refine zOps ?_
   refine zlt<|zct<|zsr ?_
   refine zOps ?_
   refine zx14<|zf2 ⟨_,rfl,?_⟩
   have hno:¬ZD p b wi:=by
     rintro⟨⟨q1,q2,q3⟩,q4,⟨q5,q6⟩,q7,q8⟩
     first|omega|exact absurd (show ZG p b from⟨q1,q2,q3⟩) ‹¬ZG p b›|(rcases x8 with⟨g1,_⟩|⟨_,g1,_⟩|⟨_,_,g1,_⟩|⟨_,_,_,g1,_⟩;exact absurd q1 g1;exact absurd ⟨q5,q6⟩ g1;omega;omega)
   rw [Xg hno]
   exact⟨_,(fun _=>Value.slice none 0 0),by rw [Zz hno],slh_nil,((hS.sub (.cons _ .slnil)).addnil 5 26 (ZE (fun _=>Value.slice none 0 0) p.stock p.kerf (b-1))).addrows 3 (fun _=>Value.slice none 0 0) (fun _=>p.m) (gfn p (MX p wi))⟩
end Go.Proofs.YtkichmnjjblodaaGreat
namespace Go.Proofs.Gw
open Go Go.RowKit
variable {i:Int} {w w0:World}
inductive Tr where
  |nil
  |mk (s:Int) (vK:Value) (n:Int) (kid:Int->Tr) (vL:Value) (nl:Int) (l:Int->Int)
def Tr.s:Tr->Int| .nil=>0| .mk s _ _ _ _ _ _=>s
def Tr.vK:Tr->Value| .nil=> .slice none 0 0| .mk _ v _ _ _ _ _=>v
def Tr.n:Tr->Int| .nil=>0| .mk _ _ n _ _ _ _=>n
def Tr.kid:Tr->Int->Tr| .nil=>fun _=> .nil| .mk _ _ _ k _ _ _=>k
def Tr.vL:Tr->Value| .nil=> .slice none 0 0| .mk _ _ _ _ v _ _=>v
def Tr.nl:Tr->Int| .nil=>0| .mk _ _ _ _ _ n _=>n
def Tr.l:Tr->Int->Int| .nil=>fun _=>0| .mk _ _ _ _ _ _ l=>l
theorem Tr.ind{P:Tr->Prop}(h:∀t,(∀i,0<=i->i<t.n->P (t.kid i))->P t):∀t,P t
  | .nil=>h .nil fun i i0 i1=>by have i1':i<0:=i1;omega
  | .mk s vK n kid vL nl l=>h (.mk s vK n kid vL nl l) fun i _ _=>Tr.ind h (kid i)
def XC(S:Int->Int)(K L:Int->Value):Int->Value:=fun j=>if j%3=0 then .int .i64 (S (j/3)) else if j%3=1 then K (j/3) else L (j/3)
abbrev Ym(kid:Int->Tr):Int->Value:=XC (fun i=>(kid i).s) (fun i=>(kid i).vK) (fun i=>(kid i).vL)
theorem Zdt(S:Int->Int)(K L:Int->Value){q:Int}(h:q=3*i):∀(j:Nat) u, [Value.int .i64 (S i),K i,L i][j]? =some u->XC S K L (q+j)=u:=fun j u hu=>by
  rcases j with _|_|_|j
  · cases hu;unfold XC;rw [if_pos (by omega)];congr 2;omega
  · cases hu;unfold XC;rw [if_neg (by omega),if_pos (by omega)];congr 1;omega
  · cases hu;unfold XC;rw [if_neg (by omega),if_neg (by omega)];congr 1;omega
  · simp at hu
theorem Yl(kid:Int->Tr){q:Int}(h:q=3*i):∀(j:Nat) u, [Value.int .i64 (kid i).s,(kid i).vK,(kid i).vL][j]? =some u->Ym kid (q+j)=u:=Zdt (fun i=>(kid i).s) (fun i=>(kid i).vK) (fun i=>(kid i).vL) h
theorem Td{S:Int->Int}{K L:Int->Value}(hK:∀i,(K i).oneCell'=true)(hL:∀i,(L i).oneCell'=true)(j:Int):(XC S K L j).oneCell'=true:=by
  unfold XC
  split
  · rfl
  · split
    · exact hK _
    · exact hL _
theorem TN(kid:Int->Tr)(n:Int)(t:Tr):cat (n*3) (Ym kid) (XC (fun _=>t.s) (fun _=>t.vK) (fun _=>t.vL))=Ym (gsn kid n t):=by
  funext j
  unfold cat Ym XC gsn
  by_cases h:j<n*3
  · have h1:j/3<n:=by omega
    simp only [if_pos h,if_pos h1]
  · have h1:¬j/3<n:=by omega
    have e:(j-n*3)%3=j%3:=by omega
    simp only [if_neg h,if_neg h1,e]
def KAt(w:World):Tr->Prop
  | .nil=>True
  | .mk s vK n kid vL nl l=>(Row w vK 3 n (Ym kid)/\56*n<=140737488351232)/\∀i,0<=i->i<n->KAt w (kid i)
def LvAt(w:World):Tr->Prop
  | .nil=>True
  | .mk s vK n kid vL nl l=>(IAt w vL nl l/\XO vL/\(-9223372036854775808<=s/\s<=9223372036854775807))/\∀i,0<=i->i<n->LvAt w (kid i)
theorem KAt.row{t:Tr}(h:KAt w t):Row w t.vK 3 t.n (Ym t.kid):=by
  cases t with
  |nil=>exact UV _ _ _
  |mk=>exact h.1.1
theorem KAt.bd{t:Tr}(h:KAt w t):56*t.n<=140737488351232:=by
  cases t with
  |nil=>show 56*0<=_;omega
  |mk=>exact h.1.2
theorem KAt.sub{t:Tr}(h:KAt w t)(i0:0<=i)(i1:i<t.n):KAt w (t.kid i):=by
  cases t with
  |nil=>exact trivial
  |mk=>exact h.2 i i0 i1
theorem LvAt.leaf{t:Tr}(h:LvAt w t):IAt w t.vL t.nl t.l:=by
  cases t with
  |nil=>exact⟨UV _ _ _,fun k=>by show _<=(0:Int)/\(0:Int)<=_;omega⟩
  |mk=>exact h.1.1
theorem LvAt.room{t:Tr}(h:LvAt w t):XO t.vL:=by
  cases t with
  |nil=>intro a len cap e;cases e;exact Nat.le_refl _
  |mk=>exact h.1.2.1
theorem LvAt.s{w:World}{t:Tr}(h:LvAt w t): -9223372036854775808<=t.s/\t.s<=9223372036854775807:=by
  cases t with
  |nil=>show _<=(0:Int)/\(0:Int)<=_;omega
  |mk=>exact h.1.2.2
theorem LvAt.sub{t:Tr}(h:LvAt w t)(i0:0<=i)(i1:i<t.n):LvAt w (t.kid i):=by
  cases t with
  |nil=>exact trivial
  |mk=>exact h.2 i i0 i1
theorem KAt.below{w w':World}(hb:Below w.heap.size w w'):∀{t:Tr},KAt w t->KAt w' t
  | .nil,_=>trivial
  | .mk s vK n kid vL nl l,h=>⟨⟨h.1.1.below hb,h.1.2⟩,fun i i0 i1=>KAt.below hb (h.2 i i0 i1)⟩
theorem LvAt.below{w w':World}(hb:Below w.heap.size w w'):∀{t:Tr},LvAt w t->LvAt w' t
  | .nil,_=>trivial
  | .mk s vK n kid vL nl l,h=>⟨⟨h.1.1.below hb,h.1.2.1,h.1.2.2⟩,fun i i0 i1=>LvAt.below hb (h.2 i i0 i1)⟩
def VF(f:Int->Int):Nat->Int
  |0=>1
  |k+1=>IntKind.i64.wrap (VF f k+f k)
def Vg(f:Int->Int):Nat->Int
  |0=>0
  |k+1=>max (Vg f k) (f k)
theorem Ud(f:Int->Int)(h:0<=i):VF f (i+1).toNat=IntKind.i64.wrap (VF f i.toNat+f i):=by
  rw [show(i+1).toNat=i.toNat+1 by omega]
  simp only [VF]
  rw [show((i.toNat:Nat):Int)=i by omega]
theorem Uk(f:Int->Int)(h:0<=i):Vg f (i+1).toNat=max (Vg f i.toNat) (f i):=by
  rw [show(i+1).toNat=i.toNat+1 by omega]
  simp only [Vg]
  rw [show((i.toNat:Nat):Int)=i by omega]
theorem Vn{f g:Int->Int}:∀{k:Nat},(∀i,0<=i->i<(k:Int)->f i=g i)->VF f k=VF g k
  |0,_=>rfl
  |k+1,h=>by simp only [VF];rw [Vn (k:=k) fun i a b=>h i a (by omega),h k (by omega) (by omega)]
theorem Vu{f g:Int->Int}:∀{k:Nat},(∀i,0<=i->i<(k:Int)->f i=g i)->Vg f k=Vg g k
  |0,_=>rfl
  |k+1,h=>by simp only [Vg];rw [Vu (k:=k) fun i a b=>h i a (by omega),h k (by omega) (by omega)]
def Tr.nodes:Tr->Int| .nil=>1| .mk _ _ n kid _ _ _=>VF (fun i=>(kid i).nodes) n.toNat
def Tr.depth:Tr->Int| .nil=>IntKind.i64.wrap (0+1)| .mk _ _ n kid _ _ _=>IntKind.i64.wrap (Vg (fun i=>(kid i).depth) n.toNat+1)
theorem Tr.nodes_eq(t:Tr):t.nodes=VF (fun i=>(t.kid i).nodes) t.n.toNat:=by cases t<;>rfl
theorem Tr.depth_eq(t:Tr):t.depth=IntKind.i64.wrap (Vg (fun i=>(t.kid i).depth) t.n.toNat+1):=by cases t<;>rfl
theorem Zcp{P:Program}{L:List (Nat×Value)}{w:World}{o:Oper}{x y:Operand}{T T':TypeId}{m n:Int}(ho:o.op= .binOp .add T x y T':=by exact rfl)(hx:evL L x=some (.int .i64 m):=by exact rfl)(hy:evL L y=some (.int .i64 n):=by exact rfl):Runs P L w o (.value (.int .i64 (IntKind.i64.wrap (m+n)))) w:=fun ρ h=>by
  simp [execOp,ho,h _ _ hx,h _ _ hy,go_sem,Op.intArith]
def Zo(x:Int):Prop:= -1073741824<=x/\x<=1073741824
def OkN(t:Tr):Prop:=Zo t.s/\t.n<=100/\t.nl<=40/\(t.n=0\/t.nl=0)/\(t.n=0->t.s=0)/\∀k,0<=k->k<t.nl->Zo (t.l k)
def Tr.ok:Tr->Prop| .nil=>OkN .nil| .mk s vK n kid vL nl l=>OkN (.mk s vK n kid vL nl l)/\∀i,0<=i->i<n->(kid i).ok
theorem Tr.ok_iff(t:Tr):t.ok↔OkN t/\∀i,0<=i->i<t.n->(t.kid i).ok:=by
  cases t with
  |nil=>exact⟨fun h=>⟨h,fun i i0 i1=>by have i1':i<0:=i1;omega⟩,fun h=>h.1⟩
  |mk=>rfl
def Yc(t:Tr):Prop:=t.ok/\t.nodes<=2000/\t.depth<=40
def Sim:Tr->Tr->Prop
  | .nil,t=>t.s=0/\t.n=0/\t.vL= .slice none 0 0/\t.nl=0/\t.l=fun _=>0
  | .mk s vK n kid vL nl l,t=>t.s=s/\t.n=n/\t.vL=vL/\t.nl=nl/\t.l=l/\∀i,0<=i->i<n->Sim (kid i) (t.kid i)
theorem Sim.of{t u:Tr}(h:Sim t u):u.s=t.s/\u.n=t.n/\u.vL=t.vL/\u.nl=t.nl/\u.l=t.l/\∀i,0<=i->i<t.n->Sim (t.kid i) (u.kid i):=by
  cases t with
  |nil=>obtain⟨h1,h2,h3,h4,h5⟩:=h;exact⟨h1,h2,h3,h4,h5,fun i i0 i1=>by have i1':i<0:=i1;omega⟩
  |mk=>exact h
theorem Sim.mk'{t u:Tr}(h1:u.s=t.s)(h2:u.n=t.n)(h3:u.vL=t.vL)(h4:u.nl=t.nl)(h5:u.l=t.l)(h6:∀i,0<=i->i<t.n->Sim (t.kid i) (u.kid i)):Sim t u:=by
  cases t with
  |nil=>exact⟨h1,h2,h3,h4,h5⟩
  |mk=>exact⟨h1,h2,h3,h4,h5,h6⟩
theorem Sim.nodes:∀t:Tr,∀{u:Tr},Sim t u->u.nodes=t.nodes:=Tr.ind fun t ih u h=>by
  obtain⟨_,h2,_,_,_,h6⟩:=h.of
  rw [u.nodes_eq,t.nodes_eq,h2]
  exact Vn fun i i0 i1=>ih i i0 (by omega) (h6 i i0 (by omega))
theorem Sim.depth:∀t:Tr,∀{u:Tr},Sim t u->u.depth=t.depth:=Tr.ind fun t ih u h=>by
  obtain⟨_,h2,_,_,_,h6⟩:=h.of
  rw [u.depth_eq,t.depth_eq,h2]
  rw [Vu fun i i0 i1=>ih i i0 (by omega) (h6 i i0 (by omega))]
theorem Sim.ok:∀t:Tr,∀{u:Tr},Sim t u->(u.ok↔t.ok):=Tr.ind fun t ih u h=>by
  obtain⟨h1,h2,_,h4,h5,h6⟩:=h.of
  rw [u.ok_iff,t.ok_iff]
  have e:OkN u↔OkN t:=by unfold OkN;rw [h1,h2,h4,h5]
  rw [e,h2]
  exact⟨fun⟨a,b⟩=>⟨a,fun i i0 i1=>(ih i i0 i1 (h6 i i0 i1)).1 (b i i0 i1)⟩,fun⟨a,b⟩=>⟨a,fun i i0 i1=>(ih i i0 i1 (h6 i i0 i1)).2 (b i i0 i1)⟩⟩
theorem Sim.vat:∀t:Tr,∀{u:Tr},Sim t u->LvAt w t->LvAt w u:=Tr.ind fun t ih u h hv=>by
  obtain⟨h1,h2,h3,h4,h5,h6⟩:=h.of
  have g1:=hv.leaf;have g2:=hv.room;have g3:=hv.s
  rw [<-h3,<-h4,<-h5] at g1
  rw [<-h3] at g2
  rw [<-h1] at g3
  cases u with
  |nil=>exact trivial
  |mk s vK n kid vL nl l=>exact⟨⟨g1,g2,g3⟩,fun i i0 i1=>ih i i0 (by have h2':n=t.n:=h2;omega) (h6 i i0 (by have h2':n=t.n:=h2;omega)) (hv.sub i0 (by have h2':n=t.n:=h2;omega))⟩
theorem Sim.valid{t u:Tr}(h:Sim t u):Yc u↔Yc t:=by unfold Yc;rw [h.ok,h.nodes,h.depth]
def Frame.all(n:Int)(F:Int->Frame):Frame where
  holds w:=(∀i,0<=i->i<n->(F i).holds w)/\∀i j,0<=i->i<n->0<=j->j<n->i≠j->∀g,(F i).has g->¬(F j).has g
  has g:=∃i,0<=i/\i<n/\(F i).has g
  keep h hk:=⟨fun i i0 i1=>(F i).keep (h.1 i i0 i1) fun g hg=>hk g ⟨i,i0,i1,hg⟩,h.2⟩
  lt h hg:=by obtain⟨i,i0,i1,hg⟩:=hg;exact(F i).lt (h.1 i i0 i1) hg
def Tr.frame(E:TypeId):Tr->Frame| .nil=>Frame.bun []| .mk s vK n kid vL nl l=>Frame.bun [.own vK 3 E n (Ym kid),.sem (Frame.all n fun i=>(kid i).frame E)]
theorem Tr.frame_kat{E:TypeId}:∀t:Tr,∀{u:Tr},Sim t u->KAt w0 t->(u.frame E).holds w->KAt w u:=Tr.ind fun t ih u h hk hf=>by
  obtain⟨h1,h2,h3,h4,h5,h6⟩:=h.of
  have hbd:=hk.bd
  cases u with
  |nil=>exact trivial
  | mk s vK n kid vL nl l=>
    have hf':(Frame.bun [.own vK 3 E n (Ym kid),.sem (Frame.all n fun i=>(kid i).frame E)]).holds w:=hf
    have g1:=hf'.1 _ (List.mem_cons_self ..)
    have g2:=hf'.1 (.sem _) (List.mem_cons_of_mem _ (List.mem_cons_self ..))
    have h2':n=t.n:=h2
    exact⟨⟨g1.row,by omega⟩,fun i i0 i1=>ih i i0 (by omega) (h6 i i0 (by omega)) (hk.sub i0 (by omega)) (g2.1 i i0 i1)⟩
theorem Sat.addall{l:List Ent}(h:Sat w0 w l)(F:Int->Frame):Sat w0 w (l++ [.sem (Frame.all 0 F)]):=by
  refine h.comp (m:= [.sem (Frame.all 0 F)]) ⟨Below.refl _ _,?_,?_,List.pairwise_singleton _ _⟩
  · intro e he;obtain rfl:=List.mem_singleton.1 he;exact⟨fun i i0 i1=>by omega,fun i j i0 i1=>by omega⟩
  · intro e he g hg;obtain rfl:=List.mem_singleton.1 he;obtain⟨i,i0,i1,_⟩:=hg;omega
theorem Sat.allsnoc {l1 l2 l3:List Ent} {n:Int} {F:Int->Frame} {G:Frame} (h:Sat w0 w (l1++ .sem (Frame.all n F)::(l2++ .sem G::l3))) (hn:0<=n) {H:Int->Frame} (hH:∀i,0<=i->i<n->H i=F i) (hG:H n=G):Sat w0 w (l1++ .sem (Frame.all (n+1) H)::(l2++l3)):=by
  have hs:=List.pairwise_append.1 h.sep
  have hs2:=List.pairwise_cons.1 hs.2.1
  have hs3:=List.pairwise_append.1 hs2.2
  have hs4:=List.pairwise_cons.1 hs3.2.1
  have hF:=h.holds (.sem (Frame.all n F)) (by simp)
  have hg:=h.holds (.sem G) (by simp)
  have hAG:∀k,(∃i,0<=i/\i<n/\(F i).has k)->¬G.has k:=fun k hk hk'=>hs2.1 (.sem G) (by simp) k hk hk'
  have hH1:∀i,0<=i->i<n+1->H i=F i/\i<n\/H i=G/\i=n:=fun i i0 i1=>by
    by_cases e:i<n
    · exact .inl ⟨hH i i0 e,e⟩
    · obtain rfl:i=n:=by omega
      exact .inr ⟨hG,rfl⟩
  have cT:∀k,(Frame.all (n+1) H).has k->(Frame.all n F).has k\/G.has k:=fun k ⟨i,i0,i1,hk⟩=>by
    rcases hH1 i i0 i1 with⟨e,e1⟩|⟨e,e1⟩
    · rw [e] at hk;exact .inl ⟨i,i0,e1,hk⟩
    · rw [e] at hk;exact .inr hk
  refine⟨h.below,fun e he=> ?_,fun e he g hg'=> ?_,List.pairwise_append.2 ⟨hs.1,List.pairwise_cons.2 ⟨fun e he g hg' hg2=> ?_,List.pairwise_append.2 ⟨hs3.1,hs4.2,fun d hd e he=>hs3.2.2 d hd e (by simp [he])⟩⟩,fun d hd e he=> ?_⟩⟩
  · rcases List.mem_append.1 he with he|he
    · exact h.holds e (by simp [he])
    · rcases List.mem_cons.1 he with rfl|he
      · refine⟨fun i i0 i1=> ?_,fun i j i0 i1 j0 j1 hij k hk hk'=> ?_⟩
        · rcases hH1 i i0 i1 with⟨e,e1⟩|⟨e,e1⟩
          · rw [e];exact hF.1 i i0 e1
          · rw [e];exact hg
        · rcases hH1 i i0 i1 with⟨e,e1⟩|⟨e,e1⟩<;>rcases hH1 j j0 j1 with⟨d,d1⟩|⟨d,d1⟩<;>rw [e] at hk<;>rw [d] at hk'
          · exact hF.2 i j i0 e1 j0 d1 hij k hk hk'
          · exact hAG k ⟨i,i0,e1,hk⟩ hk'
          · exact hAG k ⟨j,j0,d1,hk'⟩ hk
          · omega
      · rcases List.mem_append.1 he with he|he
        · exact h.holds e (by simp [he])
        · exact h.holds e (by simp [he])
  · rcases List.mem_append.1 he with he|he
    · exact h.new e (by simp [he]) g hg'
    · rcases List.mem_cons.1 he with rfl|he
      · rcases cT g hg' with hg'|hg'
        · exact h.new (.sem (Frame.all n F)) (by simp) g hg'
        · exact h.new (.sem G) (by simp) g hg'
      · rcases List.mem_append.1 he with he|he
        · exact h.new e (by simp [he]) g hg'
        · exact h.new e (by simp [he]) g hg'
  · rcases cT g hg' with hg'|hg'
    · rcases List.mem_append.1 he with he|he
      · exact hs2.1 e (by simp [he]) g hg' hg2
      · exact hs2.1 e (by simp [he]) g hg' hg2
    · rcases List.mem_append.1 he with he|he
      · exact hs3.2.2 e he (.sem G) (by simp) g hg2 hg'
      · exact hs4.1 e he g hg' hg2
  · intro g hg1 hg2
    rcases List.mem_cons.1 he with rfl|he
    · rcases cT g hg2 with hg2|hg2
      · exact hs.2.2 d hd (.sem (Frame.all n F)) (by simp) g hg1 hg2
      · exact hs.2.2 d hd (.sem G) (by simp) g hg1 hg2
    · rcases List.mem_append.1 he with he|he
      · exact hs.2.2 d hd e (by simp [he]) g hg1 hg2
      · exact hs.2.2 d hd e (by simp [he]) g hg1 hg2
theorem Sat.tree{l:List Ent}{E:TypeId}{v:Value}{n:Int}{kid:Int->Tr}(h:Sat w0 w (l++ [.own v 3 E n (Ym kid),.sem (Frame.all n fun i=>(kid i).frame E)]))(s:Int)(vL:Value)(nl:Int)(f:Int->Int):Sat w0 w (l++ [.sem ((Tr.mk s v n kid vL nl f).frame E)]):=by
  exact h.bundle (l2:= [.own v 3 E n (Ym kid),.sem (Frame.all n fun i=>(kid i).frame E)])
end Go.Proofs.Gw
namespace Go.Proofs.YtkichmnjjblodaaGreat
open Go Go.RowKit Go.Proofs.Gw
theorem ZfR:Zc Tryz.prog 100=true:=by kernel_rfl
theorem Zi6:Zc Tryz.prog 49=true:=by kernel_rfl
theorem ZiY:Zc Tryz.prog 83=true:=by kernel_rfl
theorem ZiV:Zc Tryz.prog 99=true:=by kernel_rfl
theorem WB:ZW Tryz.prog 54=some (.agg #[.int .i64 0,.slice none 0 0,.slice none 0 0],3,56):=by kernel_rfl
theorem fd_45_1:Zr Tryz.prog 45 1=some 1:=by kernel_rfl
theorem fd_54_1:Zr Tryz.prog 54 1=some 1:=by kernel_rfl
theorem YT:ZM Tryz.prog 43=true:=by kernel_rfl
theorem XF:ZM Tryz.prog 52=true:=by kernel_rfl
theorem YS:ZI Tryz.prog 43=some (45,3):=by kernel_rfl
theorem YM:ZI Tryz.prog 52=some (54,3):=by kernel_rfl
theorem st_45:Zy Tryz.prog 45=some 3:=by kernel_rfl
theorem st_54:Zy Tryz.prog 54=some 3:=by kernel_rfl
theorem Zii:∀(t:Tr) (w0:World) (hK:KAt w0 t) (hV:LvAt w0 t),
    Calls Tryz.prog 99 [.agg #[.int .i64 t.s,t.vK,t.vL]].toArray w0 fun e w=>∃v,e= .returned v/\v= .int .i64 t.nodes/\Sat w0 w []:=by
  refine Tr.ind fun t ih=> ?_
  intro w0 hK hV
  have hn:=hK.row.slh.n0;have hn1:=hK.row.slh.n1
  refine zenG Tryz.func99 Tryz.ntmps99 fun w hS=> ?_
  refine zsr<|zla (xbx (cs:= [_,_,_]) hS) ?_;rintro _ w ⟨g1,rfl,hS⟩
  refine(zP)<|zlz<|(zP)<|zx5<|(zV (xfb 1 fd_54_1))<|(zV (xlb 0 XF hS))<|(zV (xln YM (hK).row.slh))<|(zP)<|zx6<|zlp (fun mm M w=>∃(s:Int) (i:Int),mm=((t.n-i).toNat)/\(0<=i)/\(i<=t.n)/\(s=VF (fun i=>(t.kid i).nodes) i.toNat)/\M= [(2,.int .i64 0),(3,.int .i64 s),(7,t.vK),(8,.int .i64 t.n),(9,.int .i64 i)]/\Sat w0 w [.blk g1 [.int .i64 t.s,t.vK,t.vL]]) ⟨1,0,rfl,(by omega),(by omega),?_,rfl,hS⟩ ?_
  ·
   rfl
  clear hS w
  rintro mm M w ⟨s,i,rfl,h0,h1,hs9,rfl,hS⟩
  refine zsr<|(zP)<|zx7<|Zf ?_ ?_<;>intro hc
  ·
   refine zx3<|(zV (xix (kk:=3*i) YM (hK).row.slh))<|(zV (xlw (cs:= [.int .i64 ((t.kid i).s),(t.kid i).vK,(t.kid i).vL]) st_54 ((hK).row.below hS.below) (Yl (q:=3*i) (i:=i) _ (by omega))))<|zla (xal (cs:= [_,_,_]) WB hS) ?_;rintro _ w ⟨g2,rfl,hS⟩
   refine zle (xsw 1 st_54 hS (hd:=(Za rfl (Za ((hK).sub (i:=i) (by omega) (by omega)).row.slh.one (Za ((hV).sub (i:=i) (by omega) (by omega)).leaf.row.slh.one Zi))))) ?_;clear hS;rintro w hS
   refine zlt<|zrg<|(zP)<|(zV (xls 1 st_54 hS))<|zlc (xc0 ZiV) (ih i (by omega) (by omega) w (KAt.below hS.below ((hK).sub (i:=i) (by omega) (by omega))) (LvAt.below hS.below ((hV).sub (i:=i) (by omega) (by omega)))) ?_;rintro _ w ⟨rfl,hS'⟩
   replace hS:=hS.cmp hS';clear hS'
   refine(zV Zcp)<|(zP)<|zx10<|(zV (Zh (r:=i+1)))<|(zP)<|zln<|zlq ⟨(IntKind.i64.wrap (s+((t.kid i).nodes))),i+1,rfl,(by omega),(by omega),?_,rfl,hS.pk [0]⟩
   ·
    rw [Ud _ h0,<-hs9]
  refine zx8<|(zP)<|(zP)<|zx1<|zf1 ⟨_,rfl,?_⟩
  obtain rfl:i=t.n:=by omega
  exact⟨by rw [t.nodes_eq,<-hs9],hS.nl⟩
theorem Zf9:∀(t:Tr) (w0:World) (hK:KAt w0 t) (hV:LvAt w0 t),
    Calls Tryz.prog 49 [.agg #[.int .i64 t.s,t.vK,t.vL]].toArray w0 fun e w=>∃v,e= .returned v/\v= .int .i64 t.nodes/\Sat w0 w []:=by
  refine Tr.ind fun t ih=> ?_
  intro w0 hK hV
  have hn:=hK.row.slh.n0;have hn1:=hK.row.slh.n1
  refine zenG Tryz.func49 Tryz.ntmps49 fun w hS=> ?_
  refine zsr<|zla (xbx (cs:= [_,_,_]) hS) ?_;rintro _ w ⟨g1,rfl,hS⟩
  refine(zP)<|zlz<|(zP)<|zx5<|(zP)<|zx6<|zlp (fun mm M w=>∃(s:Int) (i:Int),mm=((t.n-i).toNat)/\(0<=i)/\(i<=t.n)/\(s=VF (fun i=>(t.kid i).nodes) i.toNat)/\M= [(1,.pointer (some ⟨g1,0,none⟩)),(2,.int .i64 0),(3,.int .i64 s),(4,.int .i64 i)]/\Sat w0 w [.blk g1 [.int .i64 t.s,t.vK,t.vL]]) ⟨1,0,rfl,(by omega),(by omega),?_,rfl,hS⟩ ?_
  ·
   rfl
  clear hS w
  rintro mm M w ⟨s,i,rfl,h0,h1,hs9,rfl,hS⟩
  refine zx11<|(zP)<|(zV (xfb 1 fd_45_1))<|(zV (xlb 0 YT hS))<|(zV (xln YS (hK).row.slh))<|(zP)<|zlt<|Zf ?_ ?_<;>intro hc
  ·
   refine zsk<|ztn<|zsq<|zbk<|zrg<|(zP)<|(zV (xfb 1 fd_45_1))<|(zV (xlb 0 YT hS))<|(zP)<|(zV (xix (kk:=3*i) YS (hK).row.slh))<|(zV (xlw (cs:= [.int .i64 ((t.kid i).s),(t.kid i).vK,(t.kid i).vL]) st_45 ((hK).row.below hS.below) (Yl (q:=3*i) (i:=i) _ (by omega))))<|zlc (xc0 Zi6) (ih i (by omega) (by omega) w (KAt.below hS.below ((hK).sub (i:=i) (by omega) (by omega))) (LvAt.below hS.below ((hV).sub (i:=i) (by omega) (by omega)))) ?_;rintro _ w ⟨rfl,hS'⟩
   replace hS:=hS.cmp hS';clear hS'
   refine(zV Zcp)<|(zP)<|zx10<|(zP)<|(zV (Zh (r:=i+1)))<|(zP)<|zln<|zlq ⟨(IntKind.i64.wrap (s+((t.kid i).nodes))),i+1,rfl,(by omega),(by omega),?_,rfl,hS⟩
   ·
    rw [Ud _ h0,<-hs9]
  refine zx8<|(zP)<|(zP)<|zx1<|zf1 ⟨_,rfl,?_⟩
  obtain rfl:i=t.n:=by omega
  exact⟨by rw [t.nodes_eq,<-hs9],hS.nl⟩
theorem Zit:∀(t:Tr) (w0:World) (hK:KAt w0 t) (hV:LvAt w0 t),
    Calls Tryz.prog 100 [.agg #[.int .i64 t.s,t.vK,t.vL]].toArray w0 fun e w=>∃v,e= .returned v/\v= .int .i64 t.depth/\Sat w0 w []:=by
  refine Tr.ind fun t ih=> ?_
  intro w0 hK hV
  have hn:=hK.row.slh.n0;have hn1:=hK.row.slh.n1
  refine zenG Tryz.func100 Tryz.ntmps100 fun w hS=> ?_
  refine zsr<|zla (xbx (cs:= [_,_,_]) hS) ?_;rintro _ w ⟨g1,rfl,hS⟩
  refine(zP)<|zlz<|(zP)<|zx5<|(zV (xfb 1 fd_54_1))<|(zV (xlb 0 XF hS))<|(zV (xln YM (hK).row.slh))<|(zP)<|zx6<|zlp (fun mm M w=>∃(s:Int) (i:Int),mm=((t.n-i).toNat)/\(0<=i)/\(i<=t.n)/\(s=Vg (fun i=>(t.kid i).depth) i.toNat)/\M= [(2,.int .i64 0),(3,.int .i64 s),(7,t.vK),(8,.int .i64 t.n),(9,.int .i64 i)]/\Sat w0 w [.blk g1 [.int .i64 t.s,t.vK,t.vL]]) ⟨0,0,rfl,(by omega),(by omega),?_,rfl,hS⟩ ?_
  ·
   rfl
  clear hS w
  rintro mm M w ⟨s,i,rfl,h0,h1,hs9,rfl,hS⟩
  refine zsr<|(zP)<|zx7<|Zf ?_ ?_<;>intro hc
  ·
   refine zx3<|(zV (xix (kk:=3*i) YM (hK).row.slh))<|(zV (xlw (cs:= [.int .i64 ((t.kid i).s),(t.kid i).vK,(t.kid i).vL]) st_54 ((hK).row.below hS.below) (Yl (q:=3*i) (i:=i) _ (by omega))))<|zla (xal (cs:= [_,_,_]) WB hS) ?_;rintro _ w ⟨g2,rfl,hS⟩
   refine zle (xsw 1 st_54 hS (hd:=(Za rfl (Za ((hK).sub (i:=i) (by omega) (by omega)).row.slh.one (Za ((hV).sub (i:=i) (by omega) (by omega)).leaf.row.slh.one Zi))))) ?_;clear hS;rintro w hS
   refine zlt<|zrg<|(zP)<|(zV (xls 1 st_54 hS))<|zlc (xc0 ZfR) (ih i (by omega) (by omega) w (KAt.below hS.below ((hK).sub (i:=i) (by omega) (by omega))) (LvAt.below hS.below ((hV).sub (i:=i) (by omega) (by omega)))) ?_;rintro _ w ⟨rfl,hS'⟩
   replace hS:=hS.cmp hS';clear hS'
   refine(zV (ZbC (r:=(max s ((t.kid i).depth)))))<|(zP)<|zx10<|(zV (Zh (r:=i+1)))<|(zP)<|zln<|zlq ⟨(max s ((t.kid i).depth)),i+1,rfl,(by omega),(by omega),?_,rfl,hS.pk [0]⟩
   ·
    rw [Uk _ h0,<-hs9]
  refine zx8<|(zP)<|(zV Zcp)<|(zP)<|zx1<|zf1 ⟨_,rfl,?_⟩
  obtain rfl:i=t.n:=by omega
  exact⟨by rw [t.depth_eq,<-hs9],hS.nl⟩
theorem Zgc:∀(t:Tr) (w0:World) (hK:KAt w0 t) (hV:LvAt w0 t),
    Calls Tryz.prog 83 [.agg #[.int .i64 t.s,t.vK,t.vL]].toArray w0 fun e w=>∃v,e= .returned v/\v= .int .i64 t.depth/\Sat w0 w []:=by
  refine Tr.ind fun t ih=> ?_
  intro w0 hK hV
  have hn:=hK.row.slh.n0;have hn1:=hK.row.slh.n1
  refine zenG Tryz.func83 Tryz.ntmps83 fun w hS=> ?_
  refine zsr<|zla (xbx (cs:= [_,_,_]) hS) ?_;rintro _ w ⟨g1,rfl,hS⟩
  refine(zP)<|zlz<|(zP)<|zx5<|(zP)<|zx6<|zlp (fun mm M w=>∃(s:Int) (i:Int),mm=((t.n-i).toNat)/\(0<=i)/\(i<=t.n)/\(s=Vg (fun i=>(t.kid i).depth) i.toNat)/\M= [(1,.pointer (some ⟨g1,0,none⟩)),(2,.int .i64 0),(3,.int .i64 s),(4,.int .i64 i)]/\Sat w0 w [.blk g1 [.int .i64 t.s,t.vK,t.vL]]) ⟨0,0,rfl,(by omega),(by omega),?_,rfl,hS⟩ ?_
  ·
   rfl
  clear hS w
  rintro mm M w ⟨s,i,rfl,h0,h1,hs9,rfl,hS⟩
  refine zx11<|(zP)<|(zV (xfb 1 fd_45_1))<|(zV (xlb 0 YT hS))<|(zV (xln YS (hK).row.slh))<|(zP)<|zlt<|Zf ?_ ?_<;>intro hc
  ·
   refine zsk<|ztn<|zsq<|zbk<|zrg<|(zP)<|(zV (xfb 1 fd_45_1))<|(zV (xlb 0 YT hS))<|(zP)<|(zV (xix (kk:=3*i) YS (hK).row.slh))<|(zV (xlw (cs:= [.int .i64 ((t.kid i).s),(t.kid i).vK,(t.kid i).vL]) st_45 ((hK).row.below hS.below) (Yl (q:=3*i) (i:=i) _ (by omega))))<|zlc (xc0 ZiY) (ih i (by omega) (by omega) w (KAt.below hS.below ((hK).sub (i:=i) (by omega) (by omega))) (LvAt.below hS.below ((hV).sub (i:=i) (by omega) (by omega)))) ?_;rintro _ w ⟨rfl,hS'⟩
   replace hS:=hS.cmp hS';clear hS'
   refine(zV (ZbC (r:=(max s ((t.kid i).depth)))))<|(zP)<|zx10<|(zP)<|(zV (Zh (r:=i+1)))<|(zP)<|zln<|zlq ⟨(max s ((t.kid i).depth)),i+1,rfl,(by omega),(by omega),?_,rfl,hS⟩
   ·
    rw [Uk _ h0,<-hs9]
  refine zx8<|(zP)<|(zV Zcp)<|(zP)<|zx1<|zf1 ⟨_,rfl,?_⟩
  obtain rfl:i=t.n:=by omega
  exact⟨by rw [t.depth_eq,<-hs9],hS.nl⟩
end Go.Proofs.YtkichmnjjblodaaGreat
namespace Go.Proofs.YtkichmnjjblodaaGreat
open Go Go.RowKit Go.Proofs.Gw
variable {x:Int}
theorem ZfF:Zc Tryz.prog 175=true:=by kernel_rfl
theorem ZkQ:Zc Tryz.prog 176=true:=by kernel_rfl
theorem fd_54_0:Zr Tryz.prog 54 0=some 0:=by kernel_rfl
theorem fd_54_2:Zr Tryz.prog 54 2=some 2:=by kernel_rfl
theorem RS(w0:World):
    Calls Tryz.prog 175 [.int .i64 x].toArray w0 fun e w=>∃v,e= .returned v/\v=B (Zo x)/\Sat w0 w []:=by
  refine zenG Tryz.func175 Tryz.ntmps175 fun w hS=> ?_
  refine zsr<|(zP)<|zlz<|(zP)<|(zP)<|(zP)<|zlb 5 ?_ ?_<;>intro hc
  ·
   refine zs4 ?_
   refine zx1<|zf1 ⟨_,rfl,?_⟩
   exact⟨Zk (by unfold Zo;omega),hS⟩
  refine(zO)<|(zO)<|(zP)<|(zP)<|zx1<|zf1 ⟨_,rfl,?_⟩
  exact⟨Ze (by unfold Zo;omega),hS⟩
theorem Wx(w0:World):
    Calls Tryz.prog 120 [.int .i64 x].toArray w0 fun e w=>∃v,e= .returned v/\v=B (Zo x)/\Sat w0 w []:=by
  refine zenG Tryz.func120 Tryz.ntmps120 fun w hS=> ?_
  refine zsr<|(zP)<|zlz<|(zP)<|(zP)<|(zP)<|zlb 5 ?_ ?_<;>intro hc
  ·
   refine zs4 ?_
   refine zx1<|zf1 ⟨_,rfl,?_⟩
   exact⟨Zk (by unfold Zo;omega),hS⟩
  refine(zO)<|(zO)<|(zP)<|(zP)<|zx1<|zf1 ⟨_,rfl,?_⟩
  exact⟨Ze (by unfold Zo;omega),hS⟩
theorem ZlH(w0:World):
    Calls Tryz.prog 176 [.int .i64 x].toArray w0 fun e w=>∃v,e= .returned v/\v=B (¬Zo x)/\Sat w0 w []:=by
  refine zenG Tryz.func176 Tryz.ntmps176 fun w hS=> ?_
  refine zsr<|(zP)<|zlz<|(zP)<|zlc (xc0 ZfF) (RS (x:=x) w) ?_;rintro _ w ⟨rfl,hS'⟩
  replace hS:=hS.cmp hS';clear hS'
  refine(zP)<|(zP)<|zx1<|zf1 ⟨_,rfl,?_⟩
  exact⟨rfl,hS⟩
theorem ZlN{v:Value}{n:Int}{f:Int->Int}(w0:World)(hR:Row w0 v 1 n (ints f)):
    Calls Tryz.prog 159 [v,.func (.func 176) #[] #[]].toArray w0 fun e w=>∃v,e= .returned v/\∃r:Int,v= .int .i64 r/\((r= -1/\∀k,0<=k->k<n->¬(¬Zo (f k)))\/(0<=r/\r<n/\(¬Zo (f r))))/\Sat w0 w []:=by
  have hn:=hR.slh.n0;have hn1:=hR.slh.n1
  refine zenG Tryz.func159 Tryz.ntmps159 fun w hS=> ?_
  refine zsr<|(zP)<|zx5<|(zP)<|(zV (xln Zb hR.slh))<|(zP)<|zx6<|zlp (fun mm M w=>∃(i:Int),mm=((n-i).toNat)/\(0<=i)/\(i<=n)/\(∀k,0<=k->k<i->¬(¬Zo (f k)))/\M= [(0,v),(1,.func (.func 176) #[] #[]),(7,.int .i64 n),(8,.int .i64 i)]/\Sat w0 w []) ⟨0,rfl,(by omega),(by omega),?_,rfl,hS⟩ ?_
  ·
   intro k h0 h1;omega
  clear hS w
  rintro mm M w ⟨i,rfl,h0,h1,qa,rfl,hS⟩
  refine zsr<|(zP)<|zx7<|Zf ?_ ?_<;>intro hc
  ·
   refine zx3<|(zP)<|(zP)<|zlz<|(zP)<|(zP)<|(zP)<|(zV (xix (kk:=i) Zb hR.slh))<|(zV (xlr (u:= .int .i64 (f i)) pl_3 (hR.below hS.below)))<|zlc (xc0 ZkQ) (ZlH (x:=(f i)) w) ?_;rintro _ w ⟨rfl,hS'⟩
   replace hS:=hS.cmp hS';clear hS'
   refine zlt<|Zf ?_ ?_<;>intro hc
   ·
    refine zsr<|(zP)<|(zP)<|zx2<|zf1 ⟨_,rfl,?_⟩
    exact⟨i,rfl,.inr ⟨by omega,by omega,‹¬Zo (f i)›⟩,hS⟩
   refine zx4<|(zV (Zh (r:=i+1)))<|(zP)<|zln<|zlq ⟨i+1,rfl,(by omega),(by omega),?_,rfl,hS⟩
   ·
    intro k h0' h1';rcases Int.lt_or_eq_of_le (show k<=i by omega) with hk|hk;exact qa k h0' hk;rw [hk];assumption
  refine zx8<|(zP)<|zx1<|zf1 ⟨_,rfl,?_⟩
  exact⟨-1,rfl,.inl ⟨rfl,fun k h0 h1=>qa k h0 (by omega)⟩,hS⟩
theorem Zl1{v:Value}{n:Int}{f:Int->Int}(w0:World)(hR:Row w0 v 1 n (ints f)):
    Calls Tryz.prog 151 [v,.func (.func 176) #[] #[]].toArray w0 fun e w=>∃v,e= .returned v/\v=B (∃k,0<=k/\k<n/\¬Zo (f k))/\Sat w0 w []:=by
  refine zenG Tryz.func151 Tryz.ntmps151 fun w hS=> ?_
  refine zsr<|(zP)<|zlz<|(zP)<|(zP)<|zlc (xc0 WO) (ZlN (n:=n) (f:=f) w (hR.below hS.below)) ?_;rintro _ w ⟨r1,rfl,hr1,hS'⟩
  replace hS:=hS.cmp hS';clear hS'
  refine(zP)<|(zP)<|zx1<|zf1 ⟨_,rfl,?_⟩
  exact⟨Zk (by
   rcases hr1 with⟨h1,h2⟩|⟨h1,h2,h3⟩
   · exact⟨fun h=>by omega,fun⟨k,h4,h5,h6⟩=>absurd h6 (h2 k h4 h5)⟩
   · exact⟨fun _=>⟨_,h1,h2,h3⟩,fun _=>h1⟩),hS⟩
theorem ZlG{t:Tr}(w0:World)(hK:KAt w0 t)(hV:LvAt w0 t):
    Calls Tryz.prog 138 [.agg #[.int .i64 t.s,t.vK,t.vL]].toArray w0 fun e w=>∃v,e= .returned v/\v=B (OkN t)/\Sat w0 w []:=by
  have hn:=hK.row.slh.n0;have hn1:=hK.row.slh.n1;have hln:=hV.leaf.row.slh.n0;have xU:=hV.leaf.row.slh.n1
  refine zenG Tryz.func138 Tryz.ntmps138 fun w hS=> ?_
  refine zsr<|zla (xbx (cs:= [_,_,_]) hS) ?_;rintro _ w ⟨g1,rfl,hS⟩
  refine(zP)<|zx5<|(zV (xfb 1 fd_54_1))<|(zV (xlb 0 XF hS))<|(zV (xln YM (hK).row.slh))<|(zP)<|zlt<|Zf ?_ ?_<;>intro hc
  ·
   refine zsr<|(zV (xfb 2 fd_54_2))<|(zV (xlb 0 pl_22 hS))<|(zV (xln Zb (hV).leaf.row.slh))<|(zP)<|(zP)<|zlb 11 ?_ ?_<;>intro hc
   ·
    refine(zV (xfb 1 fd_54_1))<|(zV (xlb 0 XF hS))<|(zV (xln YM (hK).row.slh))<|(zP)<|(zP)<|(zP)<|zlb 17 ?_ ?_<;>intro hc
    ·
     refine(zV (xfb 0 fd_54_0))<|(zV (xlb 0 pl_3 hS))<|zlc (xc0 ZfF) (RS (x:=t.s) w) ?_;rintro _ w ⟨rfl,hS'⟩
     replace hS:=hS.cmp hS';clear hS'
     refine(zP)<|(zP)<|zx14<|zf1 ⟨_,rfl,?_⟩
     exact⟨Zk ⟨fun hh=>⟨by first|assumption|(unfold Zo;omega),by omega,by omega,by omega,fun h0=>by omega,fun k k0 k1=>by first|omega|exact Classical.byContradiction fun h9=>absurd (show∃k,0<=k/\k<t.nl/\¬Zo (t.l k) from⟨k,k0,k1,h9⟩) (by assumption)⟩,fun hh=>by obtain⟨h1,h2,h3,h4,h5,h6⟩:=hh;first|exact h1|exact fun⟨k,k0,k1,k2⟩=>k2 (h6 k k0 k1)|omega⟩,hS.nl⟩
    iterate 3 refine zlo ?_
    refine(zP)<|(zP)<|zx14<|zf1 ⟨_,rfl,?_⟩
    exact⟨Ze (by rintro⟨h1,h2,h3,h4,h5,h6⟩;first|omega|(have:=h5 (by omega);omega)|exact absurd h1 ‹¬Zo t.s›|(obtain⟨k,k0,k1,k2⟩:=‹∃k,0<=k/\k<t.nl/\¬Zo (t.l k)›;exact k2 (h6 k k0 k1))),hS.nl⟩
   iterate 4 refine zlo ?_
   refine zs2 ?_
   iterate 3 refine zlo ?_
   refine(zP)<|(zP)<|zx14<|zf1 ⟨_,rfl,?_⟩
   exact⟨Ze (by rintro⟨h1,h2,h3,h4,h5,h6⟩;first|omega|(have:=h5 (by omega);omega)|exact absurd h1 ‹¬Zo t.s›|(obtain⟨k,k0,k1,k2⟩:=‹∃k,0<=k/\k<t.nl/\¬Zo (t.l k)›;exact k2 (h6 k k0 k1))),hS.nl⟩
  refine ZT<|(zV (xfb 0 fd_54_0))<|(zV (xlb 0 pl_3 hS))<|(zP)<|(zP)<|zlb 25 ?_ ?_<;>intro hc
  ·
   refine(zV (xfb 2 fd_54_2))<|(zV (xlb 0 pl_22 hS))<|(zV (xln Zb (hV).leaf.row.slh))<|(zP)<|(zP)<|(zP)<|zlb 31 ?_ ?_<;>intro hc
   ·
    refine(zV (xfb 2 fd_54_2))<|(zV (xlb 0 pl_22 hS))<|zlc (xc0 WP) (Zl1 (n:=t.nl) (f:=t.l) w ((hV).leaf.row.below hS.below)) ?_;rintro _ w ⟨rfl,hS'⟩
    replace hS:=hS.cmp hS';clear hS'
    refine(zP)<|(zP)<|(zP)<|zx1<|zf1 ⟨_,rfl,?_⟩
    exact⟨Zk ⟨fun hh=>⟨by first|assumption|(unfold Zo;omega),by omega,by omega,by omega,fun h0=>by omega,fun k k0 k1=>by first|omega|exact Classical.byContradiction fun h9=>absurd (show∃k,0<=k/\k<t.nl/\¬Zo (t.l k) from⟨k,k0,k1,h9⟩) (by assumption)⟩,fun hh=>by obtain⟨h1,h2,h3,h4,h5,h6⟩:=hh;first|exact h1|exact fun⟨k,k0,k1,k2⟩=>k2 (h6 k k0 k1)|omega⟩,hS.nl⟩
   iterate 4 refine zlo ?_
   refine(zP)<|(zP)<|zx1<|zf1 ⟨_,rfl,?_⟩
   exact⟨Ze (by rintro⟨h1,h2,h3,h4,h5,h6⟩;first|omega|(have:=h5 (by omega);omega)|exact absurd h1 ‹¬Zo t.s›|(obtain⟨k,k0,k1,k2⟩:=‹∃k,0<=k/\k<t.nl/\¬Zo (t.l k)›;exact k2 (h6 k k0 k1))),hS.nl⟩
  iterate 4 refine zlo ?_
  refine zs2 ?_
  iterate 4 refine zlo ?_
  refine(zP)<|(zP)<|zx1<|zf1 ⟨_,rfl,?_⟩
  exact⟨Ze (by rintro⟨h1,h2,h3,h4,h5,h6⟩;first|omega|(have:=h5 (by omega);omega)|exact absurd h1 ‹¬Zo t.s›|(obtain⟨k,k0,k1,k2⟩:=‹∃k,0<=k/\k<t.nl/\¬Zo (t.l k)›;exact k2 (h6 k k0 k1))),hS.nl⟩
end Go.Proofs.YtkichmnjjblodaaGreat
namespace Go.Proofs.YtkichmnjjblodaaGreat
open Go Go.RowKit Go.Proofs.Gw
theorem KP:Zc Tryz.prog 120=true:=by kernel_rfl
theorem Zc3:Zc Tryz.prog 82=true:=by kernel_rfl
theorem fd_45_0:Zr Tryz.prog 45 0=some 0:=by kernel_rfl
theorem fd_45_2:Zr Tryz.prog 45 2=some 2:=by kernel_rfl
theorem Zcj:∀(t:Tr) (w0:World) (hK:KAt w0 t) (hV:LvAt w0 t),
    Calls Tryz.prog 82 [.agg #[.int .i64 t.s,t.vK,t.vL]].toArray w0 fun e w=>∃v,e= .returned v/\v=B t.ok/\Sat w0 w []:=by
  refine Tr.ind fun t ih=> ?_
  intro w0 hK hV
  have hn:=hK.row.slh.n0;have hn1:=hK.row.slh.n1;have hln:=hV.leaf.row.slh.n0;have xU:=hV.leaf.row.slh.n1
  refine zenG Tryz.func82 Tryz.ntmps82 fun w hS=> ?_
  refine zsr<|zla (xbx (cs:= [_,_,_]) hS) ?_;rintro _ w ⟨g1,rfl,hS⟩
  refine(zP)<|zx5<|(zV (xfb 0 fd_45_0))<|(zV (xlb 0 pl_3 hS))<|zlc (xc0 KP) (Wx (x:=t.s) w) ?_;rintro _ w ⟨rfl,hS'⟩
  replace hS:=hS.cmp hS';clear hS'
  refine(zP)<|(zP)<|zlb 9 ?_ ?_<;>intro hc;rotate_left
  refine(zV (xfb 1 fd_45_1))<|(zV (xlb 0 YT hS))<|(zV (xln YS (hK).row.slh))<|(zP)<|(zP)<|(zP)<|zlb 15 ?_ ?_<;>intro hc;rotate_left
  refine(zV (xfb 2 fd_45_2))<|(zV (xlb 0 pl_22 hS))<|(zV (xln Zb (hV).leaf.row.slh))<|(zP)<|(zP)<|(zP)<|zlb 21 ?_ ?_<;>intro hc;rotate_left
  refine(zV (xfb 1 fd_45_1))<|(zV (xlb 0 YT hS))<|(zV (xln YS (hK).row.slh))<|(zP)<|(zP)<|zlb 26 ?_ ?_<;>intro hc
  ·
   refine(zV (xfb 2 fd_45_2))<|(zV (xlb 0 pl_22 hS))<|(zV (xln Zb (hV).leaf.row.slh))<|zs4 ?_
   refine zlb 33 ?_ ?_<;>intro hc
   ·
    iterate 9 refine zlo ?_
    refine(zP)<|zlt<|zct<|zsr ?_
    refine(zP)<|zx14<|zf1 ⟨_,rfl,?_⟩
    exact⟨Ze (by rw [t.ok_iff];rintro⟨⟨h1,h2,h3,h4,h5,h6⟩,h7⟩;first|omega|(have:=h5 (by omega);omega)|exact absurd h1 ‹¬Zo t.s›|exact absurd (h6 i h0 (by omega)) ‹¬Zo (t.l i)›|exact absurd (h7 j j0 (by omega)) ‹¬(t.kid j).ok›),hS.nl⟩
   refine(zV (xfb 1 fd_45_1))<|(zV (xlb 0 YT hS))<|(zV (xln YS (hK).row.slh))<|(zV (xkf YJ))<|zlv xmv ?_
   iterate 3 refine zlo ?_
   refine(zP)<|(zP)<|zlt<|zcf<|zsk<|ztn<|zsq<|zsr ?_
   refine(zP)<|zx6<|zlp (fun mm M w=>∃(i:Int),mm=((t.nl-i).toNat)/\(0<=i)/\(i<=t.nl)/\(∀k,0<=k->k<i->Zo (t.l k))/\M= [(1,.pointer (some ⟨g1,0,none⟩)),(3,.int .i64 i)]/\Sat w0 w [.blk g1 [.int .i64 t.s,t.vK,t.vL]]) ⟨0,rfl,(by omega),(by omega),?_,rfl,hS⟩ ?_
   ·
    intro k k0 k1;omega
   clear hS w
   rintro mm M w ⟨i,rfl,h0,h1,qa,rfl,hS⟩
   refine zx11<|(zP)<|(zV (xfb 2 fd_45_2))<|(zV (xlb 0 pl_22 hS))<|(zV (xln Zb (hV).leaf.row.slh))<|(zP)<|zlt<|Zf ?_ ?_<;>intro hc
   ·
    refine zx3<|(zV (xfb 2 fd_45_2))<|(zV (xlb 0 pl_22 hS))<|(zP)<|(zV (xix (kk:=i) Zb (hV).leaf.row.slh))<|zlv (xlr (u:= .int .i64 (t.l i)) pl_3 ((hV).leaf.row.below hS.below)) ?_
    have hbv:=(hV).leaf.i i
    refine zlc (xc0 KP) (Wx (x:=(t.l i)) w) ?_;rintro _ w ⟨rfl,hS'⟩
    replace hS:=hS.cmp hS';clear hS'
    refine(zP)<|zlt<|Zf ?_ ?_<;>intro hc
    ·
     refine zsr<|(zP)<|zx2<|zf1 ⟨_,rfl,?_⟩
     exact⟨Ze (by rw [t.ok_iff];rintro⟨⟨h1,h2,h3,h4,h5,h6⟩,h7⟩;first|omega|(have:=h5 (by omega);omega)|exact absurd h1 ‹¬Zo t.s›|exact absurd (h6 i h0 (by omega)) ‹¬Zo (t.l i)›|exact absurd (h7 j j0 (by omega)) ‹¬(t.kid j).ok›),hS.nl⟩
    refine zx4<|(zP)<|(zV (Zh (r:=i+1)))<|(zP)<|zln<|zlq ⟨i+1,rfl,(by omega),(by omega),?_,rfl,hS⟩
    ·
     intro k k0 k1;rcases Int.lt_or_eq_of_le (show k<=i by omega) with hk|hk
     · exact qa k k0 hk
     · rw [hk];exact Classical.not_not.1 ‹¬¬Zo (t.l i)›
   refine zx18<|(zP)<|zx6<|zlp (fun mm M w=>∃(j:Int),mm=((t.n-j).toNat)/\(0<=j)/\(j<=t.n)/\(∀k,0<=k->k<j->(t.kid k).ok)/\M= [(1,.pointer (some ⟨g1,0,none⟩)),(4,.int .i64 j)]/\Sat w0 w [.blk g1 [.int .i64 t.s,t.vK,t.vL]]) ⟨0,rfl,(by omega),(by omega),?_,rfl,hS⟩ ?_
   ·
    intro k k0 k1;omega
   clear hS w
   rintro mm M w ⟨j,rfl,j0,j1,hkd,rfl,hS⟩
   refine zx11<|(zP)<|(zV (xfb 1 fd_45_1))<|(zV (xlb 0 YT hS))<|(zV (xln YS (hK).row.slh))<|(zP)<|zlt<|Zf ?_ ?_<;>intro hc
   ·
    refine zx3<|(zV (xfb 1 fd_45_1))<|(zV (xlb 0 YT hS))<|(zP)<|(zV (xix (kk:=3*j) YS (hK).row.slh))<|(zV (xlw (cs:= [.int .i64 ((t.kid j).s),(t.kid j).vK,(t.kid j).vL]) st_45 ((hK).row.below hS.below) (Yl (q:=3*j) (i:=j) _ (by omega))))<|zlc (xc0 Zc3) (ih j (by omega) (by omega) w (KAt.below hS.below ((hK).sub (i:=j) (by omega) (by omega))) (LvAt.below hS.below ((hV).sub (i:=j) (by omega) (by omega)))) ?_;rintro _ w ⟨rfl,hS'⟩
    replace hS:=hS.cmp hS';clear hS'
    refine(zP)<|zlt<|Zf ?_ ?_<;>intro hc
    ·
     refine zsr<|(zP)<|zx2<|zf1 ⟨_,rfl,?_⟩
     exact⟨Ze (by rw [t.ok_iff];rintro⟨⟨h1,h2,h3,h4,h5,h6⟩,h7⟩;first|omega|(have:=h5 (by omega);omega)|exact absurd h1 ‹¬Zo t.s›|exact absurd (h6 i h0 (by omega)) ‹¬Zo (t.l i)›|exact absurd (h7 j j0 (by omega)) ‹¬(t.kid j).ok›),hS.nl⟩
    refine zx4<|(zP)<|(zV (Zh (r:=j+1)))<|(zP)<|zln<|zlq ⟨j+1,rfl,(by omega),(by omega),?_,rfl,hS⟩
    ·
     intro k k0 k1;rcases Int.lt_or_eq_of_le (show k<=j by omega) with hk|hk
     · exact hkd k k0 hk
     · rw [hk];exact Classical.not_not.1 ‹¬¬(t.kid j).ok›
   refine zx8<|(zP)<|zx1<|zf1 ⟨_,rfl,?_⟩
   exact⟨Z7 ((t.ok_iff).2 ⟨⟨Classical.not_not.1 ‹¬¬Zo t.s›,by omega,by omega,by omega,fun h0=>by omega,fun k k0 k1=>qa k k0 (by omega)⟩,fun k k0 k1=>hkd k k0 (by omega)⟩),hS.nl⟩
  iterate 4 refine zlo ?_
  refine(zP)<|(zP)<|(zP)<|(zV (xfb 1 fd_45_1))<|(zV (xlb 0 YT hS))<|(zV (xln YS (hK).row.slh))<|(zP)<|(zP)<|zlb 38 ?_ ?_<;>intro hc
  ·
   refine(zV (xfb 0 fd_45_0))<|(zV (xlb 0 pl_3 hS))<|(zP)<|(zP)<|(zP)<|zlt<|Zf ?_ ?_<;>intro hc
   ·
    refine zsr<|(zP)<|zx14<|zf1 ⟨_,rfl,?_⟩
    exact⟨Ze (by rw [t.ok_iff];rintro⟨⟨h1,h2,h3,h4,h5,h6⟩,h7⟩;first|omega|(have:=h5 (by omega);omega)|exact absurd h1 ‹¬Zo t.s›|exact absurd (h6 i h0 (by omega)) ‹¬Zo (t.l i)›|exact absurd (h7 j j0 (by omega)) ‹¬(t.kid j).ok›),hS.nl⟩
   refine YL<|(zP)<|zx6<|zlp (fun mm M w=>∃(i:Int),mm=((t.nl-i).toNat)/\(0<=i)/\(i<=t.nl)/\(∀k,0<=k->k<i->Zo (t.l k))/\M= [(1,.pointer (some ⟨g1,0,none⟩)),(3,.int .i64 i)]/\Sat w0 w [.blk g1 [.int .i64 t.s,t.vK,t.vL]]) ⟨0,rfl,(by omega),(by omega),?_,rfl,hS⟩ ?_
   ·
    intro k k0 k1;omega
   clear hS w
   rintro mm M w ⟨i,rfl,h0,h1,qa,rfl,hS⟩
   refine zx11<|(zP)<|(zV (xfb 2 fd_45_2))<|(zV (xlb 0 pl_22 hS))<|(zV (xln Zb (hV).leaf.row.slh))<|(zP)<|zlt<|Zf ?_ ?_<;>intro hc
   ·
    refine zx3<|(zV (xfb 2 fd_45_2))<|(zV (xlb 0 pl_22 hS))<|(zP)<|(zV (xix (kk:=i) Zb (hV).leaf.row.slh))<|zlv (xlr (u:= .int .i64 (t.l i)) pl_3 ((hV).leaf.row.below hS.below)) ?_
    have hbv:=(hV).leaf.i i
    refine zlc (xc0 KP) (Wx (x:=(t.l i)) w) ?_;rintro _ w ⟨rfl,hS'⟩
    replace hS:=hS.cmp hS';clear hS'
    refine(zP)<|zlt<|Zf ?_ ?_<;>intro hc
    ·
     refine zsr<|(zP)<|zx2<|zf1 ⟨_,rfl,?_⟩
     exact⟨Ze (by rw [t.ok_iff];rintro⟨⟨h1,h2,h3,h4,h5,h6⟩,h7⟩;first|omega|(have:=h5 (by omega);omega)|exact absurd h1 ‹¬Zo t.s›|exact absurd (h6 i h0 (by omega)) ‹¬Zo (t.l i)›|exact absurd (h7 j j0 (by omega)) ‹¬(t.kid j).ok›),hS.nl⟩
    refine zx4<|(zP)<|(zV (Zh (r:=i+1)))<|(zP)<|zln<|zlq ⟨i+1,rfl,(by omega),(by omega),?_,rfl,hS⟩
    ·
     intro k k0 k1;rcases Int.lt_or_eq_of_le (show k<=i by omega) with hk|hk
     · exact qa k k0 hk
     · rw [hk];exact Classical.not_not.1 ‹¬¬Zo (t.l i)›
   refine zx18<|(zP)<|zx6<|zlp (fun mm M w=>∃(j:Int),mm=((t.n-j).toNat)/\(0<=j)/\(j<=t.n)/\(∀k,0<=k->k<j->(t.kid k).ok)/\M= [(1,.pointer (some ⟨g1,0,none⟩)),(4,.int .i64 j)]/\Sat w0 w [.blk g1 [.int .i64 t.s,t.vK,t.vL]]) ⟨0,rfl,(by omega),(by omega),?_,rfl,hS⟩ ?_
   ·
    intro k k0 k1;omega
   clear hS w
   rintro mm M w ⟨j,rfl,j0,j1,hkd,rfl,hS⟩
   refine zx11<|(zP)<|(zV (xfb 1 fd_45_1))<|(zV (xlb 0 YT hS))<|(zV (xln YS (hK).row.slh))<|(zP)<|zlt<|Zf ?_ ?_<;>intro hc
   ·
    refine zx3<|(zV (xfb 1 fd_45_1))<|(zV (xlb 0 YT hS))<|(zP)<|(zV (xix (kk:=3*j) YS (hK).row.slh))<|(zV (xlw (cs:= [.int .i64 ((t.kid j).s),(t.kid j).vK,(t.kid j).vL]) st_45 ((hK).row.below hS.below) (Yl (q:=3*j) (i:=j) _ (by omega))))<|zlc (xc0 Zc3) (ih j (by omega) (by omega) w (KAt.below hS.below ((hK).sub (i:=j) (by omega) (by omega))) (LvAt.below hS.below ((hV).sub (i:=j) (by omega) (by omega)))) ?_;rintro _ w ⟨rfl,hS'⟩
    replace hS:=hS.cmp hS';clear hS'
    refine(zP)<|zlt<|Zf ?_ ?_<;>intro hc
    ·
     refine zsr<|(zP)<|zx2<|zf1 ⟨_,rfl,?_⟩
     exact⟨Ze (by rw [t.ok_iff];rintro⟨⟨h1,h2,h3,h4,h5,h6⟩,h7⟩;first|omega|(have:=h5 (by omega);omega)|exact absurd h1 ‹¬Zo t.s›|exact absurd (h6 i h0 (by omega)) ‹¬Zo (t.l i)›|exact absurd (h7 j j0 (by omega)) ‹¬(t.kid j).ok›),hS.nl⟩
    refine zx4<|(zP)<|(zV (Zh (r:=j+1)))<|(zP)<|zln<|zlq ⟨j+1,rfl,(by omega),(by omega),?_,rfl,hS⟩
    ·
     intro k k0 k1;rcases Int.lt_or_eq_of_le (show k<=j by omega) with hk|hk
     · exact hkd k k0 hk
     · rw [hk];exact Classical.not_not.1 ‹¬¬(t.kid j).ok›
   refine zx8<|(zP)<|zx1<|zf1 ⟨_,rfl,?_⟩
   exact⟨Z7 ((t.ok_iff).2 ⟨⟨Classical.not_not.1 ‹¬¬Zo t.s›,by omega,by omega,by omega,fun h0=>by omega,fun k k0 k1=>qa k k0 (by omega)⟩,fun k k0 k1=>hkd k k0 (by omega)⟩),hS.nl⟩
  iterate 3 refine zlo ?_
  refine(zP)<|(zP)<|zlt<|zcf<|zsk<|ztn<|zsq<|zsr ?_
  refine(zP)<|zx6<|zlp (fun mm M w=>∃(i:Int),mm=((t.nl-i).toNat)/\(0<=i)/\(i<=t.nl)/\(∀k,0<=k->k<i->Zo (t.l k))/\M= [(1,.pointer (some ⟨g1,0,none⟩)),(3,.int .i64 i)]/\Sat w0 w [.blk g1 [.int .i64 t.s,t.vK,t.vL]]) ⟨0,rfl,(by omega),(by omega),?_,rfl,hS⟩ ?_
  ·
   intro k k0 k1;omega
  clear hS w
  rintro mm M w ⟨i,rfl,h0,h1,qa,rfl,hS⟩
  refine zx11<|(zP)<|(zV (xfb 2 fd_45_2))<|(zV (xlb 0 pl_22 hS))<|(zV (xln Zb (hV).leaf.row.slh))<|(zP)<|zlt<|Zf ?_ ?_<;>intro hc
  ·
   refine zx3<|(zV (xfb 2 fd_45_2))<|(zV (xlb 0 pl_22 hS))<|(zP)<|(zV (xix (kk:=i) Zb (hV).leaf.row.slh))<|zlv (xlr (u:= .int .i64 (t.l i)) pl_3 ((hV).leaf.row.below hS.below)) ?_
   have hbv:=(hV).leaf.i i
   refine zlc (xc0 KP) (Wx (x:=(t.l i)) w) ?_;rintro _ w ⟨rfl,hS'⟩
   replace hS:=hS.cmp hS';clear hS'
   refine(zP)<|zlt<|Zf ?_ ?_<;>intro hc
   ·
    refine zsr<|(zP)<|zx2<|zf1 ⟨_,rfl,?_⟩
    exact⟨Ze (by rw [t.ok_iff];rintro⟨⟨h1,h2,h3,h4,h5,h6⟩,h7⟩;first|omega|(have:=h5 (by omega);omega)|exact absurd h1 ‹¬Zo t.s›|exact absurd (h6 i h0 (by omega)) ‹¬Zo (t.l i)›|exact absurd (h7 j j0 (by omega)) ‹¬(t.kid j).ok›),hS.nl⟩
   refine zx4<|(zP)<|(zV (Zh (r:=i+1)))<|(zP)<|zln<|zlq ⟨i+1,rfl,(by omega),(by omega),?_,rfl,hS⟩
   ·
    intro k k0 k1;rcases Int.lt_or_eq_of_le (show k<=i by omega) with hk|hk
    · exact qa k k0 hk
    · rw [hk];exact Classical.not_not.1 ‹¬¬Zo (t.l i)›
  refine zx18<|(zP)<|zx6<|zlp (fun mm M w=>∃(j:Int),mm=((t.n-j).toNat)/\(0<=j)/\(j<=t.n)/\(∀k,0<=k->k<j->(t.kid k).ok)/\M= [(1,.pointer (some ⟨g1,0,none⟩)),(4,.int .i64 j)]/\Sat w0 w [.blk g1 [.int .i64 t.s,t.vK,t.vL]]) ⟨0,rfl,(by omega),(by omega),?_,rfl,hS⟩ ?_
  ·
   intro k k0 k1;omega
  clear hS w
  rintro mm M w ⟨j,rfl,j0,j1,hkd,rfl,hS⟩
  refine zx11<|(zP)<|(zV (xfb 1 fd_45_1))<|(zV (xlb 0 YT hS))<|(zV (xln YS (hK).row.slh))<|(zP)<|zlt<|Zf ?_ ?_<;>intro hc
  ·
   refine zx3<|(zV (xfb 1 fd_45_1))<|(zV (xlb 0 YT hS))<|(zP)<|(zV (xix (kk:=3*j) YS (hK).row.slh))<|(zV (xlw (cs:= [.int .i64 ((t.kid j).s),(t.kid j).vK,(t.kid j).vL]) st_45 ((hK).row.below hS.below) (Yl (q:=3*j) (i:=j) _ (by omega))))<|zlc (xc0 Zc3) (ih j (by omega) (by omega) w (KAt.below hS.below ((hK).sub (i:=j) (by omega) (by omega))) (LvAt.below hS.below ((hV).sub (i:=j) (by omega) (by omega)))) ?_;rintro _ w ⟨rfl,hS'⟩
   replace hS:=hS.cmp hS';clear hS'
   refine(zP)<|zlt<|Zf ?_ ?_<;>intro hc
   ·
    refine zsr<|(zP)<|zx2<|zf1 ⟨_,rfl,?_⟩
    exact⟨Ze (by rw [t.ok_iff];rintro⟨⟨h1,h2,h3,h4,h5,h6⟩,h7⟩;first|omega|(have:=h5 (by omega);omega)|exact absurd h1 ‹¬Zo t.s›|exact absurd (h6 i h0 (by omega)) ‹¬Zo (t.l i)›|exact absurd (h7 j j0 (by omega)) ‹¬(t.kid j).ok›),hS.nl⟩
   refine zx4<|(zP)<|(zV (Zh (r:=j+1)))<|(zP)<|zln<|zlq ⟨j+1,rfl,(by omega),(by omega),?_,rfl,hS⟩
   ·
    intro k k0 k1;rcases Int.lt_or_eq_of_le (show k<=j by omega) with hk|hk
    · exact hkd k k0 hk
    · rw [hk];exact Classical.not_not.1 ‹¬¬(t.kid j).ok›
  refine zx8<|(zP)<|zx1<|zf1 ⟨_,rfl,?_⟩
  exact⟨Z7 ((t.ok_iff).2 ⟨⟨Classical.not_not.1 ‹¬¬Zo t.s›,by omega,by omega,by omega,fun h0=>by omega,fun k k0 k1=>qa k k0 (by omega)⟩,fun k k0 k1=>hkd k k0 (by omega)⟩),hS.nl⟩
  all_goals
   refine zOps ?_
   refine zlt<|zct<|zsr ?_
   refine zOps ?_
   refine zx14<|zf1 ⟨_,rfl,?_⟩
   exact⟨Ze (by rw [t.ok_iff];rintro⟨⟨h1,h2,h3,h4,h5,h6⟩,h7⟩;first|omega|(have:=h5 (by omega);omega)|exact absurd h1 ‹¬Zo t.s›|exact absurd (h6 i h0 (by omega)) ‹¬Zo (t.l i)›|exact absurd (h7 j j0 (by omega)) ‹¬(t.kid j).ok›),hS.nl⟩
end Go.Proofs.YtkichmnjjblodaaGreat
namespace Go.Proofs.YtkichmnjjblodaaGreat
open Go Go.RowKit Go.Proofs.Gw
theorem ZfQ:Zc Tryz.prog 101=true:=by kernel_rfl
theorem Zlb:Zc Tryz.prog 138=true:=by kernel_rfl
theorem Zla:Zc Tryz.prog 139=true:=by kernel_rfl
theorem Zk9:Zc Tryz.prog 140=true:=by kernel_rfl
theorem ZkP:Zc Tryz.prog 177=true:=by kernel_rfl
theorem Znw{t:Tr}(w0:World)(hK:KAt w0 t)(hV:LvAt w0 t)(hal:∀(w0:World),KAt w0 t->LvAt w0 t->Calls Tryz.prog 101 [.agg #[.int .i64 t.s,t.vK,t.vL]].toArray w0 fun e w=>∃v,e= .returned v/\v=B t.ok/\Sat w0 w []):
    Calls Tryz.prog 140 [.agg #[.int .i64 t.s,t.vK,t.vL]].toArray w0 fun e w=>∃v,e= .returned v/\v=B (¬t.ok)/\Sat w0 w []:=by
  refine zenG Tryz.func140 Tryz.ntmps140 fun w hS=> ?_
  refine zsr<|zla (xbx (cs:= [_,_,_]) hS) ?_;rintro _ w ⟨g1,rfl,hS⟩
  refine(zP)<|zlz<|(zV (xls 0 st_54 hS))<|zlc (xc0 ZfQ) (hal w (KAt.below hS.below (hK)) (LvAt.below hS.below (hV))) ?_;rintro _ w ⟨rfl,hS'⟩
  replace hS:=hS.cmp hS';clear hS'
  refine(zP)<|(zP)<|zx1<|zf1 ⟨_,rfl,?_⟩
  exact⟨rfl,hS.nl⟩
theorem ZlU{t:Tr}(w0:World)(hK:KAt w0 t)(hV:LvAt w0 t)(iha:∀i,0<=i->i<t.n->∀(w0:World),KAt w0 (t.kid i)->LvAt w0 (t.kid i)->Calls Tryz.prog 101 [.agg #[.int .i64 (t.kid i).s,(t.kid i).vK,(t.kid i).vL]].toArray w0 fun e w=>∃v,e= .returned v/\v=B (t.kid i).ok/\Sat w0 w []):
    Calls Tryz.prog 177 [t.vK,.func (.func 140) #[] #[]].toArray w0 fun e w=>∃v,e= .returned v/\∃r:Int,v= .int .i64 r/\((r= -1/\∀k,0<=k->k<t.n->(t.kid k).ok)\/(0<=r/\r<t.n/\¬(t.kid r).ok))/\Sat w0 w []:=by
  have hn:=hK.row.slh.n0;have hn1:=hK.row.slh.n1;have hln:=hV.leaf.row.slh.n0;have xU:=hV.leaf.row.slh.n1
  refine zenG Tryz.func177 Tryz.ntmps177 fun w hS=> ?_
  refine zsr<|(zP)<|zx5<|(zP)<|(zV (xln YM (hK).row.slh))<|(zP)<|zx6<|zlp (fun mm M w=>∃(i:Int),mm=((t.n-i).toNat)/\(0<=i)/\(i<=t.n)/\(∀k,0<=k->k<i->(t.kid k).ok)/\M= [(0,t.vK),(1,.func (.func 140) #[] #[]),(7,.int .i64 t.n),(8,.int .i64 i)]/\Sat w0 w []) ⟨0,rfl,(by omega),(by omega),?_,rfl,hS⟩ ?_
  ·
   intro k h0 h1;omega
  clear hS w
  rintro mm M w ⟨i,rfl,h0,h1,qa,rfl,hS⟩
  refine zsr<|(zP)<|zx7<|Zf ?_ ?_<;>intro hc
  ·
   refine zx3<|(zP)<|(zP)<|zlz<|(zP)<|(zP)<|(zP)<|(zV (xix (kk:=3*i) YM (hK).row.slh))<|(zV (xlw (cs:= [.int .i64 ((t.kid i).s),(t.kid i).vK,(t.kid i).vL]) st_54 ((hK).row.below hS.below) (Yl (q:=3*i) (i:=i) _ (by omega))))<|zlc (xc0 Zk9) (Znw (t:=(t.kid i)) w (KAt.below hS.below ((hK).sub (i:=i) (by omega) (by omega))) (LvAt.below hS.below ((hV).sub (i:=i) (by omega) (by omega))) (iha i (by omega) (by omega))) ?_;rintro _ w ⟨rfl,hS'⟩
   replace hS:=hS.cmp hS';clear hS'
   refine zlt<|Zf ?_ ?_<;>intro hc
   ·
    refine zsr<|(zP)<|(zP)<|zx2<|zf1 ⟨_,rfl,?_⟩
    exact⟨i,rfl,.inr ⟨by omega,by omega,‹¬(t.kid i).ok›⟩,hS⟩
   refine zx4<|(zV (Zh (r:=i+1)))<|(zP)<|zln<|zlq ⟨i+1,rfl,(by omega),(by omega),?_,rfl,hS⟩
   ·
    intro k k0 k1;rcases Int.lt_or_eq_of_le (show k<=i by omega) with hk|hk
    · exact qa k k0 hk
    · rw [hk];exact Classical.not_not.1 ‹_›
  refine zx8<|(zP)<|zx1<|zf1 ⟨_,rfl,?_⟩
  exact⟨-1,rfl,.inl ⟨rfl,fun k h0 h1=>qa k h0 (by omega)⟩,hS⟩
theorem Zl5{t:Tr}(w0:World)(hK:KAt w0 t)(hV:LvAt w0 t)(iha:∀i,0<=i->i<t.n->∀(w0:World),KAt w0 (t.kid i)->LvAt w0 (t.kid i)->Calls Tryz.prog 101 [.agg #[.int .i64 (t.kid i).s,(t.kid i).vK,(t.kid i).vL]].toArray w0 fun e w=>∃v,e= .returned v/\v=B (t.kid i).ok/\Sat w0 w []):
    Calls Tryz.prog 139 [t.vK,.func (.func 140) #[] #[]].toArray w0 fun e w=>∃v,e= .returned v/\v=B (∃k,0<=k/\k<t.n/\¬(t.kid k).ok)/\Sat w0 w []:=by
  refine zenG Tryz.func139 Tryz.ntmps139 fun w hS=> ?_
  refine zsr<|(zP)<|zlz<|(zP)<|(zP)<|zlc (xc0 ZkP) (ZlU (t:=t) w (KAt.below hS.below (hK)) (LvAt.below hS.below (hV)) iha) ?_;rintro _ w ⟨r1,rfl,hr1,hS'⟩
  replace hS:=hS.cmp hS';clear hS'
  refine(zP)<|(zP)<|zx1<|zf1 ⟨_,rfl,?_⟩
  exact⟨Zk (by
   rcases hr1 with⟨h1,h2⟩|⟨h1,h2,h3⟩
   · exact⟨fun h=>by omega,fun⟨k,h4,h5,h6⟩=>absurd (h2 k h4 h5) h6⟩
   · exact⟨fun _=>⟨_,h1,h2,h3⟩,fun _=>h1⟩),hS⟩
theorem ZiD:∀(t:Tr) (w0:World) (hK:KAt w0 t) (hV:LvAt w0 t),
    Calls Tryz.prog 101 [.agg #[.int .i64 t.s,t.vK,t.vL]].toArray w0 fun e w=>∃v,e= .returned v/\v=B t.ok/\Sat w0 w []:=by
  refine Tr.ind fun t ih=> ?_
  intro w0 hK hV
  refine zenG Tryz.func101 Tryz.ntmps101 fun w hS=> ?_
  refine zsr<|zla (xbx (cs:= [_,_,_]) hS) ?_;rintro _ w ⟨g1,rfl,hS⟩
  refine(zP)<|zlz<|(zV (xls 0 st_54 hS))<|zlc (xc0 Zlb) (ZlG (t:=t) w (KAt.below hS.below (hK)) (LvAt.below hS.below (hV))) ?_;rintro _ w ⟨rfl,hS'⟩
  replace hS:=hS.cmp hS';clear hS'
  refine(zP)<|zlb 5 ?_ ?_<;>intro hc
  ·
   refine(zV (xfb 1 fd_54_1))<|(zV (xlb 0 XF hS))<|zlc (xc0 Zla) (Zl5 (t:=t) w (KAt.below hS.below (hK)) (LvAt.below hS.below (hV)) ih) ?_;rintro _ w ⟨rfl,hS'⟩
   replace hS:=hS.cmp hS';clear hS'
   refine(zP)<|(zP)<|(zP)<|zx1<|zf1 ⟨_,rfl,?_⟩
   exact⟨Zk (by rw [t.ok_iff];exact⟨fun hh=>⟨‹OkN t›,fun k k0 k1=>Classical.byContradiction fun h9=>hh ⟨k,k0,k1,h9⟩⟩,fun hh ⟨k,k0,k1,k2⟩=>k2 (hh.2 k k0 k1)⟩),hS.nl⟩
  iterate 4 refine zlo ?_
  refine(zP)<|(zP)<|zx1<|zf1 ⟨_,rfl,?_⟩
  exact⟨Ze (by rw [t.ok_iff];rintro⟨h1,h2⟩;first|exact absurd h1 ‹¬OkN t›|(obtain⟨k,k0,k1,k2⟩:=‹∃k,0<=k/\k<t.n/\¬(t.kid k).ok›;exact k2 (h2 k k0 k1))),hS.nl⟩
theorem RQ{t:Tr}(w0:World)(hK:KAt w0 t)(hV:LvAt w0 t):
    Calls Tryz.prog 68 [.agg #[.int .i64 t.s,t.vK,t.vL]].toArray w0 fun e w=>∃v,e= .returned v/\v=B (Yc t)/\Sat w0 w []:=by
  refine zenG Tryz.func68 Tryz.ntmps68 fun w hS=> ?_
  refine zsr<|zla (xbx (cs:= [_,_,_]) hS) ?_;rintro _ w ⟨g1,rfl,hS⟩
  refine(zP)<|zlz<|(zV (xls 0 st_54 hS))<|zlc (xc0 ZiV) (Zii t w (KAt.below hS.below (hK)) (LvAt.below hS.below (hV))) ?_;rintro _ w ⟨rfl,hS'⟩
  replace hS:=hS.cmp hS';clear hS'
  refine(zP)<|(zP)<|zlb 6 ?_ ?_<;>intro hc
  ·
   refine(zV (xls 0 st_54 hS))<|zlc (xc0 ZfR) (Zit t w (KAt.below hS.below (hK)) (LvAt.below hS.below (hV))) ?_;rintro _ w ⟨rfl,hS'⟩
   replace hS:=hS.cmp hS';clear hS'
   refine(zP)<|(zP)<|(zP)<|zlb 11 ?_ ?_<;>intro hc
   ·
    refine(zV (xls 0 st_54 hS))<|zlc (xc0 ZfQ) (ZiD t w (KAt.below hS.below (hK)) (LvAt.below hS.below (hV))) ?_;rintro _ w ⟨rfl,hS'⟩
    replace hS:=hS.cmp hS';clear hS'
    refine(zP)<|(zP)<|zx1<|zf1 ⟨_,rfl,?_⟩
    exact⟨Zk ⟨fun hh=>⟨by first|exact hh|assumption,by omega,by omega⟩,fun hh=>by obtain⟨h1,h2,h3⟩:=hh;first|exact h1|omega⟩,hS.nl⟩
   refine(zO)<|(zO)<|(zP)<|(zP)<|zx1<|zf1 ⟨_,rfl,?_⟩
   exact⟨Ze (by rintro⟨h1,h2,h3⟩;first|omega|exact absurd h1 ‹¬t.ok›),hS.nl⟩
  iterate 3 refine zlo ?_
  refine(zP)<|(zP)<|(zO)<|zlo ?_
  refine(zP)<|(zP)<|zx1<|zf1 ⟨_,rfl,?_⟩
  exact⟨Ze (by rintro⟨h1,h2,h3⟩;first|omega|exact absurd h1 ‹¬t.ok›),hS.nl⟩
theorem Zcg{t:Tr}(w0:World)(hK:KAt w0 t)(hV:LvAt w0 t):
    Calls Tryz.prog 51 [.agg #[.int .i64 t.s,t.vK,t.vL]].toArray w0 fun e w=>∃v,e= .returned v/\v=B (Yc t)/\Sat w0 w []:=by
  refine zenG Tryz.func51 Tryz.ntmps51 fun w hS=> ?_
  refine zsr<|zla (xbx (cs:= [_,_,_]) hS) ?_;rintro _ w ⟨g1,rfl,hS⟩
  refine(zP)<|zlz<|(zV (xls 0 st_45 hS))<|zlc (xc0 Zc3) (Zcj t w (KAt.below hS.below (hK)) (LvAt.below hS.below (hV))) ?_;rintro _ w ⟨rfl,hS'⟩
  replace hS:=hS.cmp hS';clear hS'
  refine(zP)<|zlb 5 ?_ ?_<;>intro hc
  ·
   refine(zV (xls 0 st_45 hS))<|zlc (xc0 Zi6) (Zf9 t w (KAt.below hS.below (hK)) (LvAt.below hS.below (hV))) ?_;rintro _ w ⟨rfl,hS'⟩
   replace hS:=hS.cmp hS';clear hS'
   refine(zP)<|(zP)<|(zP)<|zlb 10 ?_ ?_<;>intro hc
   ·
    refine(zV (xls 0 st_45 hS))<|zlc (xc0 ZiY) (Zgc t w (KAt.below hS.below (hK)) (LvAt.below hS.below (hV))) ?_;rintro _ w ⟨rfl,hS'⟩
    replace hS:=hS.cmp hS';clear hS'
    refine(zP)<|(zP)<|(zP)<|zx1<|zf1 ⟨_,rfl,?_⟩
    exact⟨Zk ⟨fun hh=>⟨by first|exact hh|assumption,by omega,by omega⟩,fun hh=>by obtain⟨h1,h2,h3⟩:=hh;first|exact h1|omega⟩,hS.nl⟩
   iterate 3 refine zlo ?_
   refine(zP)<|(zP)<|zx1<|zf1 ⟨_,rfl,?_⟩
   exact⟨Ze (by rintro⟨h1,h2,h3⟩;first|omega|exact absurd h1 ‹¬t.ok›),hS.nl⟩
  iterate 3 refine zlo ?_
  refine zs2 ?_
  iterate 3 refine zlo ?_
  refine(zP)<|(zP)<|zx1<|zf1 ⟨_,rfl,?_⟩
  exact⟨Ze (by rintro⟨h1,h2,h3⟩;first|omega|exact absurd h1 ‹¬t.ok›),hS.nl⟩
end Go.Proofs.YtkichmnjjblodaaGreat
namespace Go.Proofs.YtkichmnjjblodaaGreat
open Go Go.RowKit Go.Proofs.Gw
theorem ZcW:ZW Tryz.prog 45=some (.agg #[.int .i64 0,.slice none 0 0,.slice none 0 0],3,56):=by kernel_rfl
end Go.Proofs.YtkichmnjjblodaaGreat
namespace Go.Proofs.YtkichmnjjblodaaGreat
open Go Go.RowKit Go.Proofs.Gw
variable {b i:Int}
noncomputable def ZV(p:Prob)(wi i:Int):Prob:=p.with fun j=>p.D j-YA (MX p wi) i j
def fw (f:Int->Option (List Int)):Nat->Int->Option (List Int)
  |0,_=>none
  | c+1,i=>match f i with
    |some l=>some (i::l)
    |none=>fw f c (i+1)
theorem Ze4{f:Int->Option (List Int)}{n:Int}(h:n<=i):fw f (n-i).toNat i=none:=by rw [show(n-i).toNat=0 by omega];rfl
theorem ZiS{f:Int->Option (List Int)}{n:Int}(h:i<n)(hf:f i=none):fw f (n-i).toNat i=fw f (n-(i+1)).toNat (i+1):=by
  rw [show(n-i).toNat=(n-(i+1)).toNat+1 by omega]
  show(match f i with
    |some l=>some (i::l)
    |none=>fw f (n-(i+1)).toNat (i+1))=_
  rw [hf]
theorem Ze3{f:Int->Option (List Int)}{n:Int}{l:List Int}(h:i<n)(hf:f i=some l):fw f (n-i).toNat i=some (i::l):=by
  rw [show(n-i).toNat=(n-(i+1)).toNat+1 by omega]
  show(match f i with
    |some l=>some (i::l)
    |none=>fw f (n-(i+1)).toNat (i+1))=_
  rw [hf]
theorem ZcN{f:Int->Option (List Int)}:∀{c:Nat} {i:Int} {l:List Int},fw f c i=some l->∃k m,i<=k/\k<i+c/\f k=some m/\l=k::m
  |0,i,l,h=>by cases h
  | c +1,i,l,h=>by
    unfold fw at h
    cases hf:f i with
    |some m=>rw [hf] at h;injection h with h;subst h;exact⟨i,m,by omega,by omega,hf,rfl⟩
    | none=>
      rw [hf] at h
      obtain⟨k,m,h1,h2,h3,h4⟩:=ZcN h
      exact⟨k,m,by omega,by omega,h3,h4⟩
theorem ZcO{f:Int->Option (List Int)}:∀{c:Nat} {i:Int},fw f c i=none->∀k,i<=k->k<i+c->f k=none
  |0,i,_,k,h1,h2=>by omega
  | c +1,i,h,k,h1,h2=>by
    unfold fw at h
    cases hf:f i with
    |some m=>rw [hf] at h;cases h
    | none=>
      rw [hf] at h
      by_cases e:k=i
      · rw [e];exact hf
      · exact ZcO h k (by omega) (by omega)
noncomputable def wrT:Tr->Prob->Int->Option (List Int)
  | .nil,p,b=> @ite _ (XP p b 0 (fun _=>0)) (Classical.propDecidable _) none (some [])
  | .mk s vK n kid vL nl l,p,b=>if n=0 then @ite _ (XP p b nl l) (Classical.propDecidable _) none (some []) else
    @ite _ (ZD p b s/\Zl p b s=n) (Classical.propDecidable _) (fw (fun i=>wrT (kid i) (ZV p s i) (b-1)) n.toNat 0) (some [])
theorem US{t:Tr}{p:Prob}(h:t.n=0):wrT t p b= @ite _ (XP p b t.nl t.l) (Classical.propDecidable _) none (some []):=by
  cases t with
  |nil=>rfl
  |mk s vK n kid vL nl l=>exact if_pos h
theorem Xl{t:Tr}{p:Prob}(h:t.n=0)(hl:XP p b t.nl t.l):wrT t p b=none:=by rw [US h,if_pos hl]
theorem Wj{t:Tr}{p:Prob}(h:t.n=0)(hl:¬XP p b t.nl t.l):wrT t p b=some []:=by rw [US h,if_neg hl]
noncomputable def Tz(t:Tr)(p:Prob)(b:Int)(i:Int):Option (List Int):=wrT (t.kid i) (ZV p t.s i) (b-1)
theorem Wk{t:Tr}{p:Prob}(h:t.n≠0)(hs:ZD p b t.s)(hn:Zl p b t.s=t.n):wrT t p b=fw (Tz t p b) (t.n-0).toNat 0:=by
  cases t with
  |nil=>exact absurd rfl h
  | mk s vK n kid vL nl l=>
    have h':n≠0:=h
    show(if n=0 then _ else _)=_
    rw [if_neg h',if_pos (show ZD p b s/\Zl p b s=n from⟨hs,hn⟩),Int.sub_zero]
    rfl
theorem WF{t:Tr}{p:Prob}(h:t.n≠0)(hs:¬(ZD p b t.s/\Zl p b t.s=t.n)):wrT t p b=some []:=by
  cases t with
  |nil=>exact absurd rfl h
  | mk s vK n kid vL nl l=>
    have h':n≠0:=h
    show(if n=0 then _ else _)=_
    rw [if_neg h',if_neg (show¬(ZD p b s/\Zl p b s=n) from hs)]
theorem Zjk:∀(t:Tr) {p:Prob} {b:Int} {l:List Int},wrT t p b=some l->(l.length:Int)<=max b 0:=Tr.ind fun t ih p b l h=>by
  by_cases h0:t.n=0
  · by_cases hl:XP p b t.nl t.l
    · rw [Xl h0 hl] at h;cases h
    · rw [Wj h0 hl] at h;cases h;simp;omega
  · by_cases hs:ZD p b t.s/\Zl p b t.s=t.n
    · rw [Wk h0 hs.1 hs.2] at h
      obtain⟨k,m,k0,k1,k2,rfl⟩:=ZcN h
      have hn:Zl p b t.s=(MX p t.s).length:=Yi hs.1
      have:=ih k k0 (by have:=hs.2;omega) k2
      have:=hs.1.2.1
      rw [List.length_cons];omega
    · rw [WF h0 hs] at h;cases h;simp;omega
theorem Sim.wr:∀(t:Tr) {u:Tr},Sim t u->∀(p:Prob) (b:Int),wrT u p b=wrT t p b:=Tr.ind fun t ih u h p b=>by
  obtain⟨h1,h2,_,h4,h5,h6⟩:=h.of
  by_cases h0:t.n=0
  · rw [US h0,US (h2.trans h0),h4,h5]
  · have hu:u.n≠0:=by rw [h2];exact h0
    by_cases hs:ZD p b t.s/\Zl p b t.s=t.n
    · rw [Wk h0 hs.1 hs.2,Wk hu (by rw [h1];exact hs.1) (by rw [h1,h2];exact hs.2),h2]
      have e:∀(c:Nat) (i:Int),0<=i->i+c<=t.n->fw (Tz u p b) c i=fw (Tz t p b) c i:=fun c=>by
        induction c with
        |zero=>intro i _ _;rfl
        | succ c ihc=>
          intro i i0 i1
          have ek:Tz u p b i=Tz t p b i:=by unfold Tz;rw [h1];exact ih i i0 (by omega) (h6 i i0 (by omega)) _ _
          unfold fw
          rw [ek,ihc (i+1) (by omega) (by omega)]
      have hn:Zl p b t.s=(MX p t.s).length:=Yi hs.1
      exact e _ 0 (Int.le_refl _) (by have:=hs.2;omega)
    · rw [WF h0 hs,WF hu (by rw [h1,h2];exact hs)]
def IsL(q:Int)(f:Int->Int)(l:List Int):Prop:=q=l.length/\∀k,0<=k->k<q->f k=l.getD k.toNat 0
theorem IsL.nil{f:Int->Int}:IsL 0 f []:=⟨rfl,fun k h0 h1=>by omega⟩
theorem IsL.cons{q:Int}{f g:Int->Int}{l:List Int}(h:IsL q f l)(h0:g 0=i)(hg:∀k,0<=k->k<q->g (k+1)=f k):IsL (q+1) g (i::l):=by
  obtain⟨h1,h2⟩:=h
  refine⟨by simp [h1],fun k k0 k1=> ?_⟩
  by_cases e:k=0
  · rw [e,h0];rfl
  · have:=hg (k-1) (by omega) (by omega)
    rw [show k-1+1=k by omega] at this
    rw [this,h2 (k-1) (by omega) (by omega),show k.toNat=(k-1).toNat+1 by omega];rfl
theorem IsL.snoc{q i:Int}{f:Int->Int}{l:List Int}(h:IsL q f l):IsL (q+1) (Gw.snoc f q i) (l++ [i]):=by
  obtain⟨h1,h2⟩:=h
  refine⟨by simp [h1],fun k k0 k1=> ?_⟩
  by_cases e:k<q
  · rw [Zu e,h2 k k0 e,List.getD_eq_getElem?_getD,List.getD_eq_getElem?_getD,List.getElem?_append_left (by omega)]
  · rw [Zv e,show k.toNat=l.length by omega,List.getD_eq_getElem?_getD,List.getElem?_append_right (Nat.le_refl _)];simp
theorem IsL.init{q:Int}{f:Int->Int}{l:List Int}(h:IsL q f (l++ [i])):IsL (q-1) f l:=by
  obtain⟨h1,h2⟩:=h
  rw [List.length_append,List.length_singleton] at h1
  refine⟨by omega,fun k k0 k1=> ?_⟩
  rw [h2 k k0 (by omega),List.getD_eq_getElem?_getD,List.getD_eq_getElem?_getD,List.getElem?_append_left (by omega)]
theorem IsL.same{q r:Int}{f g:Int->Int}{l:List Int}(h:IsL q f l)(h':IsL r g l):q=r/\∀k,0<=k->k<q->f k=g k:=by
  have e:q=r:=h.1.trans h'.1.symm
  exact⟨e,fun k k0 k1=>by rw [h.2 k k0 k1,h'.2 k k0 (by omega)]⟩
theorem VR{p:Prob}{wi:Int}(hs:ZD p b wi)(i0:0<=i)(i1:i<Zl p b wi):MPat p wi (YA (MX p wi) i)/\1<=YA (MX p wi) i wi:=by
  rw [Yi hs] at i1
  obtain⟨h1,h2⟩:=ZgS hs.1.1 (ZaL i0 i1)
  exact⟨h1,h2 hs.2.2.1.1 hs.2.2.1.2⟩
theorem UX{w w':World}{vL vD:Value}{p:Prob}{wi:Int}{vv:Int->Value}(hs:ZD p b wi)(h:PAt w' vL vD p)(rL:Row w (vv (2*i)) 1 p.m (ints (gfn p (MX p wi) (2*i))))(rD:Row w (vv (2*i+1)) 1 p.m (ints (gfn p (MX p wi) (2*i+1))))(i0:0<=i)(i1:i<Zl p b wi):PAt w (vv (2*i)) (vv (2*i+1)) (ZV p wi i):=by
  have hp:=hs.1.1
  rw [Zmx p _ (i:=i) rfl] at rL
  rw [ZjA p _ (i:=i) rfl] at rD
  refine⟨rL,?_,h.iL,fun k=> ?_,h.is,h.ik⟩
  · show Row w _ 1 p.d _
    rw [hp.d];exact rD
  · obtain⟨hm,_⟩:=VR hs i0 i1
    show _<=p.D k-YA (MX p wi) i k/\p.D k-YA (MX p wi) i k<=_
    by_cases hk:0<=k/\k<p.m
    · have h1:=hm.rng k hk.1 hk.2
      have h2:=hp.all k hk.1 hk.2
      unfold Prob.each at h2
      omega
    · rw [hm.zero k (by omega)]
      have:=h.iD k
      omega
def consf(i:Int)(f:Int->Int):Int->Int:=fun k=>if k<1 then i else f (k-1)
theorem RO(i:Int)(f:Int->Int):cat ((1:Int)*(1:Nat)) (ints fun _=>i) (ints f)=ints (consf i f):=by
  funext j;simp only [cat,ints,consf];split<;>split<;>first|rfl|omega
theorem IsL.consf{q i:Int}{f:Int->Int}{l:List Int}(h:IsL q f l):IsL (q+1) (consf i f) (i::l):=h.cons (if_pos (by omega)) fun k k0 k1=>by
  unfold Go.Proofs.YtkichmnjjblodaaGreat.consf;rw [if_neg (by omega),show k+1-1=k by omega]
theorem Zml{t:Tr}{p:Prob}{q:Int}{f:Int->Int}(h:IsL q f ((wrT t p b).getD [])):0<=q/\(q<=b\/q<=0):=by
  refine⟨by have:=h.1;omega,?_⟩
  cases e:wrT t p b with
  |none=>rw [e] at h;exact .inr (by rw [h.1];simp)
  |some l=>rw [e] at h;have:=Zjk t e;have:=h.1;simp only [Option.getD_some] at this;omega
theorem ZiM{t:Tr}{p:Prob}(h:t.n=0):wrT t p b≠none↔¬XP p b t.nl t.l:=by
  by_cases hl:XP p b t.nl t.l
  · rw [Xl h hl];exact⟨fun h=>absurd rfl h,fun h=>absurd hl h⟩
  · rw [Wj h hl];exact⟨fun _=>hl,fun _=>Option.some_ne_none _⟩
theorem Zek{t:Tr}{p:Prob}(h:t.n=0):(wrT t p b).getD []= []:=by
  by_cases hl:XP p b t.nl t.l
  · rw [Xl h hl];rfl
  · rw [Wj h hl];rfl
end Go.Proofs.YtkichmnjjblodaaGreat
namespace Go.Proofs.YtkichmnjjblodaaGreat
open Go Go.RowKit Go.Proofs.Gw
theorem Znd:Zc Tryz.prog 15=true:=by kernel_rfl
theorem Znc:Zc Tryz.prog 17=true:=by kernel_rfl
theorem Zi5:Zc Tryz.prog 52=true:=by kernel_rfl
theorem Zh0:∀(t:Tr) {vL vD:Value} {p:Prob} {b:Int} (w0:World) (h:PAt w0 vL vD p) (hK:KAt w0 t) (hV:LvAt w0 t),
    Calls Tryz.prog 52 [.agg #[vL,vD,.int .i64 p.stock,.int .i64 p.kerf,.int .i64 b],.agg #[.int .i64 t.s,t.vK,t.vL]].toArray w0 fun e w=>∃v,e= .returned v/\∃r q f,v= .tuple #[r,B (wrT t p b≠none)]/\Slh r q/\IsL q f ((wrT t p b).getD [])/\Sat w0 w [.own r 1 3 q (ints f)]:=by
  refine Tr.ind fun t ih=> ?_
  intro vL vD p b w0 h hK hV
  have hn:=hK.row.slh.n0;have hn1:=hK.row.slh.n1;have hln:=hV.leaf.row.slh.n0;have xU:=hV.leaf.row.slh.n1
  have hm:=h.L.slh.n0;have hm1:=h.L.slh.n1;have hd:=h.D.slh.n0;have hd1:=h.D.slh.n1;have hs:=h.is;have hk:=h.ik
  refine zenG Tryz.func52 Tryz.ntmps52 fun w hS=> ?_
  refine zsr<|zla (xbx (cs:= [_,_,_,_,_]) hS) ?_;rintro _ w ⟨g1,rfl,hS⟩
  refine zla (xbx (cs:= [_,_,_]) hS) ?_;rintro _ w ⟨g2,rfl,hS⟩
  refine(zP)<|(zP)<|zx5<|(zV (xfb 1 fd_45_1))<|(zV (xlb 1 YT hS))<|(zV (xln YS (hK).row.slh))<|(zP)<|zlt<|Zf ?_ ?_<;>intro hc
  ·
   refine zsr<|(zV (xls 0 Th hS))<|(zV (xfb 2 fd_45_2))<|(zV (xlb 1 pl_22 hS))<|zlc (xc0 Znc) (Zid (p:=p) (b:=b) w (h.below hS.below) ((hV).leaf.below hS.below) (hV).room) ?_;rintro _ w ⟨rfl,hS'⟩
   replace hS:=hS.cmp hS';clear hS'
   refine(zP)<|(zP)<|(zP)<|zx14<|zf2 ⟨_,rfl,?_⟩
   have hw9:t.n=0:=by omega
   exact⟨_,0,fun _=>0,by rw [Zk (ZiM hw9)],slh_nil,by rw [Zek hw9];exact IsL.nil,(hS.addnil 1 3 (ints fun _=>0)).sub (.cons _ (.cons _ (.cons_cons _ .slnil)))⟩
  refine ZT<|(zV (xls 0 Th hS))<|(zV (xfb 0 fd_45_0))<|(zV (xlb 1 pl_3 hS))<|zlc (xc0 Znd) (Zf7 (p:=p) (b:=b) (wi:=t.s) w (h.below hS.below)) ?_;rintro _ w ⟨ak,xq,rfl,xX,hS'⟩
  replace hS:=(hS.comp hS').n4;clear hS'
  have dY:∀k,0<=k->k<2*(Zl p b t.s)->Slh (xq k) p.m:=fun k k0 k1=>hS.slhIn 3 rfl k0 k1
  refine zs5 ?_
  refine zx5<|(zP)<|(zP)<|(zP)<|zlb 29 ?_ ?_<;>intro hc
  ·
   iterate 6 refine zlo ?_
   refine(zP)<|zlt<|zct<|zsr ?_
   refine(zP)<|(zP)<|zx14<|zf2 ⟨_,rfl,?_⟩
   have hw9:wrT t p b=some []:=WF (by omega) (by rintro⟨q1,q2⟩;first|exact absurd q1 ‹¬ZD p b t.s›|omega)
   exact⟨_,0,fun _=>0,by rw [ZK (show wrT t p b≠none by rw [hw9];exact Option.some_ne_none _)],slh_nil,by rw [hw9];exact IsL.nil,(hS.addnil 1 3 (ints fun _=>0)).sub (.cons _ (.cons _ (.cons _ (.cons _ (.cons_cons _ .slnil)))))⟩
  refine(zP)<|(zV (xln Zaz xX))<|(zV (xfb 1 fd_45_1))<|(zV (xlb 1 YT hS))<|(zV (xln YS (hK).row.slh))<|(zP)<|(zP)<|zlt<|Zf ?_ ?_<;>intro hc
  ·
   refine zsr<|(zP)<|(zP)<|zx14<|zf2 ⟨_,rfl,?_⟩
   have hw9:wrT t p b=some []:=WF (by omega) (by rintro⟨q1,q2⟩;first|exact absurd q1 ‹¬ZD p b t.s›|omega)
   exact⟨_,0,fun _=>0,by rw [ZK (show wrT t p b≠none by rw [hw9];exact Option.some_ne_none _)],slh_nil,by rw [hw9];exact IsL.nil,(hS.addnil 1 3 (ints fun _=>0)).sub (.cons _ (.cons _ (.cons _ (.cons _ (.cons_cons _ .slnil)))))⟩
  refine YL<|(zP)<|zx6 ?_
  have hsp:ZD p b t.s:=by first|assumption|exact Classical.not_not.1 ‹_›
  have hkn:Zl p b t.s=t.n:=by omega
  have hsb:=hsp.1.2;have hpn:=xX.n1
  refine zlp (fun mm M w=>∃(i:Int),mm=((t.n-i).toNat)/\(0<=i)/\(i<=t.n)/\(wrT t p b=fw (Tz t p b) (t.n-i).toNat i)/\M= [(3,.pointer (some ⟨g2,0,none⟩)),(6,ak),(8,.int .i64 i)]/\Sat w0 w [.blk g1 [vL,vD,.int .i64 p.stock,.int .i64 p.kerf,.int .i64 b],.blk g2 [.int .i64 t.s,t.vK,t.vL],.own ak 5 26 (Zl p b t.s) (ZE xq p.stock p.kerf (b-1)),.sem (Frame.rows 3 (2*(Zl p b t.s)) xq (fun _=>p.m) (gfn p (MX p t.s)))]) ⟨0,rfl,(by omega),(by omega),?_,rfl,hS⟩ ?_
  ·
   exact Wk (by omega) hsp hkn
  clear hS w
  rintro mm M w ⟨i,rfl,h0,h1,hfw,rfl,hS⟩
  refine zx11<|(zP)<|(zP)<|(zV (xln Zaz xX))<|(zP)<|zlt<|Zf ?_ ?_<;>intro hc
  ·
   refine zsk<|ztn<|zsq<|zbk<|zsq<|zdst [0,1,2,3] [0,1,2,3] 1000 mx_ hS ?_;clear hS;intro w hS
   refine(zDw 0 xmv)<|(zDw 1 xmv)<|(zDw 2 (xix (kk:=5*i) Zaz xX))<|(zDl 3 (fun w hS=>(xlw (cs:= [(xq (2*i)),(xq (2*i+1)),.int .i64 p.stock,.int .i64 p.kerf,.int .i64 (b-1)]) Th (hS.rowN 2 rfl) (Up (q:=5*i) (i:=i) xq p.stock p.kerf (b-1) (by omega)))))<|(zDw 4 (xfb 1 fd_45_1))<|(zDl 5 (fun w hS=>(xlb 1 YT hS)))<|(zDw 6 xmv)<|(zDw 7 (xix (kk:=3*i) YS (hK).row.slh))<|(zDl 8 (fun w hS=>(xlw (cs:= [.int .i64 ((t.kid i).s),(t.kid i).vK,(t.kid i).vL]) st_45 ((hK).row.below hS.below) (Yl (q:=3*i) (i:=i) _ (by omega)))))<|zdc 9 (xc0 Zi5) (ih i (by omega) (by omega) (p:=(ZV p t.s i)) (b:=(b-1)) w (UX (vv:=xq) hsp h (show Row _ _ 1 p.m _ from(hS.rowIn (k:=2*i) 3 rfl (by omega) (by omega))) (show Row _ _ 1 p.m _ from(hS.rowIn (k:=2*i+1) 3 rfl (by omega) (by omega))) (by omega) (by omega)) (KAt.below hS.below ((hK).sub (i:=i) (by omega) (by omega))) (LvAt.below hS.below ((hV).sub (i:=i) (by omega) (by omega)))) ?_;rintro _ w ⟨rq1,q1,fq1,rfl,d7,z8,hS'⟩
   replace hS:=(hS.comp hS').n5;clear hS'
   have fQ:=Zml z8
   refine⟨⟨fun _=>hS.pk [0,1,2,3],hS.pk [0,1,2,3]⟩,?_⟩
   refine(zDw 10 xmv)<|(zDw 11 xex)<|(zDw 12 xex)<|(zDw 13 xas)<|(zDw 14 xas)<|zdd<|ztn<|zsr ?_
   refine(zP)<|zlt<|Zf ?_ ?_<;>intro hc
   ·
    refine zsr<|(zP)<|zla (xli (n:=1) (len:=1) (pv:= [(0,.int .i64 i)]) (cs:= [.int .i64 i]) (c:=ints (fun _=>i)) Zb Zt hS) ?_;rintro v1 w ⟨hS,hv1⟩
    refine(zP)<|zla (xap 5 (r:=q1+1) (f:=ints (consf i fq1)) Zb Zt hS (hS.rowN 4 rfl) (by exact RO _ _)) ?_;rintro v2 w ⟨hS,hv2⟩
    refine(zP)<|(zP)<|zx2<|zf2 ⟨_,rfl,?_⟩
    obtain⟨l9,hl9⟩:=Option.ne_none_iff_exists'.1 ‹(wrT (t.kid i) (ZV p t.s i) (b-1))≠none›
    rw [hl9] at z8
    have hw9:wrT t p b=some (i::l9):=hfw.trans (Ze3 (by omega) hl9)
    exact⟨_,_,_,by rw [ZK (show wrT t p b≠none by rw [hw9];exact Option.some_ne_none _)],hv2,by rw [hw9];exact IsL.consf z8,hS.pk [5]⟩
   refine zx4<|(zP)<|(zV (Zh (r:=i+1)))<|(zP)<|zln<|zlq ⟨i+1,rfl,(by omega),(by omega),?_,rfl,hS.pk [0,1,2,3]⟩
   ·
    rw [hfw];exact ZiS (by omega) (show Tz t p b i=none from Classical.byContradiction ‹¬((wrT (t.kid i) (ZV p t.s i) (b-1))≠none)›)
  refine zx8<|(zP)<|(zP)<|zx1<|zf2 ⟨_,rfl,?_⟩
  have hw9:wrT t p b=none:=hfw.trans (Ze4 (by omega))
  exact⟨_,0,fun _=>0,by rw [Zz (show¬wrT t p b≠none by rw [hw9];exact fun h=>h rfl)],slh_nil,by rw [hw9];exact IsL.nil,(hS.addnil 1 3 (ints fun _=>0)).sub (.cons _ (.cons _ (.cons _ (.cons _ (.cons_cons _ .slnil)))))⟩
end Go.Proofs.YtkichmnjjblodaaGreat
namespace Go.Proofs.YtkichmnjjblodaaGreat
open Go Go.RowKit Go.Proofs.Gw
theorem Zjd:Zc Tryz.prog 13=true:=by kernel_rfl
theorem Zjc:Zc Tryz.prog 16=true:=by kernel_rfl
theorem ZiZ:Zc Tryz.prog 81=true:=by kernel_rfl
theorem ZbK:ZM Tryz.prog 137=true:=by kernel_rfl
theorem Zmp:ZM Tryz.prog 31=true:=by kernel_rfl
theorem Zmo:ZM Tryz.prog 39=true:=by kernel_rfl
theorem V8{E:TypeId}{n:Int}{vv:Int->Value}{ln:Int->Int}{f:Int->Int->Int}{w:World}{l:List Ent}(h:(Frame.bun l).holds w)(i:Nat)(hi:l[i]? =some (.sem (Frame.rows E n vv ln f))){k:Int}(k0:0<=k)(k1:k<n):Row w (vv k) 1 (ln k) (ints (f k)):=((h.1 _ (List.mem_of_getElem? hi)).1 k k0 k1).row
theorem Zdg{w:World}{l:List Ent}{F:Gw.Frame}(h:(Frame.bun l).holds w)(i:Nat)(hi:l[i]? =some (.sem F)):F.holds w:=h.1 _ (List.mem_of_getElem? hi)
theorem Znr:∀(t:Tr) {F:Gw.Frame} {vL vD:Value} {p:Prob} {b:Int} {gl gs gp gw:Nat} {vp:Value} {q:Int} {f:Int->Int} {pre:List Int} (w0 w:World) (hS:Sat w0 w [.blk gl [.func (.func 16) #[] #[]],.blk gs [.func (.func 13) #[] #[]],.blk gp [vp],.blk gw [.func (.func 81) #[] #[.pointer (some ⟨gl,0,none⟩),.pointer (some ⟨gs,0,none⟩),.pointer (some ⟨gp,0,none⟩),.pointer (some ⟨gw,0,none⟩)]],.sem (Frame.dq 3 vp q f),.sem F]) (hP:∀w1,Below w0.heap.size w0 w1->F.holds w1->PAt w1 vL vD p) (hK:KAt w0 t) (hV:LvAt w0 t) (hv:Slh vp q) (hI:IsL q f pre) (hq:q+b<=1001),
    Calls Tryz.prog 81 [.agg #[vL,vD,.int .i64 p.stock,.int .i64 p.kerf,.int .i64 b],.agg #[.int .i64 t.s,t.vK,t.vL],.pointer (some ⟨gl,0,none⟩),.pointer (some ⟨gs,0,none⟩),.pointer (some ⟨gp,0,none⟩),.pointer (some ⟨gw,0,none⟩)].toArray w fun e w=>∃v,e= .returned v/\∃v1 q1 f1,v=B (wrT t p b≠none)/\Slh v1 q1/\IsL q1 f1 (pre++(wrT t p b).getD [])/\Sat w0 w [.blk gl [.func (.func 16) #[] #[]],.blk gs [.func (.func 13) #[] #[]],.blk gp [v1],.blk gw [.func (.func 81) #[] #[.pointer (some ⟨gl,0,none⟩),.pointer (some ⟨gs,0,none⟩),.pointer (some ⟨gp,0,none⟩),.pointer (some ⟨gw,0,none⟩)]],.sem (Frame.dq 3 v1 q1 f1),.sem F]:=by
  refine Tr.ind fun t ih=> ?_
  intro F vL vD p b gl gs gp gw vp q f pre w0 w hS hP hK hV hv hI hq
  have hn:=hK.row.slh.n0;have hn1:=hK.row.slh.n1;have hln:=hV.leaf.row.slh.n0;have xU:=hV.leaf.row.slh.n1
  have h:=hP w hS.below (hS.holds _ (List.mem_of_getElem? (i:=5) rfl))
  have hv0:=hv.n0;have hv1:=hv.n1
  refine zenF Tryz.func81 Tryz.ntmps81 ?_
  refine zsr<|zla (xbx (cs:= [_,_,_,_,_]) hS) ?_;rintro _ w ⟨g1,rfl,hS⟩
  refine zla (xbx (cs:= [_,_,_]) hS) ?_;rintro _ w ⟨g2,rfl,hS⟩
  refine(zP)<|zx5<|(zV (xfb 1 fd_54_1))<|(zV (xlb 7 XF hS))<|(zV (xln YM (hK).row.slh))<|(zP)<|zlt<|Zf ?_ ?_<;>intro hc
  ·
   refine zsr<|(zV (xlb 0 Zmo hS))<|(zV (xls 6 Yw hS))<|(zV (xfb 2 fd_54_2))<|(zV (xlb 7 pl_22 hS))<|zlc (xc0 Zjc) (Zgq (p:=p) (b:=b) w (hP _ hS.below (hS.holds _ (List.mem_of_getElem? (i:=5) rfl))) ((hV).leaf.below hS.below) (hV).room) ?_;rintro _ w ⟨rfl,hS'⟩
   replace hS:=hS.cmp hS';clear hS'
   refine(zP)<|(zP)<|zx14<|zf1 ⟨_,rfl,?_⟩
   have hw9:t.n=0:=by omega
   exact⟨_,_,_,(Zk (ZiM hw9)).symm,hv,by rw [Zek hw9];simpa using hI,hS.pk [0,1,2,3,4,5]⟩
  refine ZT<|(zV (xlb 1 Zmp hS))<|(zV (xls 6 Yw hS))<|(zV (xfb 0 fd_54_0))<|(zV (xlb 7 pl_3 hS))<|zlc (xc0 Zjd) (Zda (p:=p) (b:=b) (wi:=t.s) w (hP _ hS.below (hS.holds _ (List.mem_of_getElem? (i:=5) rfl)))) ?_;rintro _ w ⟨ak,xq,rfl,xX,hS'⟩
  replace hS:=(hS.comp hS').n10;clear hS'
  have dY:∀k,0<=k->k<2*(Zl p b t.s)->Slh (xq k) p.m:=fun k k0 k1=>hS.slhIn 9 rfl k0 k1
  refine zs5 ?_
  refine zx5<|(zP)<|(zP)<|(zP)<|zlb 33 ?_ ?_<;>intro hc
  ·
   iterate 6 refine zlo ?_
   refine(zP)<|zlt<|zct<|zsr ?_
   refine(zP)<|zx14<|zf1 ⟨_,rfl,?_⟩
   have hw9:wrT t p b=some []:=WF (by omega) (by rintro⟨q1,q2⟩;first|exact absurd q1 ‹¬ZD p b t.s›|omega)
   exact⟨_,_,_,(ZK (show wrT t p b≠none by rw [hw9];exact Option.some_ne_none _)).symm,hv,by rw [hw9];simpa using hI,hS.pk [0,1,2,3,4,5]⟩
  refine(zP)<|(zV (xln VH xX))<|(zV (xfb 1 fd_54_1))<|(zV (xlb 7 XF hS))<|(zV (xln YM (hK).row.slh))<|(zP)<|(zP)<|zlt<|Zf ?_ ?_<;>intro hc
  ·
   refine zsr<|(zP)<|zx14<|zf1 ⟨_,rfl,?_⟩
   have hw9:wrT t p b=some []:=WF (by omega) (by rintro⟨q1,q2⟩;first|exact absurd q1 ‹¬ZD p b t.s›|omega)
   exact⟨_,_,_,(ZK (show wrT t p b≠none by rw [hw9];exact Option.some_ne_none _)).symm,hv,by rw [hw9];simpa using hI,hS.pk [0,1,2,3,4,5]⟩
  refine YL<|(zV (xfb 1 fd_54_1))<|(zV (xlb 7 XF hS))<|(zV (xln YM (hK).row.slh))<|(zP)<|zx6 ?_
  have hsp:ZD p b t.s:=by first|assumption|exact Classical.not_not.1 ‹_›
  have hkn:Zl p b t.s=t.n:=by omega
  have hsb:=hsp.1.2;have hpn:=xX.n1;have hv0:=hv.n0
  refine zlp (fun mm M w=>∃(vp2:Value) (q2:Int) (f2:Int->Int) (i:Int),mm=((t.n-i).toNat)/\(0<=i)/\(i<=t.n)/\(wrT t p b=fw (Tz t p b) (t.n-i).toNat i)/\(Slh vp2 q2)/\(IsL q2 f2 pre)/\(q2=q)/\M= [(4,.pointer (some ⟨gp,0,none⟩)),(5,.pointer (some ⟨gw,0,none⟩)),(9,ak),(42,t.vK),(43,.int .i64 t.n),(44,.int .i64 i)]/\Sat w0 w [.blk gl [.func (.func 16) #[] #[]],.blk gs [.func (.func 13) #[] #[]],.blk gp [vp2],.blk gw [.func (.func 81) #[] #[.pointer (some ⟨gl,0,none⟩),.pointer (some ⟨gs,0,none⟩),.pointer (some ⟨gp,0,none⟩),.pointer (some ⟨gw,0,none⟩)]],.sem (Frame.dq 3 vp2 q2 f2),.sem F,.blk g1 [vL,vD,.int .i64 p.stock,.int .i64 p.kerf,.int .i64 b],.blk g2 [.int .i64 t.s,t.vK,t.vL],.own ak 5 34 (Zl p b t.s) (ZE xq p.stock p.kerf (b-1)),.sem (Frame.rows 3 (2*(Zl p b t.s)) xq (fun _=>p.m) (gfn p (MX p t.s)))]) ⟨vp,q,f,0,rfl,(by omega),(by omega),?_,?_,?_,?_,rfl,hS⟩ ?_
  ·
   exact Wk (by omega) hsp hkn
  ·
   exact hv
  ·
   exact hI
  ·
   rfl
  clear hS w
  rintro mm M w ⟨vp2,q2,f2,i,rfl,h0,h1,hfw,fc,hI2,hq2,rfl,hS⟩
  refine zsr<|(zP)<|zx7<|Zf ?_ ?_<;>intro hc
  ·
   refine zx3<|(zP)<|(zV (xix (kk:=3*i) YM (hK).row.slh))<|(zV (xlw (cs:= [.int .i64 ((t.kid i).s),(t.kid i).vK,(t.kid i).vL]) st_54 ((hK).row.below hS.below) (Yl (q:=3*i) (i:=i) _ (by omega))))<|zla (xal (cs:= [_,_,_]) WB hS) ?_;rintro _ w ⟨g4,rfl,hS⟩
   refine(zP)<|zle (xsw 10 st_54 hS (hd:=(Za rfl (Za ((hK).sub (i:=i) (by omega) (by omega)).row.slh.one (Za ((hV).sub (i:=i) (by omega) (by omega)).leaf.row.slh.one Zi))))) ?_;clear hS;rintro w hS
   refine zlz<|(zV (xlb 2 pl_22 hS))<|(zP)<|zla (xli (n:=1) (len:=1) (pv:= [(0,.int .i64 i)]) (cs:= [.int .i64 i]) (c:=ints (fun _=>i)) Zb Zt hS) ?_;rintro v1 w ⟨hS,hv1⟩
   refine zla (Zjj 4 Zb Zt hS (hS.rowN 11 rfl)) ?_;rintro v2 w ⟨hS,hv2⟩
   refine zle (xsb 2 pl_22 hS (hv:=hv2.one)) ?_;clear hS;rintro w hS
   refine zlt<|zsq<|zsq<|zdst [0,1,3,5,6,7,8,9,10,11] [0,1,3,5,6,7,8,9,10,11] 1000 mx_ hS ?_;clear hS;intro w hS
   refine(zDl 0 (fun w hS=>(xlb 2 ZbK hS)))<|(zDw 1 xmv)<|(zDw 2 xmv)<|(zDw 3 (xix (kk:=5*i) VH xX))<|(zDl 4 (fun w hS=>(xlw (cs:= [(xq (2*i)),(xq (2*i+1)),.int .i64 p.stock,.int .i64 p.kerf,.int .i64 (b-1)]) Yw (hS.rowN 6 rfl) (Up (q:=5*i) (i:=i) xq p.stock p.kerf (b-1) (by omega)))))<|(zDl 5 (fun w hS=>(xls 8 st_54 hS)))<|zdc 6 (xcc (vs:= [_,_]) ZiZ) (ih i (by omega) (by omega) (pre:=pre++ [i]) (p:=(ZV p t.s i)) (b:=(b-1)) w0 w (Sat.bundle (l1:= [_,_,_,_,_]) (hS.pk [0,1,2,3,4,5,6,7,8,9,10,11])) (fun w1 hb hF=>UX (vv:=xq) hsp (hP w1 hb (Zdg hF 0 rfl)) (V8 hF 4 rfl (k:=2*i) (by omega) (by omega)) (V8 hF 4 rfl (k:=2*i+1) (by omega) (by omega)) (by omega) (by omega)) ((hK).sub (i:=i) (by omega) (by omega)) ((hV).sub (i:=i) (by omega) (by omega)) hv2 (IsL.snoc hI2) (by omega)) ?_;rintro _ w ⟨dt,yg,eR,rfl,xw,xg,hS⟩
   replace hS:=Sat.unbundle (l1:= [_,_,_,_,_]) (l3:= []) hS
   refine⟨⟨fun _=>hS.pk [0,1,3,5,6,7,8,9,10,11],hS.pk [0,1,3,5,6,7,8,9,10,11]⟩,?_⟩
   refine zdd<|ztn ?_
   refine Zf ?_ ?_<;>intro hc
   ·
    refine zsr<|(zP)<|zlt<|zrt<|ztr<|zbr<|ztr<|ztr<|zbr<|ztr<|zf1 ⟨_,rfl,?_⟩
    obtain⟨l9,hl9⟩:=Option.ne_none_iff_exists'.1 ‹(wrT (t.kid i) (ZV p t.s i) (b-1))≠none›
    rw [hl9] at xg
    have hw9:wrT t p b=some (i::l9):=hfw.trans (Ze3 (by omega) hl9)
    exact⟨_,_,_,(ZK (show wrT t p b≠none by rw [hw9];exact Option.some_ne_none _)).symm,xw,by rw [hw9];rw [List.append_assoc] at xg;exact xg,hS.pk [0,1,2,3,4,5]⟩
   refine zsk<|ztn<|zrg ?_
   iterate 2 refine zlv (xlb 2 pl_22 hS) ?_
   have hqz:=xg.1;have hqy:=xw.n1;rw [List.length_append,List.length_append,List.length_singleton] at hqz
   refine(zV (xln Zb xw))<|(zV (Zq (r:=yg-1)))<|zlv (ZbB (i:=yg-1) (yg-1).toNat Zb xw (Frame.dq.roomy (hS.dqOf 4 rfl))) ?_
   have zQ:=(RN (e:=yg-1) xw (by omega) (by omega))
   replace hS:=hS.dqpre (n:=yg) 4 (yg-1).toNat (by omega)
   replace hS:=hS.dqn 4 (by omega:((yg-1).toNat:Int)=yg-1)
   refine zle (xsb 2 pl_22 hS (hv:=zQ.one)) ?_;clear hS;rintro w hS
   refine zx10<|(zV (Zh (r:=i+1)))<|(zP)<|zln ?_
   rw [show(wrT (t.kid i) (ZV p t.s i) (b-1))=none from Classical.byContradiction ‹¬((wrT (t.kid i) (ZV p t.s i) (b-1))≠none)›] at xg
   simp only [Option.getD_none,List.append_nil] at xg
   refine zlq ⟨(TW dt (yg-1).toNat),yg-1,eR,i+1,rfl,(by omega),(by omega),?_,?_,?_,?_,rfl,hS.pk [0,1,2,3,4,5,6,7,8,9]⟩
   ·
    rw [hfw];exact ZiS (by omega) (show Tz t p b i=none from Classical.byContradiction ‹¬((wrT (t.kid i) (ZV p t.s i) (b-1))≠none)›)
   ·
    exact zQ
   ·
    exact IsL.init (i:=i) xg
   ·
    have h8:=xg.1;have h9:=hI2.1;rw [List.length_append,List.length_singleton] at h8;omega
  refine zx8<|(zP)<|zx1<|zf1 ⟨_,rfl,?_⟩
  have hw9:wrT t p b=none:=hfw.trans (Ze4 (by omega))
  exact⟨_,_,_,(Zz (show¬wrT t p b≠none by rw [hw9];exact fun h=>h rfl)).symm,fc,by rw [hw9];simpa using hI2,hS.pk [0,1,2,3,4,5]⟩
end Go.Proofs.YtkichmnjjblodaaGreat
