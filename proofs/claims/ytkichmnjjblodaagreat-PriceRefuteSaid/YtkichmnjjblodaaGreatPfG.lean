import Derived.Test.YtkichmnjjblodaaGreatPfF
import Derived.ProofKit
import Derived.OpenShut
import Derived.ChangeOld
import Derived.SizedLaws
import Derived.Lib.SmallJoins
import Derived.Deep.Slices
set_option linter.unusedVariables false
set_option linter.unusedSimpArgs false
set_option maxRecDepth 20000
set_option maxHeartbeats 4000000
namespace Go.Proofs.Gw
open Go Go.RowKit
variable {i:Int} {bs:Int->Int->Int}
def Vh(p:Prob)(n:Int)(bs:Int->Int->Int):Prop:=∃A:Int->Int->Int,(∀k j,0<=A k j)/\(∀j,0<=j->j<p.m->Zd (fun k=>A k j) n.toNat=p.D j)/\∀k,0<=k->k<n->Zx p (fun j=>bs k j+A k j) p.m.toNat<=p.stock+p.kerf
def BFit(p:Prob)(n:Int)(bs:Int->Int->Int):Prop:=∀k,0<=k->k<n->(∀j,0<=j->j<p.m->0<=bs k j/\bs k j<=2000)/\Zx p (bs k) p.m.toNat<=p.stock+p.kerf
def Ye(m:Int)(f g:Int->Int):Prop:=∀j,0<=j->j<m->f j=g j
def WE(bs:Int->Int->Int)(k i:Int):Int->Int->Int:=upd bs k (upd (bs k) i (bs k i+1))
def Prob.less1(p:Prob)(i:Int):Prob:=p.with (upd p.D i (p.D i-1))
theorem VS{p:Prob}(hp:p.Ok)(hd:1<=p.D i):(p.less1 i).Ok:=Zct hp fun k k0 k1=>by
  have he:=hp.all k k0 (by rw [<-hp.d];exact k1)
  unfold Prob.each at he
  by_cases e:k=i
  · subst e;rw [Zk];omega
  · rw [upd_ne _ _ e];omega
theorem Xy(f:Int->Int){q y:Int}(q0:0<=q):∀{n:Nat},q<n->Zd (upd f q y) n=Zd f n-f q+y
  |0,h=>by omega
  | n +1,h=>by
    simp only [Zd]
    by_cases e:q=n
    · subst e
      have:Zd (upd f (n:Int) y) n=Zd f n:=Zj fun j j0 j1=>by rw [upd_ne _ _ (by omega)]
      rw [this,Zk];omega
    · have ih:=Xy f q0 (y:=y) (n:=n) (by omega)
      rw [ih,upd_ne _ _ (fun h=>e h.symm)];omega
theorem Ub{f:Int->Int}:∀{n:Nat},1<=Zd f n->∃k,0<=k/\k<(n:Int)/\1<=f k
  |0,h=>by simp [Zd] at h
  | n +1,h=>by
    by_cases e:1<=f n
    · exact⟨n,by omega,by omega,e⟩
    · simp only [Zd] at h
      obtain⟨k,h0,h1,h2⟩:=Ub (f:=f) (n:=n) (by omega)
      exact⟨k,h0,by omega,h2⟩
theorem Zcg{p:Prob}(hp:p.Ok){x y:Int->Int}(h:∀j,0<=j->j<p.m->x j<=y j):Zx p x p.m.toNat<=Zx p y p.m.toNat:=Z5 fun j j0 j1=>by
  have h2:=hp.all j j0 (by omega)
  unfold Prob.each at h2
  have hk:=hp.k1
  exact Int.mul_le_mul_of_nonneg_right (h j j0 (by omega)) (by omega)
theorem Vy{p:Prob}{x y:Int->Int}(h:∀j,0<=j->j<p.m->x j=y j):Zx p x p.m.toNat=Zx p y p.m.toNat:=Zj fun j j0 j1=>by
  rw [h j j0 (by omega)]
theorem W7{p:Prob}(hp:p.Ok){a:Int->Int}(h:∀j,0<=j->j<p.m->0<=a j)(hu:Zx p a p.m.toNat<=p.stock+p.kerf):FitsP p p.m a:=by
  refine⟨hp,rfl,fun j j0 j1=>⟨h j j0 j1,?_⟩,hu⟩
  have h1:=Xc (f:=fun i=>a i*(p.L i+p.kerf)) (n:=p.m.toNat) j0 (by omega) (fun i i0 i1=>by
    have h2:=hp.all i i0 (by omega)
    unfold Prob.each at h2
    exact Int.mul_nonneg (h i i0 (by omega)) (by have:=hp.k1;omega))
  have h2:=hp.all j j0 j1
  unfold Prob.each at h2
  have hk:=hp.k1;have hs:=hp.s2
  apply Classical.byContradiction;intro hn
  have h3:2001*(p.L j+p.kerf)<=a j*(p.L j+p.kerf):=Int.mul_le_mul_of_nonneg_right (by omega) (by omega)
  unfold Zx at hu
  omega
theorem Zd0{p:Prob}{n:Int}(hb:BFit p n bs)(hd:∀j,0<=j->j<p.m->p.D j=0):Vh p n bs:=
  ⟨fun _ _=>0,fun _ _=>Int.le_refl _,fun j j0 j1=>by rw [hd j j0 j1];exact ZP _,fun k k0 k1=>by
    simp only [Int.add_zero];exact(hb k k0 k1).2⟩
theorem Tv(m:Int)(bs:Int->Int->Int):∀(c:Nat) {k:Int},k.toNat<=c->0<=k->∃q,0<=q/\q<=k/\Ye m (bs q) (bs k)/\∀r,0<=r->r<q->¬Ye m (bs r) (bs q)
  |0,k,hc,h0=>⟨k,h0,Int.le_refl _,fun _ _ _=>rfl,fun r r0 r1=>by omega⟩
  | c +1,k,hc,h0=>by
    by_cases h:∃r,0<=r/\r<k/\Ye m (bs r) (bs k)
    · obtain⟨r,r0,r1,hr⟩:=h
      obtain⟨q,q0,q1,q2,q3⟩:=Tv m bs c (k:=r) (by omega) r0
      exact⟨q,q0,by omega,fun j j0 j1=>(q2 j j0 j1).trans (hr j j0 j1),q3⟩
    · exact⟨k,h0,Int.le_refl _,fun _ _ _=>rfl,fun r r0 r1 hr=>h ⟨r,r0,r1,hr⟩⟩
theorem RQ{p:Prob}(hp:p.Ok){n:Int}(hb:BFit p n bs){k:Int}(k0:0<=k)(k1:k<n)(hf:FitsP p p.m (upd (bs k) i (bs k i+1))):BFit p n (WE bs k i):=fun q q0 q1=>by
  unfold WE
  by_cases e:q=k
  · subst e;rw [Zk];exact⟨fun j j0 j1=>hf.all j j0 j1,hf.used⟩
  · rw [upd_ne _ _ e];exact hb q q0 q1
theorem RR {p:Prob} {n:Int} {k:Int} (k0:0<=k) (k1:k<n) (i0:0<=i) (h:Vh (p.less1 i) n (WE bs k i)):Vh p n bs:=by
  obtain⟨A,h1,h2,h3⟩:=h
  refine⟨WE A k i,fun q j=> ?_,fun j j0 j1=> ?_,fun q q0 q1=> ?_⟩
  · unfold WE;by_cases e:q=k
    · subst e;rw [Zk];by_cases e2:j=i
      · subst e2;rw [Zk];have:=h1 q j;omega
      · rw [upd_ne _ _ e2];exact h1 q j
    · rw [upd_ne _ _ e];exact h1 q j
  · have h4:=h2 j j0 j1
    by_cases e:j=i
    · subst e
      have e2:(fun x=>WE A k j x j)=upd (fun x=>A x j) k (A k j+1):=by
        funext x;unfold WE;by_cases ex:x=k
        · subst ex;rw [Zk,Zk,Zk]
        · rw [upd_ne _ _ ex,upd_ne _ _ ex]
      rw [e2,Xy _ k0 (by omega),h4]
      show(upd p.D j (p.D j-1)) j-_+_=_
      rw [Zk];omega
    · have e2:(fun x=>WE A k i x j)=fun x=>A x j:=by
        funext x;unfold WE;by_cases ex:x=k
        · subst ex;rw [Zk,upd_ne _ _ e]
        · rw [upd_ne _ _ ex]
      rw [e2,h4]
      show(upd p.D i (p.D i-1)) j=_
      rw [upd_ne _ _ e]
  · refine Int.le_trans (Int.le_of_eq (Vy fun j j0 j1=> ?_)) (h3 q q0 q1)
    unfold WE
    by_cases e:q=k
    · subst e;rw [Zk,Zk];by_cases e2:j=i
      · subst e2;rw [Zk,Zk];omega
      · rw [upd_ne _ _ e2,upd_ne _ _ e2]
    · rw [upd_ne _ _ e,upd_ne _ _ e]
theorem Zbk {p:Prob} (hp:p.Ok) {n:Int} (n0:0<=n) (hb:BFit p n bs) (i0:0<=i) (i1:i<p.m) (hd:1<=p.D i) (h:Vh p n bs):
    ∃k,0<=k/\k<n/\(∀r,0<=r->r<k->¬Ye p.m (bs r) (bs k))/\FitsP p p.m (upd (bs k) i (bs k i+1))/\Vh (p.less1 i) n (WE bs k i):=by
  obtain⟨A,h1,h2,h3⟩:=h
  obtain⟨k,k0,k1,hk⟩:=Ub (f:=fun k=>A k i) (n:=n.toNat) (by have:=h2 i i0 i1;omega)
  replace k1:k<n:=by omega
  obtain⟨q,q0,q1,q2,q3⟩:=Tv p.m bs k.toNat (k:=k) (Nat.le_refl _) k0
  let B:Int->Int->Int:=upd (upd A q (A k)) k (A q)
  have hBq:B q=A k:=by
    show upd (upd A q (A k)) k (A q) q=A k
    by_cases e:q=k
    · subst e;rw [Zk]
    · rw [upd_ne _ _ e,Zk]
  have hB0:∀x j,0<=B x j:=fun x j=>by
    show 0<=upd (upd A q (A k)) k (A q) x j
    by_cases e:x=k
    · subst e;rw [Zk];exact h1 _ _
    · rw [upd_ne _ _ e];by_cases e2:x=q
      · subst e2;rw [Zk];exact h1 _ _
      · rw [upd_ne _ _ e2];exact h1 _ _
  have hBs:∀j,Zd (fun x=>B x j) n.toNat=Zd (fun x=>A x j) n.toNat:=fun j=>by
    have e:(fun x=>B x j)=upd (upd (fun x=>A x j) q (A k j)) k (A q j):=by
      funext x
      show upd (upd A q (A k)) k (A q) x j=_
      unfold upd;split
      · rfl
      · split<;>rfl
    rw [e,Xy _ k0 (by omega),Xy _ q0 (by omega)]
    by_cases e:k=q
    · subst e;rw [Zk];omega
    · rw [upd_ne _ _ e];omega
  have hBu:∀x,0<=x->x<n->Zx p (fun j=>bs x j+B x j) p.m.toNat<=p.stock+p.kerf:=fun x x0 x1=>by
    by_cases e:x=q
    · subst e
      rw [hBq]
      refine Int.le_trans (Int.le_of_eq (Vy fun j j0 j1=> ?_)) (h3 k k0 k1)
      rw [q2 j j0 j1]
    · by_cases e2:x=k
      · subst e2
        have hx:B x=A q:=by show upd (upd A q (A x)) x (A q) x=_;rw [Zk]
        rw [hx]
        refine Int.le_trans (Int.le_of_eq (Vy fun j j0 j1=> ?_)) (h3 q q0 (by omega))
        rw [q2 j j0 j1]
      · have hx:B x=A x:=by show upd (upd A q (A k)) k (A q) x=_;rw [upd_ne _ _ e2,upd_ne _ _ e]
        rw [hx];exact h3 x x0 x1
  have hqi:1<=B q i:=by rw [hBq];exact hk
  refine⟨q,q0,by omega,q3,W7 hp (fun j j0 j1=> ?_) ?_,upd B q (upd (B q) i (B q i-1)),fun x j=> ?_,fun j j0 j1=> ?_,fun x x0 x1=> ?_⟩
  · have:=(hb q q0 (by omega)).1 j j0 j1
    by_cases e:j=i
    · subst e;rw [Zk];omega
    · rw [upd_ne _ _ e];omega
  · refine Int.le_trans (Zcg hp fun j j0 j1=> ?_) (hBu q q0 (by omega))
    have h5:=hB0 q j
    by_cases e:j=i
    · subst e;rw [Zk];omega
    · rw [upd_ne _ _ e];omega
  · by_cases e:x=q
    · subst e;rw [Zk];by_cases e2:j=i
      · subst e2;rw [Zk];omega
      · rw [upd_ne _ _ e2];exact hB0 x j
    · rw [upd_ne _ _ e];exact hB0 x j
  · have h4:=h2 j j0 j1
    have h5:=hBs j
    show _=(upd p.D i (p.D i-1)) j
    by_cases e:j=i
    · subst e
      have e2:(fun x=>upd B q (upd (B q) j (B q j-1)) x j)=upd (fun x=>B x j) q (B q j-1):=by
        funext x;by_cases ex:x=q
        · subst ex;rw [Zk,Zk,Zk]
        · rw [upd_ne _ _ ex,upd_ne _ _ ex]
      rw [e2,Xy _ q0 (by omega),Zk];omega
    · have e2:(fun x=>upd B q (upd (B q) i (B q i-1)) x j)=fun x=>B x j:=by
        funext x;by_cases ex:x=q
        · subst ex;rw [Zk,upd_ne _ _ e]
        · rw [upd_ne _ _ ex]
      rw [e2,upd_ne _ _ e];omega
  · refine Int.le_trans (Int.le_of_eq (Vy (p:=p) fun j j0 j1=> ?_)) (hBu x x0 x1)
    unfold WE
    by_cases e:x=q
    · subst e;rw [Zk,Zk];by_cases e2:j=i
      · subst e2;rw [Zk,Zk];omega
      · rw [upd_ne _ _ e2,upd_ne _ _ e2]
    · rw [upd_ne _ _ e,upd_ne _ _ e]
theorem Zd1{p:Prob}(hp:p.Ok){n:Int}(n0:0<=n)(h:Vh p n (fun _ _=>0)):∃L,LFit p L/\(∀j,0<=j->j<p.m->p.D j<=Yx L j)/\(L.length:Int)=n:=by
  obtain⟨A,h1,h2,h3⟩:=h
  obtain⟨L,g1,g2,g3⟩:=Uf (p:=p) (len:=fun _=>p.m) (pt:=A) (cnt:=fun _=>1) n.toNat fun i i0 i1=>by
    refine⟨W7 hp (fun j j0 j1=>h1 i j) ?_,by omega⟩
    have:=h3 i i0 (by omega)
    simpa using this
  refine⟨L,g1,fun j j0 j1=> ?_,by rw [g3,XR];omega⟩
  rw [g2,<-h2 j j0 j1]
  unfold Xr
  exact Int.le_of_eq (Zj fun k _ _=>by rw [Int.mul_one])
def Zy(p:Prob):Int:=Zd p.D p.m.toNat
theorem YN{p:Prob}(hp:p.Ok):0<=Zy p/\Zy p<=20000:=by
  have h:=WJ (f:=p.D) (A:=1000) (n:=p.m.toNat) (fun i i0 i1=>by
    have he:=hp.all i i0 (by omega)
    unfold Prob.each at he
    omega)
  have:=hp.m2
  unfold Zy;omega
theorem Ro{p:Prob}(i0:0<=i)(i1:i<p.m):Zy (p.less1 i)=Zy p-1:=by
  have h:=Xy p.D (y:=p.D i-1) i0 (n:=p.m.toNat) (by omega)
  show Zd (upd p.D i (p.D i-1)) p.m.toNat=Zd p.D p.m.toNat-1
  rw [h];omega
theorem BFit.less{p:Prob}{n:Int}(h:BFit p n bs):BFit (p.less1 i) n bs:=h
theorem BFit.zero{p:Prob}(hp:p.Ok)(n:Int):BFit p n (fun _ _=>0):=fun k k0 k1=>⟨fun j j0 j1=>⟨Int.le_refl _,by show(0:Int)<=2000;omega⟩,by
  have e:Zx p (fun _=>0) p.m.toNat=0:=by
    unfold Zx
    rw [Zj (g:=fun _=>0) fun i i0 i1=>by simp]
    exact ZP _
  have:=hp.s1;have:=hp.k1
  dsimp only
  rw [e];omega⟩
end Go.Proofs.Gw
namespace Go.Proofs.YtkichmnjjblodaaGreat
open Go Go.RowKit Go.Proofs.Gw
theorem ZiT:Zc Tryz.prog 18=true:=by kernel_rfl
theorem ZiM:Zc Tryz.prog 55=true:=by kernel_rfl
theorem Zfj:Zc Tryz.prog 59=true:=by kernel_rfl
theorem TJ{vL vD:Value}{p:Prob}(w0:World)(h:PAt w0 vL vD p)(hp:p.Ok):
    Calls Tryz.prog 55 [.agg #[vL,vD,.int .i64 p.stock,.int .i64 p.kerf]].toArray w0 fun e w=>∃v,e= .returned v/\v= .int .i64 (Zy p)/\Sat w0 w []:=by
  have hm:=h.L.slh.n0;have hm1:=h.L.slh.n1;have hd:=h.D.slh.n0;have hd1:=h.D.slh.n1;have hs:=h.is;have hk:=h.ik
  have hpm:=hp.m1;have qz:=hp.m2;have hpd:=hp.d;have hs1:=hp.s1;have hs2:=hp.s2;have hk1:=hp.k1;have hk2:=hp.k2
  refine zenG Tryz.func55 Tryz.ntmps55 fun w hS=> ?_
  refine zsr<|zla (xbx (cs:= [_,_,_,_]) hS) ?_;rintro _ w ⟨g1,rfl,hS⟩
  refine(zP)<|zlz<|(zP)<|zx5<|(zP)<|zx6<|zlp (fun mm M w=>∃(s:Int) (i:Int),mm=((p.m-i).toNat)/\(0<=i)/\(i<=p.m)/\(s=Zd p.D i.toNat)/\(0<=s/\s<=1000*i)/\M= [(1,.pointer (some ⟨g1,0,none⟩)),(2,.int .i64 0),(3,.int .i64 s),(4,.int .i64 i)]/\Sat w0 w [.blk g1 [vL,vD,.int .i64 p.stock,.int .i64 p.kerf]]) ⟨0,0,rfl,(by omega),(by omega),?_,(by omega),rfl,hS⟩ ?_
  ·
   rfl
  clear hS w
  rintro mm M w ⟨s,i,rfl,h0,h1,hs9,hsb,rfl,hS⟩
  refine zx11<|(zP)<|(zV (xfb 1 fd_24_1))<|(zV (xlb 0 pl_22 hS))<|(zV (xln Zb h.D.slh))<|(zP)<|zlt<|Ze ?_ ?_<;>intro hc
  ·
   refine zsk<|ztn<|zsq<|zbk<|zrg<|(zP)<|(zV (xfb 1 fd_24_1))<|(zV (xlb 0 pl_22 hS))<|(zP)<|(zV (xix (kk:=i) Zb h.D.slh))<|zlv (xlr (u:= .int .i64 (p.D i)) pl_3 (h.D.below hS.below)) ?_
   have hbv:=h.iD i
   have hei:=hp.all i h0 (by omega);unfold Prob.each at hei
   refine(zV (Zh (r:=s+p.D i)))<|(zP)<|zx10<|(zP)<|(zV (Zh (r:=i+1)))<|(zP)<|zln<|zlq ⟨s+p.D i,i+1,rfl,(by omega),(by omega),?_,(by omega),rfl,hS⟩
   ·
    rw [ZJ _ h0,<-hs9]
  refine zx8<|(zP)<|(zP)<|zx1<|zf1 ⟨_,rfl,?_⟩
  obtain rfl:i=p.m:=by omega
  exact⟨congrArg (Value.int .i64) hs9,hS.nl⟩
theorem ZdN{vL vD:Value}{p:Prob}(w0:World)(h:PAt w0 vL vD p)(hp:p.Ok):
    Calls Tryz.prog 29 [.agg #[vL,vD,.int .i64 p.stock,.int .i64 p.kerf]].toArray w0 fun e w=>∃v,e= .returned v/\v=B (Zy p<=6/\p.m<=4)/\Sat w0 w []:=by
  have hm:=h.L.slh.n0;have hm1:=h.L.slh.n1;have hd:=h.D.slh.n0;have hd1:=h.D.slh.n1;have hs:=h.is;have hk:=h.ik
  have hpm:=hp.m1;have qz:=hp.m2;have hpd:=hp.d;have hs1:=hp.s1;have hs2:=hp.s2;have hk1:=hp.k1;have hk2:=hp.k2
  refine zenG Tryz.func29 Tryz.ntmps29 fun w hS=> ?_
  refine zsr<|zla (xbx (cs:= [_,_,_,_]) hS) ?_;rintro _ w ⟨g1,rfl,hS⟩
  refine(zP)<|zlz<|(zV (xls 0 ZV hS))<|zlc (xc0 ZiM) (TJ (p:=p) w (h.below hS.below) hp) ?_;rintro _ w ⟨rfl,hS'⟩
  replace hS:=hS.cmp hS';clear hS'
  refine(zP)<|(zP)<|zlb 6 ?_ ?_<;>intro hc
  ·
   refine(zV (xfb 0 fd_24_0))<|(zV (xlb 0 pl_22 hS))<|(zV (xln Zb h.L.slh))<|(zP)<|(zP)<|(zP)<|zx1<|zf1 ⟨_,rfl,?_⟩
   exact⟨Zm (by omega),hS.nl⟩
  iterate 4 refine zlo ?_
  refine(zP)<|(zP)<|zx1<|zf1 ⟨_,rfl,?_⟩
  exact⟨Zf (by omega),hS.nl⟩
theorem ZaL{f:Int->Int}{i:Int}(hf:∀k,-9223372036854775808<=f k/\f k<=9223372036854775807)(h1:1<=f i):∀k,-9223372036854775808<=Gw.upd f i (f i-1) k/\Gw.upd f i (f i-1) k<=9223372036854775807:=fun k=>by
  have g1:=hf k;have g2:=hf i
  unfold Gw.upd;split<;>omega
theorem Zcr{w:World}{vM x v:Value}{n k:Int}{mv:Int->Value}{ml:Int->Int}{bs:Int->Int->Int}{g:Int->Int}(h:MAt w vM n mv ml bs)(hx:Row w x 1 n (upd mv k v))(hv:Row w v 1 (ml k) (ints g))(hr:Gw.Wg v):MAt w x n (upd mv k v) ml (upd bs k g):=by
  refine⟨hx,fun i i0 i1=> ?_,fun i i0 i1=> ?_⟩
  · by_cases e:i=k
    · subst e;rw [gu_self,Gw.Zk];exact hv
    · rw [gu_ne e,Gw.upd_ne _ _ e];exact h.p i i0 i1
  · by_cases e:i=k
    · subst e;rw [gu_self];exact hr
    · rw [gu_ne e];exact h.room i i0 i1
theorem Zm6 (N:Nat):∀{vL vD:Value} {p:Prob} {vM:Value} {n:Int} {mv:Int->Value} {ml:Int->Int} {bs:Int->Int->Int} (w0:World) (h:PAt w0 vL vD p) (hp:p.Ok) (hM:MAt w0 vM n mv ml bs) (hml:∀k,0<=k->k<n->ml k=p.m) (hb:BFit p n bs) (hn5:n<=100000) (hN:(Zy p).toNat<N),
    Calls Tryz.prog 59 [.agg #[vL,vD,.int .i64 p.stock,.int .i64 p.kerf],vM].toArray w0 fun e w=>∃v,e= .returned v/\v=B (Vh p n bs)/\Sat w0 w []:=by
  induction N with
  |zero=>intros;omega
  | succ N ih=>
    intro vL vD p vM n mv ml bs w0 h hp hM hml hb hn5 hN
    have hm:=h.L.slh.n0;have hm1:=h.L.slh.n1;have hd:=h.D.slh.n0;have hd1:=h.D.slh.n1;have hs:=h.is;have hk:=h.ik
    have hpm:=hp.m1;have qz:=hp.m2;have hpd:=hp.d;have hs1:=hp.s1;have hs2:=hp.s2;have hk1:=hp.k1;have hk2:=hp.k2
    have hn:=hM.row.slh.n0;have hn1:=hM.row.slh.n1
    refine zenG Tryz.func59 Tryz.ntmps59 fun w hS=> ?_
    refine zsr<|zla (xbx (cs:= [_,_,_,_]) hS) ?_;rintro _ w ⟨g1,rfl,hS⟩
    refine(zP)<|zlz<|(zP)<|zlt<|zsq<|zbk<|zlp (fun mm M w=>∃(i:Int),mm=((p.d-i).toNat)/\(0<=i)/\(i<=p.d)/\(∀k,0<=k->k<i->p.D k=0)/\M= [(1,vM),(2,.pointer (some ⟨g1,0,none⟩)),(4,.bool false),(5,.int .i64 i)]/\Sat w0 w [.blk g1 [vL,vD,.int .i64 p.stock,.int .i64 p.kerf]]) ⟨0,rfl,(by omega),(by omega),?_,rfl,hS⟩ ?_
    ·
     intro k h0 h1;omega
    clear hS w
    rintro mm M w ⟨i,rfl,h0,h1,qa,rfl,hS⟩
    refine zx11<|(zP)<|(zV (xfb 1 fd_24_1))<|(zV (xlb 0 pl_22 hS))<|(zV (xln Zb h.D.slh))<|(zP)<|(zP)<|zlb 16 ?_ ?_<;>intro hc
    ·
     refine(zV (xfb 1 fd_24_1))<|(zV (xlb 0 pl_22 hS))<|(zP)<|(zV (xix (kk:=i) Zb h.D.slh))<|zlv (xlr (u:= .int .i64 (p.D i)) pl_3 (h.D.below hS.below)) ?_
     have hbv:=h.iD i
     refine(zP)<|(zP)<|zlt<|Ze ?_ ?_<;>intro hc
     ·
      refine zsk<|ztn<|zbk<|zrg<|(zP)<|(zV (Zh (r:=i+1)))<|(zP)<|zln<|zbn<|zlq ⟨i+1,rfl,(by omega),(by omega),?_,rfl,hS⟩
      ·
       intro k h0' h1';rcases Int.lt_or_eq_of_le (show k<=i by omega) with hk|hk;exact qa k h0' hk;rw [hk];omega
     refine zx18<|(zP)<|(zV (xfb 1 fd_24_1))<|(zV (xlb 0 pl_22 hS))<|(zV (xln Zb h.D.slh))<|(zV (xkf YL))<|zlt<|zcf<|zsk<|ztn<|zsr ?_
     refine zlv (xls 0 ZV hS) ?_
     have hei:=hp.all i h0 (by omega);unfold Prob.each at hei
     refine zla (xal (cs:= [_,_,_,_]) Ze9 hS) ?_;rintro _ w ⟨g2,rfl,hS⟩
     refine zle (xsw 1 ZV hS (hd:=(Za h.L.slh.one (Za h.D.slh.one (Za rfl (Za rfl Zi)))))) ?_;clear hS;rintro w hS
     refine zlz<|zla (xl0 (c:=ints p.D) Zb hS) ?_;rintro v1 w ⟨hS,hv1⟩
     refine(zV (xfb 1 fd_24_1))<|(zV (xlb 0 pl_22 hS))<|zla (xap 2 (r:=p.d) (f:=ints p.D) Zb Zt hS (h.D.below hS.below) (by exact ZU _ _)) ?_;rintro v2 w ⟨hS,hv2⟩
     refine(zV (xfb 1 fd_24_1))<|zle (xsb 1 pl_22 hS (hv:=hv2.one)) ?_;clear hS;rintro w hS
     refine zlz<|(zV (xfb 1 fd_24_1))<|(zV (xlb 1 pl_22 hS))<|(zP)<|(zV (xix (kk:=i) Zb hv2))<|(zV (xlr (u:= .int .i64 (p.D i)) pl_3 (hS.rowN 2 rfl)))<|(zV (Zp (r:=p.D i-1)))<|(zV (xix (kk:=i) Zb hv2))<|zle (xso 2 pl_3 hS (Zq _ _ _)) ?_;clear hS;rintro w hS
     refine zx5<|(zP)<|zx6<|zlp (fun mm M w=>∃(z:Int),mm=((n-z).toNat)/\(0<=z)/\(z<=n)/\(∀r,0<=r->r<z->¬((∀s,0<=s->s<r->¬Ye p.m (bs s) (bs r))/\FitsP p p.m (upd (bs r) i (bs r i+1))/\Vh (p.less1 i) n (WE bs r i)))/\M= [(1,vM),(2,.pointer (some ⟨g1,0,none⟩)),(5,.int .i64 i),(6,.pointer (some ⟨g2,0,none⟩)),(7,.int .i64 z)]/\Sat w0 w [.blk g1 [vL,vD,.int .i64 p.stock,.int .i64 p.kerf],.blk g2 [vL,v2,.int .i64 p.stock,.int .i64 p.kerf],.own v2 1 3 p.d (ints (upd p.D i (p.D i-1)))]) ⟨0,rfl,(by omega),(by omega),?_,rfl,hS⟩ ?_
     ·
      intro r r0 r1;omega
     clear hS w
     rintro mm M w ⟨z,rfl,k0,k1,hno,rfl,hS⟩
     refine zx11<|(zP)<|(zP)<|(zV (xln Zl hM.row.slh))<|(zP)<|zlt<|Ze ?_ ?_<;>intro hc
     ·
      refine zx3<|(zP)<|R1 8 (u:=B (∀s,0<=s->s<0->¬Ye p.m (bs s) (bs z))) (ZX (p:=∀s,0<=s->s<0->¬Ye p.m (bs s) (bs z)) (fun s s0 s1=>by omega)) ?_
      refine zx5<|(zP)<|zx6<|zlp (fun mm M w=>∃(q:Int),mm=((z-q).toNat)/\(0<=q)/\(q<=z)/\M= [(1,vM),(2,.pointer (some ⟨g1,0,none⟩)),(5,.int .i64 i),(6,.pointer (some ⟨g2,0,none⟩)),(7,.int .i64 z),(8,B (∀s,0<=s->s<q->¬Ye p.m (bs s) (bs z))),(9,.int .i64 q)]/\Sat w0 w [.blk g1 [vL,vD,.int .i64 p.stock,.int .i64 p.kerf],.blk g2 [vL,v2,.int .i64 p.stock,.int .i64 p.kerf],.own v2 1 3 p.d (ints (upd p.D i (p.D i-1)))]) ⟨0,rfl,(by omega),(by omega),rfl,hS⟩ ?_
      clear hS w
      rintro mm M w ⟨q,rfl,q0,q1,rfl,hS⟩
      refine zx11<|(zP)<|(zP)<|(zP)<|zlt<|Ze ?_ ?_<;>intro hc
      ·
       refine zx29<|zdst [0,1,2] [0,1,2] 1000 mx_ hS ?_;clear hS;intro w hS
       refine(zDw 0 xmv)<|(zDw 1 xmv)<|zdb 56 ?_ ?_<;>intro hc
       ·
        refine(zDw 2 xmv)<|(zDw 3 xmv)<|(zDw 4 (xix (kk:=q) Zl hM.row.slh))<|(zDl 5 (fun w hS=>(xlr (u:=(mv q)) pl_22 (hM.row.below hS.below))))<|(zDw 6 xmv)<|(zDw 7 xmv)<|(zDw 8 (xix (kk:=z) Zl hM.row.slh))<|(zDl 9 (fun w hS=>(xlr (u:=(mv z)) pl_22 (hM.row.below hS.below))))<|zdc 10 (xc0 ZiT) (Zba (n:=(ml q)) (m:=(ml z)) (f:=(bs q)) (g:=(bs z)) w ((hM.p q (by omega) (by omega)).below hS.below) ((hM.p z (by omega) (by omega)).below hS.below)) ?_;rintro _ w ⟨rfl,hS'⟩
        replace hS:=hS.cmp hS';clear hS'
        refine⟨⟨fun _=>hS,hS⟩,?_⟩
        refine(zDw 11 Yz)<|(zDw 12 xpt)<|(zDw 13 xas)<|Zbr 8 (u:=B (∀s,0<=s->s<q+1->¬Ye p.m (bs s) (bs z))) (Zm (p:=¬((ml q)=(ml z)/\∀k,0<=k->k<(ml q)->(bs q) k=(bs z) k)) (q:=∀s,0<=s->s<q+1->¬Ye p.m (bs s) (bs z)) ⟨fun hh s s0 s1=>by by_cases e:s=q;(subst e;exact fun h9=>hh ⟨by have:=hml s s0 (by omega);have:=hml z k0 (by omega);omega,fun j j0 j1=>h9 j j0 (by have:=hml s s0 (by omega);omega)⟩);exact(‹∀s,0<=s->s<q->¬Ye p.m (bs s) (bs z)›) s s0 (by omega),fun hh h9=>hh q q0 (by omega) (fun j j0 j1=>h9.2 j j0 (by have:=hml q q0 (by omega);omega))⟩) ?_
        refine zdd<|zbn<|ztn<|zrg ?_
        refine(zP)<|(zV (Zh (r:=q+1)))<|(zP)<|zln<|zlq ⟨q+1,rfl,(by omega),(by omega),rfl,hS⟩
       refine(zDo 2)<|(zDo 3)<|(zDo 4)<|(zDo 5)<|(zDo 6)<|(zDo 7)<|(zDo 8)<|(zDo 9)<|(zDo 10)<|(zDo 11)<|(zDw 12 xpf)<|(zDw 13 xas)<|Zbr 8 (u:=B (∀s,0<=s->s<q+1->¬Ye p.m (bs s) (bs z))) (Zf (p:=∀s,0<=s->s<q+1->¬Ye p.m (bs s) (bs z)) (fun hh=>‹¬(∀s,0<=s->s<q->¬Ye p.m (bs s) (bs z))› (fun s s0 s1=>hh s s0 (by omega)))) ?_
       refine zdd<|zbn<|ztn<|zrg ?_
       refine(zP)<|(zV (Zh (r:=q+1)))<|(zP)<|zln<|zlq ⟨q+1,rfl,(by omega),(by omega),rfl,hS⟩
      refine zx18<|(zP)<|(zP)<|zlt<|Ze ?_ ?_<;>intro hc
      ·
       refine zxt<|ztx<|zbh<|ztn<|zrg<|(zP)<|(zV (Zh (r:=z+1)))<|(zP)<|zln<|zlq ⟨z+1,rfl,(by omega),(by omega),?_,rfl,hS⟩
       ·
        intro r r0 r1;rcases Int.lt_or_eq_of_le (show r<=z by omega) with hj|hj
        · exact hno r r0 hj
        · rw [hj];rintro⟨g1,g2,g3⟩
          first
          |exact absurd g3 ‹_›
          |exact absurd (show FitsP p (ml z) (upd (bs z) i (bs z i+1)) by rw [hml z k0 (by omega)];exact g2) ‹_›
          |exact absurd (show∀s,0<=s->s<q->¬Ye p.m (bs s) (bs z) from fun s s0 s1=>g1 s s0 (by omega)) ‹_›
      refine ZS<|zla (xl0 (c:=mv) Zl hS) ?_;rintro v3 w ⟨hS,hv3⟩
      refine(zP)<|zla (xap 3 (r:=n) (f:=mv) Zl Z3 hS (hM.row.below hS.below) (by exact ZU _ _) (h1:=(fun k k0 k1=>(hM.p k k0 (by omega)).slh.one))) ?_;rintro v4 w ⟨hS,hv4⟩
      refine(zP)<|zlz<|zlv xmv ?_
      have hmk:=hml z k0 (by omega)
      have hbk:=(hb z k0 (by omega)).1 i h0 (by omega)
      have hft:FitsP p (ml z) (upd (bs z) i (bs z i+1))->FitsP p p.m (upd (bs z) i (bs z i+1)):=fun hh=>by rw [hml z k0 (by omega)] at hh;exact hh
      refine(zP)<|zla (xl0 (c:=ints (bs z)) Zb hS) ?_;rintro v5 w ⟨hS,hv5⟩
      refine(zP)<|(zP)<|(zV (xix (kk:=z) Zl hM.row.slh))<|(zV (xlr (u:=(mv z)) pl_22 (hM.row.below hS.below)))<|zla (xap 4 (r:=(ml z)) (f:=ints (bs z)) Zb Zt hS ((hM.p z (by omega) (by omega)).below hS.below) (by exact ZU _ _)) ?_;rintro v6 w ⟨hS,hv6⟩
      refine(zV (xix (kk:=z) Zl hv4))<|zle (xso 3 pl_22 hS rfl (hv:=hv6.one)) ?_;clear hS;rintro w hS
      refine zlz<|(zP)<|(zP)<|(zV (xix (kk:=z) Zl hv4))<|(zV (xlr (u:=v6) pl_22 (hS.rowN 3 rfl) (e:=(gu_self _ _ _))))<|(zP)<|(zV (xix (kk:=i) Zb hv6))<|(zV (xlr (u:= .int .i64 ((bs z) i)) pl_3 (hS.rowN 4 rfl)))<|(zV (Zh (r:=(bs z) i+1)))<|(zV (xix (kk:=i) Zb hv6))<|zle (xso 4 pl_3 hS (Zq _ _ _)) ?_;clear hS;rintro w hS
      refine zx7<|zdst [0,1,2,3,4] [0,1,2,3,4] 1000 mx_ hS ?_;clear hS;intro w hS
      refine(zDl 0 (fun w hS=>(xls 0 ZV hS)))<|(zDw 1 xmv)<|(zDw 2 xmv)<|(zDw 3 (xix (kk:=z) Zl hv4))<|(zDl 4 (fun w hS=>(xlr (u:=v6) pl_22 (hS.rowN 3 rfl) (e:=(gu_self _ _ _)))))<|zdc 5 (xc0 ZcP) (KQ (p:=p) w (h.below hS.below) (hS.rowN 4 rfl)) ?_;rintro _ w ⟨rfl,hS'⟩
      replace hS:=hS.cmp hS';clear hS'
      refine⟨⟨fun _=>hS,hS⟩,?_⟩
      refine(zDw 6 xmv)<|zdb 97 ?_ ?_<;>intro hc
      ·
       refine(zDl 7 (fun w hS=>(xls 1 ZV hS)))<|(zDw 8 xmv)<|zdc 9 (xc0 Zfj) (ih (p:=p.less1 i) (bs:=WE bs z i) (ml:=ml) w (⟨(h.L.below hS.below),(hS.rowN 2 rfl),h.iL,(ZaL h.iD (show 1<=p.D i by omega)),(by(try dsimp only);omega),(by(try dsimp only);omega)⟩:PAt _ _ _ (⟨p.m,p.L,p.d,(upd p.D i (p.D i-1)),p.stock,p.kerf⟩:Prob)) (VS hp (by omega)) (Zcr (MAt.below hM hS.below) (hS.rowN 3 rfl) (hS.rowN 4 rfl) (Ent.holds.roomy (hS.holds _ (List.mem_of_getElem? (i:=4) rfl)))) hml (RQ hp hb k0 (by omega) (hft ‹FitsP p (ml z) (upd (bs z) i (bs z i+1))›)).less hn5 (by have:=Ro (p:=p) (i:=i) h0 (by omega);have:=YN (VS hp (show 1<=p.D i by omega));omega)) ?_;rintro _ w ⟨rfl,hS'⟩
       replace hS:=hS.cmp hS';clear hS'
       refine⟨⟨fun _=>hS,hS⟩,?_⟩
       refine(zDw 10 xpt)<|zdd<|ztn ?_
       refine Ze ?_ ?_<;>intro hc
       ·
        refine zsr<|(zP)<|zx2<|zf1 ⟨_,rfl,?_⟩
        exact⟨ZX (RR k0 (by omega) h0 ‹Vh (p.less1 i) n (WE bs z i)›),hS.nl⟩
       refine zx4<|(zP)<|(zV (Zh (r:=z+1)))<|(zP)<|zln<|zlq ⟨z+1,rfl,(by omega),(by omega),?_,rfl,hS.pk [0,1,2]⟩
       ·
        intro r r0 r1;rcases Int.lt_or_eq_of_le (show r<=z by omega) with hj|hj
        · exact hno r r0 hj
        · rw [hj];rintro⟨g1,g2,g3⟩
          first
          |exact absurd g3 ‹_›
          |exact absurd (show FitsP p (ml z) (upd (bs z) i (bs z i+1)) by rw [hml z k0 (by omega)];exact g2) ‹_›
          |exact absurd (show∀s,0<=s->s<q->¬Ye p.m (bs s) (bs z) from fun s s0 s1=>g1 s s0 (by omega)) ‹_›
      refine(zDo 7)<|(zDo 8)<|(zDo 9)<|(zDw 10 xpf)<|zdd<|ztn<|zcf<|zsk<|zbn<|ztn<|zrg ?_
      refine(zP)<|(zV (Zh (r:=z+1)))<|(zP)<|zln<|zlq ⟨z+1,rfl,(by omega),(by omega),?_,rfl,hS.pk [0,1,2]⟩
      ·
       intro r r0 r1;rcases Int.lt_or_eq_of_le (show r<=z by omega) with hj|hj
       · exact hno r r0 hj
       · rw [hj];rintro⟨g1,g2,g3⟩
         first
         |exact absurd g3 ‹_›
         |exact absurd (show FitsP p (ml z) (upd (bs z) i (bs z i+1)) by rw [hml z k0 (by omega)];exact g2) ‹_›
         |exact absurd (show∀s,0<=s->s<q->¬Ye p.m (bs s) (bs z) from fun s s0 s1=>g1 s s0 (by omega)) ‹_›
     refine zx8<|(zP)<|zx1<|zf1 ⟨_,rfl,?_⟩
     exact⟨Zf (fun hh=>by obtain⟨r,r0,r1,r2,r3,r4⟩:=Zbk hp hn hb h0 (by omega) (by omega) hh;exact hno r r0 (by omega) ⟨r2,r3,r4⟩),hS.nl⟩
    iterate 6 refine zlo ?_
    refine(zP)<|zlt<|zcf<|zxt<|ztx<|ztx<|zbh<|ztn<|zsq<|zsr ?_
    refine(zP)<|(zV (xfb 1 fd_24_1))<|(zV (xlb 0 pl_22 hS))<|(zV (xln Zb h.D.slh))<|(zP)<|zlt<|Ze ?_ ?_<;>intro hc
    ·
     refine zsr<|(zP)<|zx14<|zf1 ⟨_,rfl,?_⟩
     exact⟨ZX (Zd0 hb fun j j0 j1=>qa j j0 (by omega)),hS.nl⟩
    refine ZS<|zlv (xls 0 ZV hS) ?_
    have hei:=hp.all i h0 (by omega);unfold Prob.each at hei
    refine zla (xal (cs:= [_,_,_,_]) Ze9 hS) ?_;rintro _ w ⟨g2,rfl,hS⟩
    refine zle (xsw 1 ZV hS (hd:=(Za h.L.slh.one (Za h.D.slh.one (Za rfl (Za rfl Zi)))))) ?_;clear hS;rintro w hS
    refine zlz<|zla (xl0 (c:=ints p.D) Zb hS) ?_;rintro v1 w ⟨hS,hv1⟩
    refine(zV (xfb 1 fd_24_1))<|(zV (xlb 0 pl_22 hS))<|zla (xap 2 (r:=p.d) (f:=ints p.D) Zb Zt hS (h.D.below hS.below) (by exact ZU _ _)) ?_;rintro v2 w ⟨hS,hv2⟩
    refine(zV (xfb 1 fd_24_1))<|zle (xsb 1 pl_22 hS (hv:=hv2.one)) ?_;clear hS;rintro w hS
    refine zlz<|(zV (xfb 1 fd_24_1))<|(zV (xlb 1 pl_22 hS))<|(zP)<|(zV (xix (kk:=i) Zb hv2))<|(zV (xlr (u:= .int .i64 (p.D i)) pl_3 (hS.rowN 2 rfl)))<|(zV (Zp (r:=p.D i-1)))<|(zV (xix (kk:=i) Zb hv2))<|zle (xso 2 pl_3 hS (Zq _ _ _)) ?_;clear hS;rintro w hS
    refine zx5<|(zP)<|zx6<|zlp (fun mm M w=>∃(z:Int),mm=((n-z).toNat)/\(0<=z)/\(z<=n)/\(∀r,0<=r->r<z->¬((∀s,0<=s->s<r->¬Ye p.m (bs s) (bs r))/\FitsP p p.m (upd (bs r) i (bs r i+1))/\Vh (p.less1 i) n (WE bs r i)))/\M= [(1,vM),(2,.pointer (some ⟨g1,0,none⟩)),(5,.int .i64 i),(6,.pointer (some ⟨g2,0,none⟩)),(7,.int .i64 z)]/\Sat w0 w [.blk g1 [vL,vD,.int .i64 p.stock,.int .i64 p.kerf],.blk g2 [vL,v2,.int .i64 p.stock,.int .i64 p.kerf],.own v2 1 3 p.d (ints (upd p.D i (p.D i-1)))]) ⟨0,rfl,(by omega),(by omega),?_,rfl,hS⟩ ?_
    ·
     intro r r0 r1;omega
    clear hS w
    rintro mm M w ⟨z,rfl,k0,k1,hno,rfl,hS⟩
    refine zx11<|(zP)<|(zP)<|(zV (xln Zl hM.row.slh))<|(zP)<|zlt<|Ze ?_ ?_<;>intro hc
    ·
     refine zx3<|(zP)<|R1 8 (u:=B (∀s,0<=s->s<0->¬Ye p.m (bs s) (bs z))) (ZX (p:=∀s,0<=s->s<0->¬Ye p.m (bs s) (bs z)) (fun s s0 s1=>by omega)) ?_
     refine zx5<|(zP)<|zx6<|zlp (fun mm M w=>∃(q:Int),mm=((z-q).toNat)/\(0<=q)/\(q<=z)/\M= [(1,vM),(2,.pointer (some ⟨g1,0,none⟩)),(5,.int .i64 i),(6,.pointer (some ⟨g2,0,none⟩)),(7,.int .i64 z),(8,B (∀s,0<=s->s<q->¬Ye p.m (bs s) (bs z))),(9,.int .i64 q)]/\Sat w0 w [.blk g1 [vL,vD,.int .i64 p.stock,.int .i64 p.kerf],.blk g2 [vL,v2,.int .i64 p.stock,.int .i64 p.kerf],.own v2 1 3 p.d (ints (upd p.D i (p.D i-1)))]) ⟨0,rfl,(by omega),(by omega),rfl,hS⟩ ?_
     clear hS w
     rintro mm M w ⟨q,rfl,q0,q1,rfl,hS⟩
     refine zx11<|(zP)<|(zP)<|(zP)<|zlt<|Ze ?_ ?_<;>intro hc
     ·
      refine zx29<|zdst [0,1,2] [0,1,2] 1000 mx_ hS ?_;clear hS;intro w hS
      refine(zDw 0 xmv)<|(zDw 1 xmv)<|zdb 56 ?_ ?_<;>intro hc
      ·
       refine(zDw 2 xmv)<|(zDw 3 xmv)<|(zDw 4 (xix (kk:=q) Zl hM.row.slh))<|(zDl 5 (fun w hS=>(xlr (u:=(mv q)) pl_22 (hM.row.below hS.below))))<|(zDw 6 xmv)<|(zDw 7 xmv)<|(zDw 8 (xix (kk:=z) Zl hM.row.slh))<|(zDl 9 (fun w hS=>(xlr (u:=(mv z)) pl_22 (hM.row.below hS.below))))<|zdc 10 (xc0 ZiT) (Zba (n:=(ml q)) (m:=(ml z)) (f:=(bs q)) (g:=(bs z)) w ((hM.p q (by omega) (by omega)).below hS.below) ((hM.p z (by omega) (by omega)).below hS.below)) ?_;rintro _ w ⟨rfl,hS'⟩
       replace hS:=hS.cmp hS';clear hS'
       refine⟨⟨fun _=>hS,hS⟩,?_⟩
       refine(zDw 11 Yz)<|(zDw 12 xpt)<|(zDw 13 xas)<|Zbr 8 (u:=B (∀s,0<=s->s<q+1->¬Ye p.m (bs s) (bs z))) (Zm (p:=¬((ml q)=(ml z)/\∀k,0<=k->k<(ml q)->(bs q) k=(bs z) k)) (q:=∀s,0<=s->s<q+1->¬Ye p.m (bs s) (bs z)) ⟨fun hh s s0 s1=>by by_cases e:s=q;(subst e;exact fun h9=>hh ⟨by have:=hml s s0 (by omega);have:=hml z k0 (by omega);omega,fun j j0 j1=>h9 j j0 (by have:=hml s s0 (by omega);omega)⟩);exact(‹∀s,0<=s->s<q->¬Ye p.m (bs s) (bs z)›) s s0 (by omega),fun hh h9=>hh q q0 (by omega) (fun j j0 j1=>h9.2 j j0 (by have:=hml q q0 (by omega);omega))⟩) ?_
       refine zdd<|zbn<|ztn<|zrg ?_
       refine(zP)<|(zV (Zh (r:=q+1)))<|(zP)<|zln<|zlq ⟨q+1,rfl,(by omega),(by omega),rfl,hS⟩
      refine(zDo 2)<|(zDo 3)<|(zDo 4)<|(zDo 5)<|(zDo 6)<|(zDo 7)<|(zDo 8)<|(zDo 9)<|(zDo 10)<|(zDo 11)<|(zDw 12 xpf)<|(zDw 13 xas)<|Zbr 8 (u:=B (∀s,0<=s->s<q+1->¬Ye p.m (bs s) (bs z))) (Zf (p:=∀s,0<=s->s<q+1->¬Ye p.m (bs s) (bs z)) (fun hh=>‹¬(∀s,0<=s->s<q->¬Ye p.m (bs s) (bs z))› (fun s s0 s1=>hh s s0 (by omega)))) ?_
      refine zdd<|zbn<|ztn<|zrg ?_
      refine(zP)<|(zV (Zh (r:=q+1)))<|(zP)<|zln<|zlq ⟨q+1,rfl,(by omega),(by omega),rfl,hS⟩
     refine zx18<|(zP)<|(zP)<|zlt<|Ze ?_ ?_<;>intro hc
     ·
      refine zxt<|ztx<|zbh<|ztn<|zrg<|(zP)<|(zV (Zh (r:=z+1)))<|(zP)<|zln<|zlq ⟨z+1,rfl,(by omega),(by omega),?_,rfl,hS⟩
      ·
       intro r r0 r1;rcases Int.lt_or_eq_of_le (show r<=z by omega) with hj|hj
       · exact hno r r0 hj
       · rw [hj];rintro⟨g1,g2,g3⟩
         first
         |exact absurd g3 ‹_›
         |exact absurd (show FitsP p (ml z) (upd (bs z) i (bs z i+1)) by rw [hml z k0 (by omega)];exact g2) ‹_›
         |exact absurd (show∀s,0<=s->s<q->¬Ye p.m (bs s) (bs z) from fun s s0 s1=>g1 s s0 (by omega)) ‹_›
     refine ZS<|zla (xl0 (c:=mv) Zl hS) ?_;rintro v3 w ⟨hS,hv3⟩
     refine(zP)<|zla (xap 3 (r:=n) (f:=mv) Zl Z3 hS (hM.row.below hS.below) (by exact ZU _ _) (h1:=(fun k k0 k1=>(hM.p k k0 (by omega)).slh.one))) ?_;rintro v4 w ⟨hS,hv4⟩
     refine(zP)<|zlz<|zlv xmv ?_
     have hmk:=hml z k0 (by omega)
     have hbk:=(hb z k0 (by omega)).1 i h0 (by omega)
     have hft:FitsP p (ml z) (upd (bs z) i (bs z i+1))->FitsP p p.m (upd (bs z) i (bs z i+1)):=fun hh=>by rw [hml z k0 (by omega)] at hh;exact hh
     refine(zP)<|zla (xl0 (c:=ints (bs z)) Zb hS) ?_;rintro v5 w ⟨hS,hv5⟩
     refine(zP)<|(zP)<|(zV (xix (kk:=z) Zl hM.row.slh))<|(zV (xlr (u:=(mv z)) pl_22 (hM.row.below hS.below)))<|zla (xap 4 (r:=(ml z)) (f:=ints (bs z)) Zb Zt hS ((hM.p z (by omega) (by omega)).below hS.below) (by exact ZU _ _)) ?_;rintro v6 w ⟨hS,hv6⟩
     refine(zV (xix (kk:=z) Zl hv4))<|zle (xso 3 pl_22 hS rfl (hv:=hv6.one)) ?_;clear hS;rintro w hS
     refine zlz<|(zP)<|(zP)<|(zV (xix (kk:=z) Zl hv4))<|(zV (xlr (u:=v6) pl_22 (hS.rowN 3 rfl) (e:=(gu_self _ _ _))))<|(zP)<|(zV (xix (kk:=i) Zb hv6))<|(zV (xlr (u:= .int .i64 ((bs z) i)) pl_3 (hS.rowN 4 rfl)))<|(zV (Zh (r:=(bs z) i+1)))<|(zV (xix (kk:=i) Zb hv6))<|zle (xso 4 pl_3 hS (Zq _ _ _)) ?_;clear hS;rintro w hS
     refine zx7<|zdst [0,1,2,3,4] [0,1,2,3,4] 1000 mx_ hS ?_;clear hS;intro w hS
     refine(zDl 0 (fun w hS=>(xls 0 ZV hS)))<|(zDw 1 xmv)<|(zDw 2 xmv)<|(zDw 3 (xix (kk:=z) Zl hv4))<|(zDl 4 (fun w hS=>(xlr (u:=v6) pl_22 (hS.rowN 3 rfl) (e:=(gu_self _ _ _)))))<|zdc 5 (xc0 ZcP) (KQ (p:=p) w (h.below hS.below) (hS.rowN 4 rfl)) ?_;rintro _ w ⟨rfl,hS'⟩
     replace hS:=hS.cmp hS';clear hS'
     refine⟨⟨fun _=>hS,hS⟩,?_⟩
     refine(zDw 6 xmv)<|zdb 97 ?_ ?_<;>intro hc
     ·
      refine(zDl 7 (fun w hS=>(xls 1 ZV hS)))<|(zDw 8 xmv)<|zdc 9 (xc0 Zfj) (ih (p:=p.less1 i) (bs:=WE bs z i) (ml:=ml) w (⟨(h.L.below hS.below),(hS.rowN 2 rfl),h.iL,(ZaL h.iD (show 1<=p.D i by omega)),(by(try dsimp only);omega),(by(try dsimp only);omega)⟩:PAt _ _ _ (⟨p.m,p.L,p.d,(upd p.D i (p.D i-1)),p.stock,p.kerf⟩:Prob)) (VS hp (by omega)) (Zcr (MAt.below hM hS.below) (hS.rowN 3 rfl) (hS.rowN 4 rfl) (Ent.holds.roomy (hS.holds _ (List.mem_of_getElem? (i:=4) rfl)))) hml (RQ hp hb k0 (by omega) (hft ‹FitsP p (ml z) (upd (bs z) i (bs z i+1))›)).less hn5 (by have:=Ro (p:=p) (i:=i) h0 (by omega);have:=YN (VS hp (show 1<=p.D i by omega));omega)) ?_;rintro _ w ⟨rfl,hS'⟩
      replace hS:=hS.cmp hS';clear hS'
      refine⟨⟨fun _=>hS,hS⟩,?_⟩
      refine(zDw 10 xpt)<|zdd<|ztn ?_
      refine Ze ?_ ?_<;>intro hc
      ·
       refine zsr<|(zP)<|zx2<|zf1 ⟨_,rfl,?_⟩
       exact⟨ZX (RR k0 (by omega) h0 ‹Vh (p.less1 i) n (WE bs z i)›),hS.nl⟩
      refine zx4<|(zP)<|(zV (Zh (r:=z+1)))<|(zP)<|zln<|zlq ⟨z+1,rfl,(by omega),(by omega),?_,rfl,hS.pk [0,1,2]⟩
      ·
       intro r r0 r1;rcases Int.lt_or_eq_of_le (show r<=z by omega) with hj|hj
       · exact hno r r0 hj
       · rw [hj];rintro⟨g1,g2,g3⟩
         first
         |exact absurd g3 ‹_›
         |exact absurd (show FitsP p (ml z) (upd (bs z) i (bs z i+1)) by rw [hml z k0 (by omega)];exact g2) ‹_›
         |exact absurd (show∀s,0<=s->s<q->¬Ye p.m (bs s) (bs z) from fun s s0 s1=>g1 s s0 (by omega)) ‹_›
     refine(zDo 7)<|(zDo 8)<|(zDo 9)<|(zDw 10 xpf)<|zdd<|ztn<|zcf<|zsk<|zbn<|ztn<|zrg ?_
     refine(zP)<|(zV (Zh (r:=z+1)))<|(zP)<|zln<|zlq ⟨z+1,rfl,(by omega),(by omega),?_,rfl,hS.pk [0,1,2]⟩
     ·
      intro r r0 r1;rcases Int.lt_or_eq_of_le (show r<=z by omega) with hj|hj
      · exact hno r r0 hj
      · rw [hj];rintro⟨g1,g2,g3⟩
        first
        |exact absurd g3 ‹_›
        |exact absurd (show FitsP p (ml z) (upd (bs z) i (bs z i+1)) by rw [hml z k0 (by omega)];exact g2) ‹_›
        |exact absurd (show∀s,0<=s->s<q->¬Ye p.m (bs s) (bs z) from fun s s0 s1=>g1 s s0 (by omega)) ‹_›
    refine zx8<|(zP)<|zx1<|zf1 ⟨_,rfl,?_⟩
    exact⟨Zf (fun hh=>by obtain⟨r,r0,r1,r2,r3,r4⟩:=Zbk hp hn hb h0 (by omega) (by omega) hh;exact hno r r0 (by omega) ⟨r2,r3,r4⟩),hS.nl⟩
end Go.Proofs.YtkichmnjjblodaaGreat
namespace Go.Proofs.YtkichmnjjblodaaGreat
open Go Go.RowKit Go.Proofs.Gw
variable {b:Int}
theorem Zh1{vL vD:Value}{p:Prob}(w0:World)(h:PAt w0 vL vD p)(hp:p.Ok)(hb0:0<=b):
    Calls Tryz.prog 35 [.agg #[vL,vD,.int .i64 p.stock,.int .i64 p.kerf],.int .i64 b].toArray w0 fun e w=>∃v,e= .returned v/\v=B (Vh p (min b (Zy p)) (fun _ _=>0))/\Sat w0 w []:=by
  have hm:=h.L.slh.n0;have hm1:=h.L.slh.n1;have hd:=h.D.slh.n0;have hd1:=h.D.slh.n1;have hs:=h.is;have hk:=h.ik
  have hpm:=hp.m1;have qz:=hp.m2;have hpd:=hp.d;have hs1:=hp.s1;have hs2:=hp.s2;have hk1:=hp.k1;have hk2:=hp.k2
  have hpc:=YN hp
  refine zenG Tryz.func35 Tryz.ntmps35 fun w hS=> ?_
  refine zsr<|zla (xbx (cs:= [_,_,_,_]) hS) ?_;rintro _ w ⟨g1,rfl,hS⟩
  refine(zP)<|zlz<|(zP)<|(zV (xls 0 ZV hS))<|zlc (xc0 ZiM) (TJ (p:=p) w (h.below hS.below) hp) ?_;rintro _ w ⟨rfl,hS'⟩
  replace hS:=hS.cmp hS';clear hS'
  refine(zV (UJ (r:=(min b (Zy p)))))<|zla (xmk Zl Z3 hS) ?_;rintro v1 w ⟨hS,hv1⟩
  refine(zP)<|zx5<|(zP)<|zx6 ?_
  replace hS:=hS.addrows 3 (fun _=>Value.slice none 0 0) (fun _=>p.m) (fun _ _=>0)
  refine zlp (fun mm M w=>∃(c:Int->Value) (i:Int),mm=((min b (Zy p)-i).toNat)/\(0<=i)/\(i<=min b (Zy p))/\M= [(2,.pointer (some ⟨g1,0,none⟩)),(4,.bool false),(5,v1),(6,.int .i64 i)]/\Sat w0 w [.blk g1 [vL,vD,.int .i64 p.stock,.int .i64 p.kerf],.own v1 1 22 (min b (Zy p)) c,.sem (Frame.rows 3 i c (fun _=>p.m) (fun _ _=>0))]) ⟨(fun _=>Value.slice none 0 0),0,rfl,(by omega),(by omega),rfl,hS⟩ ?_
  clear hS w
  rintro mm M w ⟨c,i,rfl,h0,h1,rfl,hS⟩
  have qW:=fun k (k0:0<=k) (k1:k<i)=>hS.slhIn 2 rfl k0 k1
  refine zx11<|(zP)<|(zP)<|(zV (xln Zl hv1))<|(zP)<|zlt<|Ze ?_ ?_<;>intro hc
  ·
   refine zsk<|ztn<|zsq<|zbk<|zrg<|(zP)<|(zP)<|(zV (xfb 0 fd_24_0))<|(zV (xlb 0 pl_22 hS))<|(zV (xln Zb h.L.slh))<|zla (xmk Zb Zt hS) ?_;rintro v2 w ⟨hS,hv2⟩
   refine(zV (xix (kk:=i) Zl hv1))<|zle (xso 1 pl_22 hS rfl (hv:=hv2.one)) ?_;clear hS;rintro w hS
   refine zx10<|zlv xmv ?_
   replace hS:=Sat.merge (l1:= [.blk g1 [vL,vD,.int .i64 p.stock,.int .i64 p.kerf],.own v1 1 22 (min b (Zy p)) (upd c i (v2))]) (l2:= []) (l3:= []) hS (by omega)
   replace hS:=hS.rerows (vv':=upd c i (v2)) (ln':=fun _=>p.m) (f':=fun _ _=>0) 2 rfl (fun k k0 k1=>by
     by_cases e:k<i
     · rw [Zv e,Zv e,Zv e];exact⟨(gu_ne (by omega)).symm,rfl,fun _ _ _=>rfl⟩
     · obtain rfl:i=k:=(by omega);rw [Ym,Ym,Ym];exact⟨(gu_self _ _ _).symm,rfl,fun _ _ _=>rfl⟩)
   refine(zV (Zh (r:=i+1)))<|(zP)<|zln<|zlq ⟨upd c i (v2),i+1,rfl,(by omega),(by omega),rfl,hS⟩
  refine zx8<|zlv (xls 0 ZV hS) ?_
  obtain rfl:i=min b (Zy p):=by omega
  refine(zP)<|zlc (xc0 Zfj) (Zm6 _ (p:=p) (n:=(min b (Zy p))) (mv:=c) (ml:=(fun _=>p.m)) (bs:=fun _ _=>0) w (h.below hS.below) hp (⟨(hS.rowN 1 rfl),fun k k0 k1=>hS.rowIn 2 rfl k0 k1,fun k k0 k1=>hS.roomIn 2 rfl k0 k1⟩:MAt _ v1 (min b (Zy p)) c (fun _=>p.m) (fun _ _=>0)) (fun k _ _=>rfl) (BFit.zero hp _) (by omega) (Nat.lt_succ_self _)) ?_;rintro _ w ⟨rfl,hS'⟩
  replace hS:=hS.cmp hS';clear hS'
  refine(zP)<|zx1<|zf1 ⟨_,rfl,?_⟩
  exact⟨rfl,hS.nl⟩
theorem ZaB{p:Prob}{wi i:Int}(hs:ZF p b wi)(i0:0<=i)(i1:i<Zn p b wi):(ZW p wi i).Ok:=by
  obtain⟨h1,_⟩:=VM hs i0 i1
  refine Zct hs.1.1 fun k k0 k1=> ?_
  have h2:=h1.rng k k0 (by rw [<-hs.1.1.d];exact k1)
  omega
theorem Vk:∀(t:Tr) {p:Prob} {b:Int},wrT t p b=none->∀{L:List (Int->Int)},LFit p L->(∀j,0<=j->j<p.m->p.D j<=Yx L j)->b<L.length:=Tr.ind fun t ih p b h L hL hc=>by
  by_cases h0:t.n=0
  · by_cases hl:XN p b t.nl t.l
    · obtain⟨h1,h2,h3,h4⟩:=hl
      exact Zgq h3 h1.2.2 h4 hL hc
    · rw [Wi h0 hl] at h;cases h
  · by_cases hs:ZF p b t.s/\Zn p b t.s=t.n
    · rw [Wj h0 hs.1 hs.2] at h
      have hn:Zn p b t.s=(MX p t.s).length:=Yi hs.1
      obtain⟨hpo,hb1,⟨s0,s1⟩,hd,_⟩:=hs.1
      have hp:=hpo.1
      have he:=hp.all t.s s0 s1
      unfold Prob.each at he
      obtain⟨L1,a,L2,rfl,ha⟩:=ZeA (j:=t.s) (Int.le_trans (by omega) (hc t.s s0 s1))
      obtain⟨i,i0,i1,hi⟩:=RN (hL a (by simp)) s0 s1 ha (by omega)
      have hk:Tp t p b i=none:=ZcD h i i0 (by omega)
      have hok:=ZaB hs.1 i0 (by omega)
      have hL2:LFit p (L1++L2):=fun x hx=>hL x (by rcases List.mem_append.1 hx with hx|hx<;>simp [hx])
      have h5:=ih i i0 (by omega) hk (L:=L1++L2) (fun x hx=>by
          obtain⟨_,g2,g3,g4⟩:=hL2 x hx
          exact⟨hok,rfl,g3,g4⟩) (fun j j0 j1=>by
          have g1:=hc j j0 j1
          have g2:=hi j j0 j1
          have g3:=hL2.nn j0 j1
          rw [Tm,Yx] at g1
          rw [Tm] at g3⊢
          show p.D j-YB (MX p t.s) i j<=_
          omega)
      rw [List.length_append] at h5⊢
      rw [List.length_cons]
      omega
    · rw [WG h0 hs] at h;cases h
theorem WZ(f d:Int->Int):∀n:Nat,psum f d n=Zd (fun k=>f k*d k) n
  |0=>rfl
  | n+1=>by
    have:=WZ f d n
    simp only [psum,Zd,this]
theorem Rh{p:Prob}{u:Int}{ln cnt:Int->Int}{pt:Int->Int->Int}(h:PlanOk p u ln pt cnt/\∀j,0<=j->j<p.m->p.D j<=Zw u pt cnt j):∃L,LFit p L/\(∀j,0<=j->j<p.m->p.D j<=Yx L j)/\(L.length:Int)=psum (fun _=>1) cnt u.toNat:=by
  obtain⟨⟨_,h1,h2⟩,h3⟩:=h
  obtain⟨L,g1,g2,g3⟩:=Uf (p:=p) (len:=ln) (pt:=pt) (cnt:=cnt) u.toNat fun i i0 i1=>by
    have:=h2 i i0 (by omega)
    exact⟨this.2.2,by omega⟩
  refine⟨L,g1,fun j j0 j1=> ?_,?_⟩
  · have:=h3 j j0 j1
    unfold Zw at this
    rw [g2];unfold Xr
    rw [WZ] at this;exact this
  · rw [g3,WZ];exact Zj fun i _ _=>by rw [Int.one_mul]
theorem Zev{t:Tr}{p:Prob}(h:wrT t p b=none)(hp:ZE p b):¬Vh p (min b (Zy p)) (fun _ _=>0):=fun hh=>by
  have h1:=YN hp.1
  have h2:=hp.2.1
  obtain⟨L,g1,g2,g3⟩:=Zd1 hp.1 (by omega) hh
  have:=Vk t h g1 g2
  omega
end Go.Proofs.YtkichmnjjblodaaGreat
namespace Go.Proofs.Gw
open Go Go.RowKit
variable {w:Int} {f:Int->Int}
def TpN(f:Int->Int):Nat->Int->Int
  |0=>f
  |d+1=>fun s=>TpN f d s+TpN f d (s+1)
theorem TM{f:Int->Int}(h:∀s,0<=f s):∀(d:Nat) (s:Int),0<=TpN f d s
  |0,s=>h s
  | d+1,s=>by
    have:=TM h d s;have:=TM h d (s+1)
    simp only [TpN];omega
theorem UZ(f:Int->Int)(a:Nat):∀(b:Nat),TpN (TpN f a) b=TpN f (a+b)
  |0=>rfl
  | b+1=>by
    funext s
    have:=UZ f a b
    show TpN (TpN f a) b s+TpN (TpN f a) b (s+1)=TpN f (a+b) s+TpN f (a+b) (s+1)
    rw [this]
theorem KY{f:Int->Int}(h:∀s,0<=f s)(s:Int):∀d:Nat,Zd (fun k=>f (s+k)) (d+1)<=TpN f d s
  |0=>by simp [Zd,TpN]
  | d +1=>by
    have h1:=KY h s d
    have h2:f (s+1+d)<=TpN f d (s+1):=by
      have:=KY h (s+1) d
      have h3:Zd (fun k=>f (s+1+k)) (d+1)=Zd (fun k=>f (s+1+k)) d+f (s+1+d):=rfl
      have h4:0<=Zd (fun k=>f (s+1+k)) d:=Z8 fun i _ _=>h _
      omega
    have h5:Zd (fun k=>f (s+k)) (d+1+1)=Zd (fun k=>f (s+k)) (d+1)+f (s+((d+1:Nat):Int)):=rfl
    have e:s+((d+1:Nat):Int)=s+1+d:=by omega
    rw [h5,e]
    simp only [TpN];omega
def YR{α:Type}(f:α->Int)(l:List α):Int:=(l.map f).sum
theorem Zdz{α:Type}(f:α->Int)(l m:List α):YR f (l++m)=YR f l+YR f m:=by simp [YR]
theorem ZaH{α:Type}(f:α->Int)(F:Int->List α)(lo:Int):∀c:Nat,YR f (dn F lo c)=Zd (fun k=>YR f (F (lo+k))) c
  |0=>rfl
  | c+1=>by
    have:=ZaH f F lo c
    show YR f (F (lo+c)++dn F lo c)=Zd _ c+_
    rw [Zdz,this];exact Int.add_comm _ _
def tl(p:Prob)(i:Int):Nat:=(Zy p-Zd p.D i.toNat).toNat
theorem WW{p:Prob}(hp:p.Ok):∀(c:Nat) {i:Int},0<=i->i+c<=p.m->Zd p.D i.toNat<=Zd p.D (i+c).toNat
  |0,i,_,_=>by simp
  | c+1,i,i0,h=>by
    have h1:=WW hp c i0 (by omega)
    have h2:=ZJ p.D (i:=i+c) (by omega)
    have he:=hp.all (i+c) (by omega) (by omega)
    unfold Prob.each at he
    rw [show i+((c+1:Nat):Int)=i+c+1 by omega,h2];omega
theorem ZgJ{p:Prob}(hp:p.Ok){i:Int}(i0:0<=i)(i1:i<p.m):tl p i=tl p (i+1)+(p.D i).toNat:=by
  have h2:=ZJ p.D i0
  have h3:=WW hp (p.m-(i+1)).toNat (i:=i+1) (by omega) (by omega)
  rw [show i+1+((p.m-(i+1)).toNat:Int)=p.m by omega] at h3
  have he:=hp.all i i0 i1
  unfold Prob.each at he
  unfold tl Zy;omega
theorem Zi3(p:Prob):tl p p.m=0:=by unfold tl Zy;omega
theorem ZgI(p:Prob):(tl p 0:Nat)=(Zy p).toNat:=by unfold tl;simp [Zd]
theorem Va {p:Prob} (hp:p.Ok) {w:Int} {f:Int->Int} (hf:∀s,0<=f s):∀(j:Nat) {i l:Int} {a:Int->Int},(p.m-i).toNat=j->0<=i->i<=p.m->0<=l->
    (w<i->YR (fun x=>f (Zd x p.m.toNat)) (exI p w i a l)<=TpN f (tl p i) (Zd a i.toNat))/\
    (i<=w->w<p.m->1<=p.D w->YR (fun x=>f (Zd x p.m.toNat)) (exI p w i a l)<=TpN f (tl p i-1) (Zd a i.toNat+1))
  | 0,i,l,a,hj,h0,h1,hl=>by
    obtain rfl:i=p.m:=by omega
    refine⟨fun _=> ?_,fun g1 g2=>by omega⟩
    rw [Zi3]
    by_cases hm:K0 p a l
    · rw [W9 rfl hm];simp [YR,TpN]
    · rw [Uo rfl hm];simpa [YR,TpN] using hf _
  | j + 1,i,l,a,hj,h0,h1,hl=>by
    have he:=hp.all i h0 (by omega)
    unfold Prob.each at he
    have hk1:=hp.k1
    have dM:=ZgJ hp h0 (show i<p.m by omega)
    rw [XJ h0 (by omega),ZaH]
    have jg:most p i l<=p.D i:=by unfold most;omega
    have xc:∀k,0<=k->k<=most p i l->0<=l-k*(p.L i+p.kerf):=fun k k0 k1=>by
      have:=(XH hp h0 (by omega) hl k0 k1).2.2;omega
    have bl:∀k,Zd (upd a i k) (i+1).toNat=Zd a i.toNat+k:=fun k=>by
      rw [ZJ _ h0,Zk]
      rw [Zj (g:=a) fun q q0 q1=>by rw [upd_ne _ _ (by omega)]]
    have zj:∀(g:Int->Int) (c:Nat) (d:Nat) (s:Int),(∀s,0<=g s)->(c:Int)<=d+1->Zd (fun k=>g (s+k)) c<=TpN g d s:=fun g c d s hg hc=>by
      refine Int.le_trans ?_ (KY hg s d)
      have:∀n:Nat,c<=n->Zd (fun k=>g (s+k)) c<=Zd (fun k=>g (s+k)) n:=fun n=>by
        induction n with
        |zero=>intro h;rw [show c=0 by omega];exact Int.le_refl _
        | succ n ih=>
          intro h
          by_cases e:c=n+1
          · rw [e];exact Int.le_refl _
          · have:=ih (by omega);have:=hg (s+n);simp only [Zd];omega
      exact this (d+1) (by omega)
    refine⟨fun hw=> ?_,fun hw hwm hD=> ?_⟩
    · have hls:least w i=0:=by unfold least;rw [if_neg (by omega)]
      rw [hls,Int.sub_zero]
      have h5:Zd (fun k=>YR (fun x=>f (Zd x p.m.toNat)) (kid p w i a l (0+k))) (most p i l+1).toNat<=Zd (fun k=>TpN f (tl p (i+1)) (Zd a i.toNat+k)) (most p i l+1).toNat:=Z5 fun k k0 k1=>by
        have:=(Va hp (w:=w) hf j (i:=i+1) (l:=l-(0+k)*(p.L i+p.kerf)) (a:=upd a i (0+k)) (by omega) (by omega) (by omega) (xc (0+k) (by omega) (by omega))).1 (by omega)
        rw [bl,Int.zero_add] at this
        unfold kid;rw [Int.zero_add];exact this
      refine Int.le_trans h5 (Int.le_trans (zj _ _ (p.D i).toNat _ (TM hf _) (by omega)) ?_)
      rw [UZ,<-dM];exact Int.le_refl _
    · by_cases e:w=i
      · subst e
        have hls:least w w=1:=by unfold least;rw [if_pos rfl]
        rw [hls]
        have h5:Zd (fun k=>YR (fun x=>f (Zd x p.m.toNat)) (kid p w w a l (1+k))) (most p w l+1-1).toNat<=Zd (fun k=>TpN f (tl p (w+1)) (Zd a w.toNat+1+k)) (most p w l+1-1).toNat:=Z5 fun k k0 k1=>by
          have:=(Va hp (w:=w) hf j (i:=w+1) (l:=l-(1+k)*(p.L w+p.kerf)) (a:=upd a w (1+k)) (by omega) (by omega) (by omega) (xc (1+k) (by omega) (by omega))).1 (by omega)
          rw [bl,show Zd a w.toNat+(1+k)=Zd a w.toNat+1+k by omega] at this
          unfold kid;exact this
        refine Int.le_trans h5 (Int.le_trans (zj _ _ ((p.D w).toNat-1) _ (TM hf _) (by omega)) ?_)
        rw [UZ,show tl p (w+1)+((p.D w).toNat-1)=tl p w-1 by omega];exact Int.le_refl _
      · have hls:least w i=0:=by unfold least;rw [if_neg e]
        rw [hls,Int.sub_zero]
        have hw1:1<=tl p (i+1):=by
          have h7:=WW hp (w-(i+1)).toNat (i:=i+1) (by omega) (by omega)
          rw [show i+1+((w-(i+1)).toNat:Int)=w by omega] at h7
          have h8:=ZJ p.D (i:=w) (by omega)
          have h9:=WW hp (p.m-(w+1)).toNat (i:=w+1) (by omega) (by omega)
          rw [show w+1+((p.m-(w+1)).toNat:Int)=p.m by omega] at h9
          unfold tl Zy;omega
        have h5:Zd (fun k=>YR (fun x=>f (Zd x p.m.toNat)) (kid p w i a l (0+k))) (most p i l+1).toNat<=Zd (fun k=>TpN f (tl p (i+1)-1) (Zd a i.toNat+1+k)) (most p i l+1).toNat:=Z5 fun k k0 k1=>by
          have:=(Va hp (w:=w) hf j (i:=i+1) (l:=l-(0+k)*(p.L i+p.kerf)) (a:=upd a i (0+k)) (by omega) (by omega) (by omega) (xc (0+k) (by omega) (by omega))).2 (by omega) hwm hD
          rw [bl,Int.zero_add,show Zd a i.toNat+k+1=Zd a i.toNat+1+k by omega] at this
          unfold kid;rw [Int.zero_add];exact this
        refine Int.le_trans h5 (Int.le_trans (zj _ _ (p.D i).toNat _ (TM hf _) (by omega)) ?_)
        rw [UZ,show tl p (i+1)-1+(p.D i).toNat=tl p i-1 by omega];exact Int.le_refl _
theorem Zbn{p:Prob}(hp:p.Ok)(w0:0<=w)(w1:w<p.m)(hD:1<=p.D w)(hf:∀s,0<=f s):YR (fun x=>f (Zd x p.m.toNat)) (MX p w)<=TpN f ((Zy p).toNat-1) 1:=by
  have:=(Va hp hf _ (w:=w) (a:=fun _=>0) rfl (Int.le_refl 0) (by have:=hp.m1;omega) (show 0<=p.stock+p.kerf by have:=hp.s1;have:=hp.k1;omega)).2 w0 w1 hD
  rw [ZgI] at this
  simpa [MX,Zd] using this
def Gn(n:Int):Int:=if n<0 then 0 else [1,2,4,10,30,104,406].getD n.toNat 0
theorem ZiZ(n:Int):0<=Gn n:=by
  unfold Gn;split
  · omega
  · rw [List.getD_eq_getElem?_getD]
    cases h: [(1:Int),2,4,10,30,104,406][n.toNat]? with
    |none=>simp
    | some x=>
      have:=List.mem_of_getElem? h
      simp at this;simp;omega
theorem six{P:Int->Prop}(h1:P 1)(h2:P 2)(h3:P 3)(h4:P 4)(h5:P 5)(h6:P 6):∀n:Int,1<=n->n<=6->P n:=fun n a b=>by
  have:n=1\/n=2\/n=3\/n=4\/n=5\/n=6:=by omega
  rcases this with rfl|rfl|rfl|rfl|rfl|rfl<;>assumption
theorem Znm:∀n:Int,1<=n->n<=6->1+TpN (fun s=>Gn (n-s)) (n.toNat-1) 1<=Gn n:=six (by decide) (by decide) (by decide) (by decide) (by decide) (by decide)
theorem K7:∀n:Int,0<=n->n<=6->1<=Gn n/\Gn n<=406:=fun n a b=>by
  by_cases e:n=0
  · subst e;decide
  · exact six (P:=fun n=>1<=Gn n/\Gn n<=406) (by decide) (by decide) (by decide) (by decide) (by decide) (by decide) n (by omega) b
theorem Zg2:∀n:Int,1<=n->n<=6->TpN (fun _=>1) (n.toNat-1) 1<=100:=six (by decide) (by decide) (by decide) (by decide) (by decide) (by decide)
theorem Rt{α:Type}:∀l:List α,YR (fun _=>(1:Int)) l=l.length
  | []=>rfl
  |a::l=>by have:=Rt l;simp only [YR,List.map_cons,List.sum_cons,List.length_cons] at*;omega
theorem ZgB{p:Prob}(hp:p.Ok)(w0:0<=w)(w1:w<p.m)(hD:1<=p.D w)(hn:Zy p<=6):((MX p w).length:Int)<=100/\1<=Zy p:=by
  have h1:1<=Zy p:=by
    have:=Xc (f:=p.D) (n:=p.m.toNat) w0 (by omega) (fun i i0 i1=>by
      have he:=hp.all i i0 (by omega)
      unfold Prob.each at he;omega)
    unfold Zy;omega
  refine⟨?_,h1⟩
  have h2:=Zbn hp w0 w1 hD (f:=fun _=>1) (fun _=>by omega)
  rw [Rt] at h2
  exact Int.le_trans h2 (Zg2 _ h1 hn)
theorem Rs(f:(Int->Int)->Int):∀l:List (Int->Int),Zd (fun k=>f (YB l k)) l.length=YR f l
  | []=>rfl
  | a ::l=>by
    rw [List.length_cons,Vn]
    have e:Zd (fun i=>f (YB (a::l) (i+1))) l.length=Zd (fun i=>f (YB l i)) l.length:=Zj fun i i0 i1=>by
      unfold YB;rw [show(i+1).toNat=i.toNat+1 by omega];rfl
    rw [e,Rs f l];simp [YR,YB]
end Go.Proofs.Gw
namespace Go.Proofs.Gw
open Go Go.RowKit
variable {w:World}
def Tr.fr2(E T:TypeId):Tr->Frame| .nil=>Frame.bun []| .mk s vK n kid vL nl l=>Frame.bun [.own vK 3 E n (Yl kid),.own vL 1 T nl (ints l),.sem (Frame.all n fun i=>(kid i).fr2 E T)]
def Ux:Tr->Prop
  | .nil=>True
  | .mk s vK n kid vL nl l=>((-9223372036854775808<=s/\s<=9223372036854775807)/\56*n<=140737488351232/\∀k,-9223372036854775808<=l k/\l k<=9223372036854775807)/\∀i,0<=i->i<n->Ux (kid i)
theorem Tr.fr2_at{E T:TypeId}:∀t:Tr,Ux t->(t.fr2 E T).holds w->KAt w t/\LvAt w t:=Tr.ind fun t ih hr hf=>by
  cases t with
  |nil=>exact⟨trivial,trivial⟩
  | mk s vK n kid vL nl l=>
    have hf':(Frame.bun [.own vK 3 E n (Yl kid),.own vL 1 T nl (ints l),.sem (Frame.all n fun i=>(kid i).fr2 E T)]).holds w:=hf
    have g1:=hf'.1 _ (List.mem_cons_self ..)
    have g2:=hf'.1 _ (List.mem_cons_of_mem _ (List.mem_cons_self ..))
    have g3:=hf'.1 (.sem _) (List.mem_cons_of_mem _ (List.mem_cons_of_mem _ (List.mem_cons_self ..)))
    have hr':((-9223372036854775808<=s/\s<=9223372036854775807)/\56*n<=140737488351232/\∀k,-9223372036854775808<=l k/\l k<=9223372036854775807)/\∀i,0<=i->i<n->Ux (kid i):=hr
    obtain⟨⟨r1,r2,r3⟩,r4⟩:=hr'
    refine⟨⟨⟨g1.row,r2⟩,fun i i0 i1=>(ih i i0 i1 (r4 i i0 i1) (g3.1 i i0 i1)).1⟩,⟨⟨g2.row,r3⟩,Ent.holds.roomy g2,r1⟩,fun i i0 i1=>(ih i i0 i1 (r4 i i0 i1) (g3.1 i i0 i1)).2⟩
theorem Sat.tree2{w0:World}{l:List Ent}{E T:TypeId}{v vL:Value}{n nl:Int}{kid:Int->Tr}{f:Int->Int}(h:Sat w0 w (l++ [.own v 3 E n (Yl kid),.own vL 1 T nl (ints f),.sem (Frame.all n fun i=>(kid i).fr2 E T)]))(s:Int):Sat w0 w (l++ [.sem ((Tr.mk s v n kid vL nl f).fr2 E T)]):=by
  exact h.bundle (l2:= [.own v 3 E n (Yl kid),.own vL 1 T nl (ints f),.sem (Frame.all n fun i=>(kid i).fr2 E T)])
theorem Sat.tree0{w0:World}{l:List Ent}(h:Sat w0 w l)(E T:TypeId):Sat w0 w (l++ [.sem (Tr.nil.fr2 E T)]):=by
  refine h.comp (m:= [.sem (Tr.nil.fr2 E T)]) ⟨Below.refl _ _,?_,?_,List.pairwise_singleton _ _⟩
  · intro e he;obtain rfl:=List.mem_singleton.1 he;exact⟨fun e he=>(by cases he),List.Pairwise.nil⟩
  · intro e he g hg;obtain rfl:=List.mem_singleton.1 he;obtain⟨e,he,_⟩:=hg;cases he
end Go.Proofs.Gw
namespace Go.Proofs.YtkichmnjjblodaaGreat
open Go Go.RowKit Go.Proofs.Gw
variable {C b c e i lf m wi:Int} {cnt ln ln2 qh:Int->Int} {pt pt2:Int->Int->Int}
def PMt(p:Prob)(u:Int)(ln:Int->Int)(pt:Int->Int->Int)(cnt:Int->Int):Prop:=PlanOk p u ln pt cnt/\∀j,0<=j->j<p.m->p.D j<=Zw u pt cnt j
def brs(u:Int)(cnt:Int->Int):Int:=psum (fun _=>1) cnt u.toNat
def RV(p:Prob):Prop:=p.Ok/\∀j,0<=j->j<p.m->p.D j<=0
theorem Vl(p:Prob):psum (fun _=>1) p.D p.m.toNat=Zy p:=by
  rw [WZ];exact Zj fun i _ _=>by rw [Int.one_mul]
theorem ZaE{p:Prob}(hp:p.Ok)(h:1<=Zy p):∃w,0<=w/\w<p.m/\1<=p.D w:=by
  obtain⟨k,k0,k1,k2⟩:=Ub (f:=p.D) (n:=p.m.toNat) h
  exact⟨k,k0,by omega,k2⟩
theorem BestR.tot{p:Prob}{out:Us}(h:BestR p out e)(hok:p.Ok):(e=0->Zy p<=1000)/\(Zy p<=1000->e=0):=by
  have hc:∀{l:Us} {e:Int},FFitR p l e->(e=0->Zy p<=1000)/\(Zy p<=1000->e=0):=fun {l e} hf=>by
    have h1:=hf.1
    unfold ZgD at h1
    rw [Vl] at h1
    rcases h1 with⟨g,_⟩|⟨_,g1,g2⟩|⟨_,g1,g2⟩
    · exact absurd hok g
    · exact⟨fun _=>by omega,fun _=>by omega⟩
    · exact⟨fun _=>by omega,fun _=>by omega⟩
  rcases h with⟨h1,h2,_⟩|⟨h1,l,h2,_⟩
  · exact hc h2
  · have:=hc h2;exact⟨fun _=>this.1 rfl,fun _=>h1⟩
theorem BestR.meets {p:Prob} {n:Int} (h:BestR p (plL n ln pt cnt) e) (hok:p.Ok) (he:e=0) (n0:0<=n):PMt p n ln pt cnt/\brs n cnt<=Zy p:=by
  have ht:=(BestR.tot h hok).1 he
  have hx:ExU p (plL n ln pt cnt):=by
    rcases h with⟨h1,_⟩|⟨_,l,h2,u,ml,mf,s,ec,u0,hc,h3⟩
    · exact absurd he h1
    · have hl:=h2.ex hok rfl
      rcases h3 with⟨_,h4⟩|⟨_,h3⟩
      · rw [h4];exact hl
      · rcases h3 with⟨h4,_⟩|⟨h4,_⟩|⟨_,x,f,y,g,hx,hy,h5⟩
        · omega
        · omega
        · rw [h5];exact Zaw (Zaw hl hx.ex) hy.ex
  obtain⟨⟨g1,g2,g3⟩,g4⟩:=hx.sound hok (by rw [Vl];exact ht) n0
  refine⟨⟨⟨g1,g2,fun k k0 k1=>⟨(g3 k k0 k1).2.1,(g3 k k0 k1).2.2,(g3 k k0 k1).1⟩⟩,fun j j0 j1=> ?_⟩,?_⟩
  · have:=g4 j j0 j1
    rw [Kr] at this
    unfold Zw;omega
  · have h5:=hx.few
    rw [Vl,Ya _ n0] at h5
    exact h5
def Zl1(p:Prob)(b u:Int)(ln:Int->Int)(pt:Int->Int->Int)(cnt:Int->Int)(ok:Prop):Prop:=(ok->PMt p u ln pt cnt/\brs u cnt<=b)/\(Zy p<=b->ok)
theorem RT{p:Prob}{y z:Int->Int}:∀(j:Nat),(∀i,0<=i->i<(j:Int)->y i=z i)->Tab p y j=Tab p z j
  |0,_=>rfl
  | j+1,h=>by
    funext c
    have:=RT (p:=p) j fun i i0 i1=>h i i0 (by omega)
    simp only [Tab]
    rw [this,h j (by omega) (by omega)]
theorem ZdI{p:Prob}{n q:Int}{y z:Int->Int}(hn:n=p.m->∀i,0<=i->i<p.m->y i=z i)(h:Chk p n y q=0):Chk p n z q=0/\YU p n z q=YU p n y q:=by
  obtain⟨hp,hf,he,hw⟩:=Gw.Xj h
  have hyz:=hn he
  have hm:=hp.m1
  have h1:Chk p n z q=0:=by
    refine ZfC hp ⟨hf.1,hf.2.1,fun k k0 k1=>by rw [<-hyz k k0 (by omega)];exact hf.2.2 k k0 k1⟩ he ?_
    unfold WR at hw⊢
    rw [<-RT (y:=y) p.m.toNat fun i i0 i1=>hyz i i0 (by omega)]
    omega
  refine⟨h1,?_⟩
  rw [Vu h1,Vu h]
  unfold Bnd
  rw [V7,V7,Zj (f:=fun i=>p.D i*z i) (g:=fun i=>p.D i*y i) fun i i0 i1=>by rw [hyz i i0 (by omega)]]
def lfn(m q:Int)(y:Int->Int):Int->Int:=fun k=>if 0<=k/\k<=m then consf q y k else 0
def LfR(p:Prob)(b n:Int)(l:Int->Int)(ok:Prop):Prop:=(ok->XN p b n l/\n<=40/\∀k,Zo (l k))/\(b=0->1<=Zy p->ok)
def Zdc(p:Prob)(c:Ct)(m:Int):Prop:=m<0\/(Chk p c.n c.y c.q=0/\m=YU p c.n c.y c.q)
theorem Vr{p:Prob}{b c b':Ct}{m':Int}(h:Zdc p b m)(ho:(b',m')=WM p (b,m) c e):Zdc p b' m'/\m<=m'/\(e=0->Chk p c.n c.y c.q=0->YU p c.n c.y c.q<=m'):=by
  by_cases hc:e=0/\Chk p c.n c.y c.q=0/\m<YU p c.n c.y c.q
  · rw [<-Rn hc.1 hc.2.1 hc.2.2] at ho
    obtain⟨rfl,rfl⟩:=Prod.mk.inj ho
    exact⟨.inr ⟨hc.2.1,rfl⟩,by omega,fun _ _=>Int.le_refl _⟩
  · rw [<-VN hc] at ho
    obtain⟨rfl,rfl⟩:=Prod.mk.inj ho
    refine⟨h,Int.le_refl _,fun h1 h2=> ?_⟩
    apply Classical.byContradiction;intro h3
    exact hc ⟨h1,h2,by omega⟩
theorem Rr{p:Prob}(hp:p.Ok):∀(j:Nat),(j:Int)<=p.m->∀c,0<=c->Tab p (fun k=>p.L k+p.kerf) j c<=c
  |0,_,c,hc=>hc
  | j+1,hj,c,hc=>by
    have h2:=hp.all j (by omega) (by omega)
    unfold Prob.each at h2
    have hk:=hp.k1
    simp only [Tab]
    obtain⟨n,h3,h4,h5⟩:=Zca (Tab p (fun k=>p.L k+p.kerf) j) (p.L j+p.kerf) (p.L j+p.kerf) (p.D j).toNat c hc
    rw [h5]
    have:=Rr hp j (by omega) (c-n*(p.L j+p.kerf)) (by omega)
    omega
theorem Zcs{p:Prob}(hp:p.Ok):Chk p (VP p).n (VP p).y (VP p).q=0:=by
  have h1:=hp.s1;have h2:=hp.s2;have h3:=hp.k1;have h4:=hp.k2;have hm:=hp.m1
  refine ZfC hp ⟨by show 1<=p.stock+p.kerf;omega,by show p.stock+p.kerf<=_;omega,fun k k0 k1=> ?_⟩ rfl ?_
  · have he:=hp.all k k0 k1
    unfold Prob.each at he
    show 0<=p.L k+p.kerf/\p.L k+p.kerf<=_
    omega
  · have:=Rr hp p.m.toNat (by omega) (p.stock+p.kerf) (by omega)
    show¬p.stock+p.kerf<WR p fun k=>p.L k+p.kerf
    unfold WR;omega
theorem Zg6{p:Prob}(hp:p.Ok)(h:1<=Zy p):1<=YU p (VP p).n (VP p).y (VP p).q:=by
  rw [Vu (Zcs hp)]
  obtain⟨w,w0,w1,w2⟩:=ZaE hp h
  have h1:=hp.s1;have h3:=hp.k1
  have h5:1<=Tot p.D (VP p).y p.m.toNat:=by
    rw [V7]
    have:=Xc (f:=fun i=>p.D i*(p.L i+p.kerf)) (n:=p.m.toNat) w0 (by omega) fun i i0 i1=>by
      have he:=hp.all i i0 (by omega);unfold Prob.each at he
      exact Int.mul_nonneg (by omega) (by omega)
    have he:=hp.all w w0 w1
    unfold Prob.each at he
    have h6:1*1<=p.D w*(p.L w+p.kerf):=Int.mul_le_mul w2 (by omega) (by omega) (by omega)
    show 1<=Zd (fun i=>p.D i*(p.L i+p.kerf)) p.m.toNat
    omega
  show 1<=(Tot p.D (VP p).y p.m.toNat+(p.stock+p.kerf)-1).tdiv (p.stock+p.kerf)
  rw [Int.tdiv_eq_ediv_of_nonneg (by omega)]
  exact(Int.le_ediv_iff_mul_le (by omega)).2 (by omega)
theorem DBestR.good{p:Prob}{c:Ct}(h:DBestR p c m e)(hp:p.Ok):e=0/\Zdc p c m/\(1<=Zy p->1<=m):=by
  rcases h with⟨g,_⟩|⟨_,he,c1,e1,c2,e2,c3,e3,h1,h2,h3,h4⟩
  · exact absurd hp g
  · refine⟨he,?_⟩
    obtain⟨b1,m1,ho1⟩:∃b m,(b,m)=WM p (Ct.zer,-1) c1 e1:=⟨_,_,rfl⟩
    rw [<-ho1] at h4
    obtain⟨b2,m2,ho2⟩:∃b m,(b,m)=WM p (b1,m1) c2 e2:=⟨_,_,rfl⟩
    rw [<-ho2] at h4
    have g1:=Vr (.inl (by omega)) ho1
    have g2:=Vr g1.1 ho2
    have g3:=Vr g2.1 h4
    refine⟨g3.1,fun hn=> ?_⟩
    rcases h2 with⟨g,_⟩|⟨_,rfl,rfl⟩
    · exact absurd hp g
    · have:=g2.2.2 rfl (Zcs hp)
      have:=Zg6 hp hn
      omega
theorem Zha {p:Prob} {n:Int} {c:Ct} (hpo:ZE p b) (h:Zdc p c m) (hb:b<m) (hn:n=c.n+1):XN p b n (lfn c.n c.q c.y)/\n<=40/\∀k,Zo (lfn c.n c.q c.y k):=by
  have hb0:=hpo.2.1
  rcases h with h|⟨h1,h2⟩
  · omega
  · obtain⟨hp,hf,he,_⟩:=Gw.Xj h1
    have hm1:=hp.m1;have hm2:=hp.m2
    have e0:lfn c.n c.q c.y 0=c.q:=by unfold lfn consf;rw [if_pos ⟨by omega,by omega⟩,if_pos (by omega)]
    have e1:∀k,0<=k->k<c.n->lfn c.n c.q c.y (k+1)=c.y k:=fun k k0 k1=>by
      unfold lfn consf;rw [if_pos ⟨by omega,by omega⟩,if_neg (by omega),show k+1-1=k by omega]
    have h3:=ZdI (z:=fun k=>lfn c.n c.q c.y (k+1)) (fun _ i i0 i1=>(e1 i i0 (by omega)).symm) h1
    refine⟨⟨hpo,by omega,?_,?_⟩,by omega,fun k=> ?_⟩
    · rw [e0,show n-1=c.n by omega];exact h3.1
    · rw [e0,show n-1=c.n by omega,h3.2];omega
    · unfold Zo
      by_cases hk:0<=k/\k<=c.n
      · by_cases hk0:k=0
        · rw [hk0,e0];have:=hf.1;have:=hf.2.1;omega
        · have:=e1 (k-1) (by omega) (by omega)
          rw [show k-1+1=k by omega] at this
          rw [this];have:=hf.2.2 (k-1) (by omega) (by omega);omega
      · unfold lfn;rw [if_neg hk];omega
def WS(p:Prob)(b c:Int)(t:Tr)(u:Int)(ln:Int->Int)(pt:Int->Int->Int)(cnt:Int->Int)(ok:Prop)(lf:Int):Prop:=
  1<=c/\(Zy p<=6->c<=Gn (Zy p))/\(¬ok->UN t/\u=0/\(Zy p<=6->lf<0))/\
  (ok->(UN t/\PMt p u ln pt cnt/\brs u cnt<=b)\/(u=0/\wrT t p b=none/\(0<t.n\/0<t.nl)/\(t.ok/\Ux t)/\(Zy p<=6->t.nodes=c/\t.depth<=Zy p+1)))
theorem Yn:UN Tr.nil:=⟨rfl,rfl,rfl⟩
theorem UP{p:Prob}(hp:p.Ok):Zy p<=6->1<=Gn (Zy p):=fun h=>(K7 _ (YN hp).1 h).1
theorem ZgP{p:Prob}(hp:p.Ok)(h:lf<0):WS p b 1 .nil 0 ln pt cnt False lf:=
  ⟨Int.le_refl _,UP hp,fun _=>⟨Yn,rfl,fun _=>h⟩,fun h=>h.elim⟩
theorem ZgR{p:Prob}{u:Int}{ok:Prop}(hp:p.Ok)(h:Zl1 p b u ln pt cnt ok)(ho:ok):WS p b 1 .nil u ln pt cnt True lf:=
  ⟨Int.le_refl _,UP hp,fun h=>absurd trivial h,fun _=> .inl ⟨Yn,h.1 ho⟩⟩
theorem Zek{x:Int}(h:Zo x): -9223372036854775808<=x/\x<=9223372036854775807:=by unfold Zo at h;omega
theorem Zef{p:Prob}{nl:Int}{l:Int->Int}{vK vL:Value}{kid:Int->Tr}{ok:Prop}(hp:p.Ok)(h:LfR p b nl l ok)(ho:ok):WS p b 1 (.mk 0 vK 0 kid vL nl l) 0 ln pt cnt True lf:=by
  obtain⟨h1,h2,h3⟩:=h.1 ho
  refine⟨Int.le_refl _,UP hp,fun h=>absurd trivial h,fun _=> .inr ⟨rfl,Xm rfl h1,.inr ?_,⟨⟨⟨by show Zo 0;unfold Zo;omega,by show(0:Int)<=100;omega,h2,.inl rfl,fun _=>rfl,fun k _ _=>h3 k⟩,fun i i0 i1=>by omega⟩,⟨⟨by omega,by omega,fun k=>Zek (h3 k)⟩,fun i i0 i1=>by omega⟩⟩,fun hn=> ?_⟩⟩
  · have:=h1.2.1;show 0<nl;omega
  · have:=(YN hp).1
    refine⟨rfl,?_⟩
    show IntKind.i64.wrap (0+1)<=_
    have:IntKind.i64.wrap (0+1)=1:=by decide
    omega
theorem Zak{p:Prob}{u2 nl:Int}{l:Int->Int}{ok1 ok2:Prop}(hpo:ZE p b)(h1:Zl1 p b u2 ln2 pt2 qh ok1)(n1:¬ok1)(h2:LfR p b nl l ok2)(n2:¬ok2)(h3:∀wi,ZF p b wi->100<Zn p b wi):WS p b 1 .nil 0 ln pt cnt False lf:=by
  have hp:=hpo.1
  refine⟨Int.le_refl _,UP hp,fun _=>⟨Yn,rfl,fun hn=> ?_⟩,fun h=>h.elim⟩
  exfalso
  have h4:¬Zy p<=b:=fun h=>n1 (h1.2 h)
  have hb0:=hpo.2.1
  have h5:b≠0:=fun h=>n2 (h2.2 h (by omega))
  obtain⟨w,w0,w1,w2⟩:=ZaE hp (by omega)
  have h6:=(ZgB hp w0 w1 w2 hn).1
  have h7:ZF p b w:=⟨hpo,by omega,⟨w0,w1⟩,by omega,by omega⟩
  have:=h3 w h7
  rw [Yi h7] at this
  omega
theorem W4{p:Prob}(hs:ZF p b wi)(i0:0<=i)(i1:i<Zn p b wi):Zy (ZW p wi i)=Zy p-Zd (YB (MX p wi) i) p.m.toNat/\1<=Zd (YB (MX p wi) i) p.m.toNat:=by
  obtain⟨h1,h2⟩:=VM hs i0 i1
  have e:Zd (fun j=>p.D j-YB (MX p wi) i j) p.m.toNat+Zd (YB (MX p wi) i) p.m.toNat=Zd p.D p.m.toNat:=by
    rw [<-X7];exact Zj fun j _ _=>by omega
  have h3:=Xc (f:=YB (MX p wi) i) (n:=p.m.toNat) hs.2.2.1.1 (by have:=hs.2.2.1.2;omega) fun j j0 j1=>(h1.rng j j0 (by omega)).1
  refine⟨?_,by omega⟩
  show Zd (fun j=>p.D j-YB (MX p wi) i j) p.m.toNat=Zd p.D p.m.toNat-_
  omega
theorem Zaz{p:Prob}(hs:ZF p b wi)(hn:Zy p<=6):1+Zd (fun k=>Gn (Zy (ZW p wi k))) (Zn p b wi).toNat<=Gn (Zy p):=by
  have hp:=hs.1.1
  obtain⟨w0,w1⟩:=hs.2.2.1
  have hD:1<=p.D wi:=by have he:=hp.all wi w0 w1;unfold Prob.each at he;have:=hs.2.2.2.1;omega
  have h1:=(ZgB hp w0 w1 hD hn).2
  have h2:=Zbn hp w0 w1 hD (f:=fun s=>Gn (Zy p-s)) fun s=>ZiZ _
  have h3:=Znm _ h1 hn
  have h4:Zd (fun k=>Gn (Zy (ZW p wi k))) (Zn p b wi).toNat=YR (fun x=>Gn (Zy p-Zd x p.m.toNat)) (MX p wi):=by
    rw [<-Rs,Yi hs,Int.toNat_natCast]
    exact Zj fun k k0 k1=>by rw [(W4 hs k0 (by rw [Yi hs];exact k1)).1]
  omega
theorem Zds{p:Prob}(hs:ZF p b wi)(hn:Zy p<=6)(i0:0<=i)(i1:i<=Zn p b wi):1+Zd (fun k=>Gn (Zy (ZW p wi k))) i.toNat<=Gn (Zy p):=by
  have h1:=Zaz hs hn
  have h2:∀c:Nat,Zd (fun k=>Gn (Zy (ZW p wi k))) i.toNat<=Zd (fun k=>Gn (Zy (ZW p wi k))) (i.toNat+c):=fun c=>by
    induction c with
    |zero=>exact Int.le_refl _
    |succ c ih=>have:=ZiZ (Zy (ZW p wi ((i.toNat+c:Nat):Int)));show _<=Zd (fun k=>Gn (Zy (ZW p wi k))) (i.toNat+c)+Gn (Zy (ZW p wi ((i.toNat+c:Nat):Int)));omega
  have h3:=h2 (Zn p b wi-i).toNat
  rw [show i.toNat+(Zn p b wi-i).toNat=(Zn p b wi).toNat by omega] at h3
  omega
structure Upto (p:Prob) (b wi i C:Int) (kd:Int->Tr):Prop where
  one:1<=C
  few:Zy p<=6->C<=1+Zd (fun k=>Gn (Zy (ZW p wi k))) i.toNat
  all:∀k,0<=k->k<i->wrT (kd k) (ZW p wi k) (b-1)=none/\(kd k).ok/\Ux (kd k)
  cnt:Zy p<=6->VB (fun k=>(kd k).nodes) i.toNat=C/\0<=Ve (fun k=>(kd k).depth) i.toNat/\Ve (fun k=>(kd k).depth) i.toNat<=Zy p
theorem Upto.start{p:Prob}(hp:p.Ok)(kd:Int->Tr):Upto p b wi 0 1 kd:=
  ⟨Int.le_refl _,fun _=>by simp [Zd],fun k k0 k1=>by omega,fun _=>⟨rfl,Int.le_refl _,(YN hp).1⟩⟩
theorem Upto.calls{p:Prob}{kd:Int->Tr}{t:Tr}{u:Int}{ok:Prop}(h:Upto p b wi i C kd)(hs:ZF p b wi)(i0:0<=i)(i1:i<Zn p b wi)(hc:WS (ZW p wi i) (b-1) c t u ln pt cnt ok lf)(hn:Zy p<=6):C+c<=1+Zd (fun k=>Gn (Zy (ZW p wi k))) (i+1).toNat/\C+c<=Gn (Zy p):=by
  have h1:=W4 hs i0 i1
  have h2:=hc.2.1 (by omega)
  have h3:=h.few hn
  have h4:=ZJ (fun k=>Gn (Zy (ZW p wi k))) i0
  have h5:=Zds hs hn (i:=i+1) (by omega) (by omega)
  omega
theorem Upto.next{p:Prob}{kd:Int->Tr}{t:Tr}{u:Int}{ok:Prop}(h:Upto p b wi i C kd)(hs:ZF p b wi)(i0:0<=i)(i1:i<Zn p b wi)(hc:WS (ZW p wi i) (b-1) c t u ln pt cnt ok lf)(ho:ok)(hm:¬(0<u\/(t.n=0/\t.nl=0/\RV (ZW p wi i)))):Upto p b wi (i+1) (C+c) (gsn kd i t):=by
  have h9:wrT t (ZW p wi i) (b-1)=none/\(t.ok/\Ux t)/\(Zy (ZW p wi i)<=6->t.nodes=c/\t.depth<=Zy (ZW p wi i)+1):=by
    rcases hc.2.2.2 ho with⟨g1,g2,g3⟩|⟨g1,g2,g3,g4,g5⟩
    · exfalso
      have hu:¬0<u:=fun hu=>hm (.inl hu)
      refine hm (.inr ⟨g1.2.2,g1.2.1,g2.1.1,fun j j0 j1=> ?_⟩)
      have:=g2.2 j j0 j1
      unfold Zw at this
      rw [show u.toNat=0 by omega] at this
      exact this
    · exact⟨g2,g4,g5⟩
  have hc1:=hc.1
  have h1:=h.one
  refine⟨by omega,fun hn=>(h.calls hs i0 i1 hc hn).1,fun k k0 k1=> ?_,fun hn=> ?_⟩
  · by_cases e:k<i
    · rw [Zv e];exact h.all k k0 e
    · rw [ZL e,show k=i by omega];exact⟨h9.1,h9.2.1⟩
  · obtain⟨q1,q2,q3⟩:=h.cnt hn
    have q4:=W4 hs i0 i1
    obtain⟨q5,q6⟩:=h9.2.2 (by omega)
    have q7:=(h.calls hs i0 i1 hc hn).2
    have q8:=K7 (Zy p) (YN hs.1.1).1 hn
    have e1:VB (fun k=>(gsn kd i t k).nodes) i.toNat=VB (fun k=>(kd k).nodes) i.toNat:=Vm fun k k0 k1=>by rw [Zv (by omega)]
    have e2:Ve (fun k=>(gsn kd i t k).depth) i.toNat=Ve (fun k=>(kd k).depth) i.toNat:=Vt fun k k0 k1=>by rw [Zv (by omega)]
    rw [Ua _ i0,Uh _ i0,e1,e2,q1,Ym,q5]
    refine⟨I64.wrap (by unfold I64;omega),by omega,by omega⟩
theorem ZgN{p:Prob}{kd:Int->Tr}{t:Tr}{u:Int}{ok:Prop}(h:Upto p b wi i C kd)(hs:ZF p b wi)(i0:0<=i)(i1:i<Zn p b wi)(hc:WS (ZW p wi i) (b-1) c t u ln pt cnt ok lf)(ho:¬ok):WS p b (C+c) .nil 0 ln2 pt2 qh False lf:=by
  have h1:=h.one;have h2:=hc.1
  refine⟨by omega,fun hn=>(h.calls hs i0 i1 hc hn).2,fun _=>⟨Yn,rfl,fun hn=> ?_⟩,fun h=>h.elim⟩
  have:=W4 hs i0 i1
  exact(hc.2.2.1 ho).2.2 (by omega)
theorem ZdC{p:Prob}{n:Int}{f:Int->Int}(hp:p.Ok)(h:FitsP (ZW p wi i) n f):FitsP p n f:=⟨hp,h.eq,h.all,h.used⟩
theorem WK{f d g e:Int->Int}:∀n:Nat,(∀k,0<=k->k<(n:Int)->f k=g k/\d k=e k)->psum f d n=psum g e n
  |0,_=>rfl
  | n+1,h=>by
    have h1:=WK n fun k k0 k1=>h k k0 (by omega)
    obtain⟨h2,h3⟩:=h n (by omega) (by omega)
    simp only [psum];rw [h1,h2,h3]
theorem Zee {p:Prob} {kd:Int->Tr} {t:Tr} {u:Int} {ok:Prop} {x:Int->Int} (h:Upto p b wi i C kd) (hs:ZF p b wi) (i0:0<=i) (i1:i<Zn p b wi) (hc:WS (ZW p wi i) (b-1) c t u ln pt cnt ok lf) (ho:ok) (hm:0<u\/(t.n=0/\t.nl=0/\RV (ZW p wi i))) (u0:0<=u) {m9:Int} (hm9:m9=p.m) (hx:∀j,0<=j->j<p.m->x j=YB (MX p wi) i j):WS p b (C+c) .nil (u+1) (gsn ln u m9) (gsn pt u x) (snoc cnt u 1) True lf/\u<1000:=by
  subst hm9
  have h1:=h.one;have h2:=hc.1
  have hp:=hs.1.1
  obtain⟨m1,m2⟩:=VM hs i0 i1
  have hb1:=hs.1.2.2
  have hpl:PMt (ZW p wi i) u ln pt cnt/\brs u cnt<=b-1:=by
    rcases hc.2.2.2 ho with⟨g1,g2,g3⟩|⟨g1,g2,g3,g4,g5⟩
    · exact⟨g2,g3⟩
    · exfalso;omega
  obtain⟨⟨⟨_,k1,k2⟩,k3⟩,k4⟩:=hpl
  have hub:u<=brs u cnt:=by
    have:∀n:Nat,(n:Int)<=u->(n:Int)<=psum (fun _=>1) cnt n:=fun n=>by
      induction n with
      |zero=>intro _;simp [psum]
      | succ n ih=>
        intro hn
        have a1:=ih (by omega)
        have a2:=(k2 n (by omega) (by omega)).1
        simp only [psum];omega
    have a3:=this u.toNat (by omega)
    unfold brs;omega
  have hfx:FitsP p p.m x:=by
    refine W7 hp (fun j j0 j1=>by rw [hx j j0 j1];exact(m1.rng j j0 j1).1) ?_
    rw [Vy hx];exact m1.used
  have hmk:∀j,Zw (u+1) (gsn pt u x) (snoc cnt u 1) j=Zw u pt cnt j+x j:=fun j=>by
    rw [Xh u0]
    have e:Zw u (gsn pt u x) (snoc cnt u 1) j=Zw u pt cnt j:=WK _ fun k k0 k1=>⟨by show gsn pt u x k j=_;rw [Zv (by omega)],ZA (by omega)⟩
    rw [e,Ym,ZB (by omega)];omega
  have hbr:brs (u+1) (snoc cnt u 1)=brs u cnt+1:=by
    unfold brs
    rw [YG _ _ u0,ZB (by omega),WK (g:=fun _=>1) (e:=cnt) u.toNat fun k k0 k1=>⟨rfl,ZA (by omega)⟩]
    omega
  refine⟨⟨by omega,fun hn=>(h.calls hs i0 i1 hc hn).2,fun h=>absurd trivial h,fun _=> .inl ⟨Yn,⟨⟨hp,by omega,fun k k0 k1=> ?_⟩,fun j j0 j1=> ?_⟩,by omega⟩⟩,by omega⟩
  · by_cases e:k<u
    · rw [Zv e,Zv e,ZA e]
      obtain⟨a1,a2,a3⟩:=k2 k k0 e
      exact⟨a1,a2,ZdC hp a3⟩
    · rw [ZL e,ZL e,ZB e]
      exact⟨by omega,by omega,hfx⟩
  · rw [hmk,hx j j0 j1]
    have:=k3 j j0 j1
    have e:(ZW p wi i).D j=p.D j-YB (MX p wi) i j:=rfl
    omega
theorem ZeQ{f:Int->Option (List Int)}:∀(c:Nat) (i:Int),(∀k,i<=k->k<i+c->f k=none)->fw f c i=none
  |0,_,_=>rfl
  | c+1,i,h=>by
    unfold fw
    rw [h i (by omega) (by omega)]
    exact ZeQ c (i+1) fun k k0 k1=>h k (by omega) (by omega)
theorem Zei{p:Prob}(hs:ZF p b wi):1<=Zn p b wi:=by
  have hp:=hs.1.1
  obtain⟨w0,w1⟩:=hs.2.2.1
  have he:=hp.all wi w0 w1
  unfold Prob.each at he
  have hz:Zx p (fun _=>0) p.m.toNat=0:=by
    unfold Zx
    rw [Zj (g:=fun _=>0) fun i i0 i1=>by simp]
    exact ZP _
  have h1:=U2 (p:=p) (f:=fun _=>0) w0 (n:=p.m.toNat) (by omega)
  have hf:FitsP p p.m (upd (fun _=>0) wi (0+1)):=W7 hp (fun j j0 j1=>by by_cases e:j=wi;(rw [e,Gw.Zk];omega);(rw [Gw.upd_ne _ _ e];exact Int.le_refl _)) (by have h2:Zx p (Gw.upd (fun _=>0) wi (0+1)) p.m.toNat=Zx p (fun _=>0) p.m.toNat+(p.L wi+p.kerf):=h1;rw [h2,hz];omega)
  obtain⟨i,i0,i1,_⟩:=RN hf w0 w1 (by rw [Zk];omega) (by have:=hs.2.2.2.1;omega)
  rw [Yi hs];omega
theorem Zed{p:Prob}{kd:Int->Tr}{vK vL:Value}{l:Int->Int}(h:Upto p b wi (Zn p b wi) C kd)(hs:ZF p b wi)(hk:Zn p b wi<=100):WS p b C (.mk wi vK (Zn p b wi) kd vL 0 l) 0 ln pt cnt True lf\/¬(∀k,-9223372036854775808<=l k/\l k<=9223372036854775807):=by
  by_cases hl:∀k,-9223372036854775808<=l k/\l k<=9223372036854775807
  · left
    have h1:=Zei hs
    have hp:=hs.1.1
    obtain⟨w0,w1⟩:=hs.2.2.1
    have hm2:=hp.m2
    refine⟨h.one,fun hn=> ?_,fun h=>absurd trivial h,fun _=> .inr ⟨rfl,?_,.inl ?_,⟨⟨⟨?_,hk,?_,.inr rfl,fun h0=> ?_,fun k k0 k1=> ?_⟩,fun i i0 i1=>(h.all i i0 i1).2.1⟩,⟨⟨by omega,by omega,hl⟩,fun i i0 i1=>(h.all i i0 i1).2.2⟩⟩,fun hn=> ?_⟩⟩
    · have:=h.few hn;have:=Zaz hs hn;omega
    · rw [Wj (t:= .mk wi vK (Zn p b wi) kd vL 0 l) (by show Zn p b wi≠0;omega) hs rfl]
      refine ZeQ _ _ fun k k0 k1=> ?_
      exact(h.all k k0 (by have k1':k<0+((Zn p b wi-0).toNat:Int):=k1;omega)).1
    · show 0<Zn p b wi;omega
    · show Zo wi;unfold Zo;omega
    · show(0:Int)<=40;omega
    · have h0':Zn p b wi=0:=h0;omega
    · have k1':k<(0:Int):=k1;omega
    · obtain⟨q1,q2,q3⟩:=h.cnt hn
      refine⟨q1,?_⟩
      show IntKind.i64.wrap (Ve (fun k=>(kd k).depth) (Zn p b wi).toNat+1)<=_
      rw [I64.wrap (by unfold I64;omega)];omega
  · exact .inr hl
theorem Ziw{p:Prob}{u:Int}{t:Tr}{ok:Prop}(h:WS p b c t u ln pt cnt ok lf):u<=1000:=by
  by_cases ho:ok
  · rcases h.2.2.2 ho with⟨_,g,_⟩|⟨g,_⟩
    · exact g.1.2.1
    · omega
  · have:=(h.2.2.1 ho).2.1;omega
theorem Zdt{p:Prob}(hs:ZF p b wi)(i0:0<=i)(i1:i<Zn p b wi):ZE (ZW p wi i) (b-1):=⟨ZaB hs i0 i1,by have:=hs.2.1;omega,by have:=hs.1.2.2;omega⟩
theorem ZgQ{p:Prob}{u:Int}{t:Tr}{ok:Prop}(h:WS p b c t u ln pt cnt ok lf)(ho:ok)(hm:0<u\/(t.n=0/\t.nl=0/\RV p)):PMt p u ln pt cnt/\brs u cnt<=b:=by
  rcases h.2.2.2 ho with⟨g1,g2,g3⟩|⟨g1,g2,g3,g4,g5⟩
  · exact⟨g2,g3⟩
  · exfalso;omega
theorem ZgO{p:Prob}{u:Int}{t:Tr}{ok:Prop}(h:WS p b c t u ln pt cnt ok lf)(ho:ok)(hm:¬(0<u\/(t.n=0/\t.nl=0/\RV p))):u=0/\wrT t p b=none/\(0<t.n\/0<t.nl)/\(t.ok/\Ux t)/\(Zy p<=6->t.nodes=c/\t.depth<=Zy p+1):=by
  rcases h.2.2.2 ho with⟨g1,g2,g3⟩|h
  · exfalso
    have hu:¬0<u:=fun hu=>hm (.inl hu)
    refine hm (.inr ⟨g1.2.2,g1.2.1,g2.1.1,fun j j0 j1=> ?_⟩)
    have:=g2.2 j j0 j1
    unfold Zw at this
    rw [show u.toNat=0 by omega] at this
    exact this
  · exact h
theorem Zeh{p:Prob}{u:Int}{t:Tr}{ok:Prop}(hp:p.Ok)(h:WS p b c t u ln pt cnt ok (20000-c))(ho:¬ok):6<Zy p:=by
  apply Classical.byContradiction;intro hn
  have h1:=(h.2.2.1 ho).2.2 (by omega)
  have h2:=h.2.1 (by omega)
  have h3:=K7 _ (YN hp).1 (show Zy p<=6 by omega)
  omega
theorem Zeg{p:Prob}{u:Int}{t:Tr}{ok:Prop}(hp:p.Ok)(h:WS p b c t u ln pt cnt ok lf)(hf:(t.ok/\Ux t)/\(Zy p<=6->t.nodes=c/\t.depth<=Zy p+1))(hv:¬Yd t):6<Zy p:=by
  apply Classical.byContradiction;intro hn
  obtain⟨g1,g2⟩:=hf.2 (by omega)
  have h2:=h.2.1 (by omega)
  have h3:=K7 _ (YN hp).1 (show Zy p<=6 by omega)
  exact hv ⟨hf.1.1,by omega,by omega⟩
theorem Zew{p:Prob}{u n2:Int}(h:PMt p u ln pt cnt/\brs u cnt<=b)(hb:b<=1000)(hN:NormR (plL u ln pt cnt) (plL n2 ln2 pt2 qh))(u0:0<=u)(n0:0<=n2)(n1:n2<=u):PMt p n2 ln2 pt2 qh/\brs n2 qh<=b:=by
  obtain⟨⟨h1,h2⟩,h3⟩:=h
  have e1:brs n2 qh=brs u cnt:=by
    have:=hN.wsum (fun _=>1)
    rw [Ya _ n0,Ya _ u0] at this
    exact this
  have xO:∀x∈plL n2 ln2 pt2 qh,1<=x.2:=hN.pos fun x hx=>(Vq h1 x hx).1.1
  have hle:=(ZbS xO).2
  have e2:Gw.wsum (fun _=>1) (plL n2 ln2 pt2 qh)=brs n2 qh:=Ya _ n0
  have hP:PlanOk p n2 ln2 pt2 qh:=VJ h1.1 (by have:=h1.2.1;omega) fun x hx=>by
    obtain⟨y,hy,he⟩:=hN.keys x hx
    have h5:=hle x hx
    refine⟨⟨xO x hx,by omega⟩,?_⟩
    rw [<-he];exact(Vq h1 y hy).2
  refine⟨⟨hP,fun j j0 j1=> ?_⟩,by omega⟩
  have h6:=h2 j j0 j1
  rw [h1.mk u0 j0 j1] at h6
  rw [hP.mk n0 j0 j1]
  unfold mkU at h6⊢
  rw [hN.wsum];exact h6
def RefR(p:Prob)(b:Int)(t:Tr)(u:Int)(ln:Int->Int)(pt:Int->Int->Int)(cnt:Int->Int)(e:Int):Prop:=
  (¬ZE p b/\UN t/\u=0/\e=1)\/(ZE p b/\6<Zy p/\UN t/\u=0/\e=9)\/(ZE p b/\e=0/\UN t/\PMt p u ln pt cnt/\brs u cnt<=b)\/
  (ZE p b/\e=0/\u=0/\Yd t/\Ux t/\wrT t p b=none/\(0<t.n\/0<t.nl))
def SolR6(p:Prob)(nb:Int)(t:Tr)(u:Int)(ln:Int->Int)(pt:Int->Int->Int)(cnt:Int->Int)(e:Int):Prop:=
  (¬p.Ok/\e=1/\nb=0/\UN t/\u=0)\/(p.Ok/\6<Zy p/\e=9/\nb=0/\UN t/\u=0)\/
  (p.Ok/\e=0/\PMt p u ln pt cnt/\brs u cnt=nb/\nb<=1000/\Ux t/\((nb=0/\UN t)\/(1<=nb/\Yd t/\wrT t p (nb-1)=none)))
theorem RefR.u{p:Prob}{b u e:Int}{t:Tr}{ln cnt:Int->Int}{pt:Int->Int->Int}(h:RefR p b t u ln pt cnt e):u<=1000:=by
  rcases h with⟨_,_,h,_⟩|⟨_,_,_,h,_⟩|⟨_,_,_,h,_⟩|⟨_,_,h,_⟩
  · omega
  · omega
  · exact h.1.2.1
  · omega
theorem RefR.err{p:Prob}{u:Int}{t:Tr}(h:RefR p b t u ln pt cnt e)(hp:ZE p b)(he:e≠0):6<Zy p:=by
  rcases h with⟨h,_⟩|⟨_,h,_⟩|⟨_,h,_⟩|⟨_,h,_⟩
  · exact absurd hp h
  · exact h
  · exact absurd h he
  · exact absurd h he
theorem RefR.plan{p:Prob}{u:Int}{t:Tr}(h:RefR p b t u ln pt cnt e)(he:e=0)(h1:¬0<t.n)(h2:¬0<t.nl):PMt p u ln pt cnt/\brs u cnt<=b:=by
  rcases h with⟨_,_,_,h⟩|⟨_,_,_,_,h⟩|⟨_,_,_,h3,h4⟩|⟨_,_,_,_,_,_,h⟩
  · omega
  · omega
  · exact⟨h3,h4⟩
  · omega
theorem RefR.tree{p:Prob}{u:Int}{t:Tr}(h:RefR p b t u ln pt cnt e)(he:e=0)(h1:0<t.n\/0<t.nl):Yd t/\Ux t/\wrT t p b=none:=by
  rcases h with⟨_,_,_,h⟩|⟨_,_,_,_,h⟩|⟨_,_,h3,_⟩|⟨_,_,_,h1,h2,h3,_⟩
  · omega
  · omega
  · have:=h3.2.1;have:=h3.2.2;omega
  · exact⟨h1,h2,h3⟩
theorem ZnB{p:Prob}{u:Int}(h:PMt p u ln pt cnt):0<=brs u cnt:=(Rg h.1).1
end Go.Proofs.YtkichmnjjblodaaGreat
namespace Go.Proofs.YtkichmnjjblodaaGreat
open Go Go.RowKit Go.Proofs.Gw
theorem ZiL:Zc Tryz.prog 57=true:=by kernel_rfl
theorem Zll{vL vD:Value}{p:Prob}{b:Int}(w0:World)(h:PAt w0 vL vD p)(hpo:ZE p b):
    Calls Tryz.prog 61 [.agg #[vL,vD,.int .i64 p.stock,.int .i64 p.kerf,.int .i64 b]].toArray w0 fun e w=>∃v,e= .returned v/\∃r u pv ln pt cnt ok,v= .tuple #[r,B ok]/\Zl1 p b u ln pt cnt ok/\Slh r u/\Sat w0 w [.own r 2 107 u (Zg pv cnt),.sem (Frame.rows 3 u pv ln pt)]:=by
  have hm:=h.L.slh.n0;have hm1:=h.L.slh.n1;have hd:=h.D.slh.n0;have hd1:=h.D.slh.n1;have hs:=h.is;have hk:=h.ik
  have hb1:=hpo.2.1;have hb2:=hpo.2.2
  refine zenG Tryz.func61 Tryz.ntmps61 fun w hS=> ?_
  refine zsr<|zla (xbx (cs:= [_,_,_,_,_]) hS) ?_;rintro _ w ⟨g1,rfl,hS⟩
  refine(zP)<|(zP)<|zlz<|(zV (xfb 0 fd_34_0))<|(zV (xlp 0 (ds:= [vL,vD,.int .i64 p.stock,.int .i64 p.kerf]) st_32 hS))<|zlc (xc0 ZiL) (Zgl (p:=p) w (h.below hS.below)) ?_;rintro _ w ⟨z7,yC,zA,zC,zK,zM,eR,rfl,qP,bR,eg,xS,hS'⟩
  replace hS:=(hS.comp hS').n3;clear hS'
  have cA:=fun k (k0:0<=k) (k1:k<yC)=>hS.slhIn 2 rfl k0 k1
  refine zs5 ?_
  refine zx7<|zdst [0,1,2] [0,1,2] 1000 mx_ hS ?_;clear hS;intro w hS
  refine(zDw 0 xmv)<|(zDw 1 xmv)<|(zDw 2 YL)<|(zDw 3 xmv)<|zdb 15 ?_ ?_<;>intro hc
  ·
   refine(zDw 4 xmv)<|(zDw 6 (xfb 4 fd_34_1))<|(zDl 7 (fun w hS=>(xlb 0 pl_3 hS)))<|zdc 5 (xc0 Za6) (V2 (u:=yC) (pv:=zA) (ln:=zC) (pt:=zK) (cnt:=zM) w (⟨(hS.rowN 1 rfl),fun k k0 k1=>hS.rowIn 2 rfl k0 k1,fun k k0 k1=>hS.roomIn 2 rfl k0 k1⟩:VAt _ z7 yC zA zC zK zM) (by omega) (fun k k0 k1=>by have h8:=bR k k0 k1;omega)) ?_;rintro _ w ⟨rfl,hS'⟩
   replace hS:=hS.cmp hS';clear hS'
   refine⟨⟨fun _=>hS,hS⟩,?_⟩
   refine(zDw 8 Xb)<|(zDw 9 xpt)<|(zDw 10 xas)<|(zDw 11 xas)<|zdd<|ztn<|zrt<|zf2 ⟨_,rfl,?_⟩
   have hmt:=qP.meets hpo.1 (by omega) xS.n0
   exact⟨_,_,_,_,_,_,_,rfl,⟨fun hq=>⟨hmt.1,hq⟩,fun hq=>Int.le_trans hmt.2 hq⟩,xS,hS.pk [1,2]⟩
  refine(zDo 4)<|(zDo 6)<|(zDo 7)<|(zDo 5)<|(zDo 8)<|(zDw 9 xpf)<|(zDw 10 xas)<|(zDw 11 xas)<|zdd<|ztn<|zrt<|zf2 ⟨_,rfl,?_⟩
  exact⟨_,_,_,_,_,_,False,by rw [ZC not_false],⟨fun h=>h.elim,fun hq=>by have h8:=(qP.tot hpo.1).2 (by have:=hpo.2.2;omega);omega⟩,xS,hS.pk [1,2]⟩
end Go.Proofs.YtkichmnjjblodaaGreat
namespace Go.Proofs.YtkichmnjjblodaaGreat
open Go Go.RowKit Go.Proofs.Gw
theorem Zmt:Zc Tryz.prog 91=true:=by kernel_rfl
theorem Zm0{vL vD:Value}{p:Prob}{b:Int}(w0:World)(h:PAt w0 vL vD p)(hpo:ZE p b):
    Calls Tryz.prog 62 [.agg #[vL,vD,.int .i64 p.stock,.int .i64 p.kerf,.int .i64 b]].toArray w0 fun e w=>∃v,e= .returned v/\∃r n l ok,v= .tuple #[r,B ok]/\LfR p b n l ok/\Slh r n/\Sat w0 w [.own r 1 3 n (ints l)]:=by
  have hm:=h.L.slh.n0;have hm1:=h.L.slh.n1;have hd:=h.D.slh.n0;have hd1:=h.D.slh.n1;have hs:=h.is;have hk:=h.ik
  have hb1:=hpo.2.1;have hb2:=hpo.2.2
  refine zenG Tryz.func62 Tryz.ntmps62 fun w hS=> ?_
  refine zsr<|zla (xbx (cs:= [_,_,_,_,_]) hS) ?_;rintro _ w ⟨g1,rfl,hS⟩
  refine(zP)<|(zP)<|zlz<|(zV (xfb 0 fd_34_0))<|(zV (xlp 0 (ds:= [vL,vD,.int .i64 p.stock,.int .i64 p.kerf]) st_32 hS))<|zlc (xc0 Zmt) (Zgk (p:=p) w (h.below hS.below)) ?_;rintro _ w ⟨gL,yX,jD,ka,rfl,qP,co,hS'⟩
  replace hS:=(hS.comp hS').n2;clear hS'
  refine zs4 ?_
  refine zla (xal (cs:= [_,_]) UH hS) ?_;rintro _ w ⟨g2,rfl,hS⟩
  refine zle (xsw 2 st_98 hS (hd:=(Za co.one (Za rfl Zi)))) ?_;clear hS;rintro w hS
  refine(zP)<|(zP)<|zx5<|(zP)<|(zP)<|(zP)<|zlb 16 ?_ ?_<;>intro hc
  ·
   iterate 4 refine zlo ?_
   refine(zP)<|zlt<|zct<|zsr ?_
   refine(zP)<|(zP)<|zx14<|zf2 ⟨_,rfl,?_⟩
   obtain⟨g1,g2,g3⟩:=qP.good hpo.1
   exact⟨_,0,fun _=>0,False,by rw [ZC not_false],⟨fun h=>h.elim,fun hb hn=>by have:=g3 hn;omega⟩,slh_nil,(hS.addnil 1 3 (ints fun _=>0)).sub (.cons _ (.cons _ (.cons _ (.cons_cons _ .slnil))))⟩
  refine(zP)<|(zV (xfb 4 fd_34_1))<|(zV (xlb 0 pl_3 hS))<|(zP)<|(zP)<|zlt<|Ze ?_ ?_<;>intro hc
  ·
   refine zsr<|(zP)<|(zP)<|zx14<|zf2 ⟨_,rfl,?_⟩
   obtain⟨g1,g2,g3⟩:=qP.good hpo.1
   exact⟨_,0,fun _=>0,False,by rw [ZC not_false],⟨fun h=>h.elim,fun hb hn=>by have:=g3 hn;omega⟩,slh_nil,(hS.addnil 1 3 (ints fun _=>0)).sub (.cons _ (.cons _ (.cons _ (.cons_cons _ .slnil))))⟩
  refine ZS<|(zV (xfb 1 fd_98_1))<|zlv (xlb 2 pl_3 hS) ?_
  have hgc:=(qP.good hpo.1).2.1.resolve_left (by omega)
  have hgn:=(Gw.Xj hgc.1).2.2.1;have hgm:=hpo.1.m2
  refine zla (xli (n:=1) (len:=1) (pv:= [(0,.int .i64 yX.q)]) (cs:= [.int .i64 yX.q]) (c:=ints (fun _=>yX.q)) Zb Zt hS) ?_;rintro v1 w ⟨hS,hv1⟩
  refine(zV (xfb 0 fd_98_0))<|(zV (xlb 2 pl_22 hS))<|zla (xap 3 (r:=yX.n+1) (f:=ints (consf yX.q yX.y)) Zb Zt hS (hS.rowN 1 rfl) (by exact RH _ _)) ?_;rintro v2 w ⟨hS,hv2⟩
  refine(zP)<|(zP)<|zx1<|zf2 ⟨_,rfl,?_⟩
  obtain⟨g1,g2,g3⟩:=qP.good hpo.1
  replace hS:=hS.recont 3 rfl (d:=ints (lfn yX.n yX.q yX.y)) (fun k k0 k1=>by unfold ints lfn;rw [if_pos ⟨k0,by omega⟩])
  exact⟨_,_,_,True,by rw [ZI trivial],⟨fun _=>Zha hpo g2 (by omega) (by omega),fun _ _=>trivial⟩,hv2,hS.pk [3]⟩
end Go.Proofs.YtkichmnjjblodaaGreat
namespace Go.Proofs.YtkichmnjjblodaaGreat
open Go Go.RowKit Go.Proofs.Gw
def ZnF(p:Prob)(b i:Int):Prop:= -1<=i/\(0<=i->ZF p b i/\Zn p b i<=100)/\(i<0->∀wi,ZF p b wi->100<Zn p b wi)
theorem Zdr{p:Prob}{b i:Int}(h:i<0):Zn p b i=0:=Xg fun hs=>by have:=hs.2.2.1.1;omega
theorem Zlk{vL vD:Value}{p:Prob}{b:Int}(w0:World)(h:PAt w0 vL vD p):
    Calls Tryz.prog 63 [.agg #[vL,vD,.int .i64 p.stock,.int .i64 p.kerf,.int .i64 b]].toArray w0 fun e w=>∃v,e= .returned v/\∃i r vv,v= .tuple #[.int .i64 i,r,B (0<=i)]/\ZnF p b i/\Slh r (Zn p b i)/\Sat w0 w [.own r 5 34 (Zn p b i) (ZG vv p.stock p.kerf (b-1)),.sem (Frame.rows 3 (2*Zn p b i) vv (fun _=>p.m) (gfn p (MX p i)))]:=by
  have hm:=h.L.slh.n0;have hm1:=h.L.slh.n1;have hd:=h.D.slh.n0;have hd1:=h.D.slh.n1;have hs:=h.is;have hk:=h.ik
  refine zenG Tryz.func63 Tryz.ntmps63 fun w hS=> ?_
  refine zsr<|zla (xbx (cs:= [_,_,_,_,_]) hS) ?_;rintro _ w ⟨g1,rfl,hS⟩
  refine(zP)<|(zP)<|(zP)<|zlz<|(zP)<|zlz<|(zP)<|zx5<|(zV (xfb 0 fd_34_0))<|(zV (xfb 1 fd_32_1))<|(zV (xlb 0 pl_22 hS))<|(zV (xln Zb h.D.slh))<|(zP)<|zx6 ?_
  replace hS:=(hS.addnil 5 34 (ZG (fun _=>Value.slice none 0 0) p.stock p.kerf (b-1))).addrows 3 (fun _=>Value.slice none 0 0) (fun _=>p.m) (gfn p (MX p (-1)))
  replace hS:=hS.rowsn 2 rfl (show(0:Int)=2*0 from rfl)
  refine zlp (fun mm M w=>∃(nB:Int) (vvB:Int->Value) (wB:Value) (j:Int) (i:Int),mm=((p.d-i).toNat)/\(0<=i)/\(i<=p.d)/\(-1<=j)/\(Slh wB nB)/\(nB=Zn p b j)/\(0<=j->ZF p b j/\Zn p b j<=100)/\(j<0->∀wi,0<=wi->wi<i->ZF p b wi->100<Zn p b wi)/\M= [(1,.pointer (some ⟨g1,0,none⟩)),(2,.int .i64 0),(3,.slice none 0 0),(4,.bool false),(5,.int .i64 j),(6,wB),(13,vD),(14,.int .i64 p.d),(15,.int .i64 i)]/\Sat w0 w [.blk g1 [vL,vD,.int .i64 p.stock,.int .i64 p.kerf,.int .i64 b],.own wB 5 34 nB (ZG vvB p.stock p.kerf (b-1)),.sem (Frame.rows 3 (2*nB) vvB (fun _=>p.m) (gfn p (MX p j)))]) ⟨0,(fun _=>Value.slice none 0 0),(.slice none 0 0),(-1),0,rfl,(by omega),(by omega),(by omega),?_,?_,?_,?_,rfl,hS⟩ ?_
  ·
   exact slh_nil
  ·
   exact(Zdr (by omega)).symm
  ·
   intro hh;omega
  ·
   intro hh wi w0 w1;omega
  clear hS w
  rintro mm M w ⟨nB,vvB,wB,j,i,rfl,h0,h1,hj,hwB,hnB,hsp,hno,rfl,hS⟩
  have hrB:∀k,0<=k->k<2*nB->Slh (vvB k) p.m:=fun k k0 k1=>hS.slhIn 2 rfl k0 k1
  refine zsr<|(zP)<|zx7<|Ze ?_ ?_<;>intro hc
  ·
   refine zx3<|(zP)<|(zV (xix (kk:=i) Zb h.D.slh))<|zlv (xlr (u:= .int .i64 (p.D i)) pl_3 (h.D.below hS.below)) ?_
   have hbv:=h.iD i
   refine(zP)<|(zP)<|zx5<|(zP)<|(zP)<|zlt<|Ze ?_ ?_<;>intro hc
   ·
    refine zxt<|ztx<|zbh<|ztn<|zrg<|(zV (Zh (r:=i+1)))<|(zP)<|zln<|zlq ⟨nB,vvB,wB,j,i+1,rfl,(by omega),(by omega),(by omega),?_,?_,?_,?_,rfl,hS⟩
    ·
     exact hwB
    ·
     first|exact hnB|rfl
    ·
     first|exact hsp|exact fun _=>⟨by assumption,by omega⟩
    ·
     first
     |(intro hh;omega)
     |(intro hh wi w0 w1 hs;rcases Int.lt_or_eq_of_le (show wi<=i by omega) with h9|h9;exact hno hh wi w0 h9 hs;rw [h9] at hs⊢;first|omega|exact absurd hs ‹¬ZF p b i›|exact absurd (by omega) hs.2.2.2.1)
   refine ZS<|(zV (xls 0 Yq hS))<|(zP)<|zlc (xc0 ZiV) (ZcZ (p:=p) (b:=b) (wi:=i) w (h.below hS.below)) ?_;rintro _ w ⟨db,bZ,rfl,y3,hS'⟩
   replace hS:=(hS.comp hS').n5;clear hS'
   have gW:∀k,0<=k->k<2*(Zn p b i)->Slh (bZ k) p.m:=fun k k0 k1=>hS.slhIn 4 rfl k0 k1
   refine zs2 ?_
   have jK:=y3.n0
   refine(zP)<|(zP)<|(zP)<|zlz<|(zP)<|(zP)<|zlb 29 ?_ ?_<;>intro hc
   ·
    refine(zP)<|(zV (xln VD y3))<|(zP)<|(zP)<|(zP)<|zlb 34 ?_ ?_<;>intro hc
    ·
     refine(zP)<|(zP)<|(zP)<|zlb 37 ?_ ?_<;>intro hc
     ·
      iterate 5 refine zlo ?_
      refine(zP)<|(zP)<|zlt<|zct<|zrg ?_
      refine zs4 ?_
      refine zx10<|(zV (Zh (r:=i+1)))<|(zP)<|zln<|zlq ⟨(Zn p b i),bZ,db,i,i+1,rfl,(by omega),(by omega),(by omega),?_,?_,?_,?_,rfl,hS.pk [0,3,4]⟩
      ·
       exact y3
      ·
       first|exact hnB|rfl
      ·
       first|exact hsp|exact fun _=>⟨by assumption,by omega⟩
      ·
       first
       |(intro hh;omega)
       |(intro hh wi w0 w1 hs;rcases Int.lt_or_eq_of_le (show wi<=i by omega) with h9|h9;exact hno hh wi w0 h9 hs;rw [h9] at hs⊢;first|omega|exact absurd hs ‹¬ZF p b i›|exact absurd (by omega) hs.2.2.2.1)
     refine(zP)<|(zV (xln VD y3))<|(zP)<|(zV (xln VD hwB))<|(zP)<|(zP)<|(zP)<|zlt<|Ze ?_ ?_<;>intro hc
     ·
      refine zrg<|zs4 ?_
      refine zx10<|(zV (Zh (r:=i+1)))<|(zP)<|zln<|zlq ⟨(Zn p b i),bZ,db,i,i+1,rfl,(by omega),(by omega),(by omega),?_,?_,?_,?_,rfl,hS.pk [0,3,4]⟩
      ·
       exact y3
      ·
       first|exact hnB|rfl
      ·
       first|exact hsp|exact fun _=>⟨by assumption,by omega⟩
      ·
       first
       |(intro hh;omega)
       |(intro hh wi w0 w1 hs;rcases Int.lt_or_eq_of_le (show wi<=i by omega) with h9|h9;exact hno hh wi w0 h9 hs;rw [h9] at hs⊢;first|omega|exact absurd hs ‹¬ZF p b i›|exact absurd (by omega) hs.2.2.2.1)
     refine zx4<|(zV (Zh (r:=i+1)))<|(zP)<|zln<|zlq ⟨nB,vvB,wB,j,i+1,rfl,(by omega),(by omega),(by omega),?_,?_,?_,?_,rfl,hS.pk [0,1,2]⟩
     ·
      exact hwB
     ·
      first|exact hnB|rfl
     ·
      first|exact hsp|exact fun _=>⟨by assumption,by omega⟩
     ·
      first
      |(intro hh;omega)
      |(intro hh wi w0 w1 hs;rcases Int.lt_or_eq_of_le (show wi<=i by omega) with h9|h9;exact hno hh wi w0 h9 hs;rw [h9] at hs⊢;first|omega|exact absurd hs ‹¬ZF p b i›|exact absurd (by omega) hs.2.2.2.1)
    iterate 9 refine zlo ?_
    refine(zP)<|zlt<|zcf<|zsk<|zbn<|ztn<|zrg ?_
    refine(zV (Zh (r:=i+1)))<|(zP)<|zln<|zlq ⟨nB,vvB,wB,j,i+1,rfl,(by omega),(by omega),(by omega),?_,?_,?_,?_,rfl,hS.pk [0,1,2]⟩
    ·
     exact hwB
    ·
     first|exact hnB|rfl
    ·
     first|exact hsp|exact fun _=>⟨by assumption,by omega⟩
    ·
     first
     |(intro hh;omega)
     |(intro hh wi w0 w1 hs;rcases Int.lt_or_eq_of_le (show wi<=i by omega) with h9|h9;exact hno hh wi w0 h9 hs;rw [h9] at hs⊢;first|omega|exact absurd hs ‹¬ZF p b i›|exact absurd (by omega) hs.2.2.2.1)
   iterate 3 refine zlo ?_
   refine zs2 ?_
   iterate 9 refine zlo ?_
   refine(zP)<|zlt<|zcf<|zsk<|zbn<|ztn<|zrg ?_
   refine(zV (Zh (r:=i+1)))<|(zP)<|zln<|zlq ⟨nB,vvB,wB,j,i+1,rfl,(by omega),(by omega),(by omega),?_,?_,?_,?_,rfl,hS.pk [0,1,2]⟩
   ·
    exact hwB
   ·
    first|exact hnB|rfl
   ·
    first|exact hsp|exact fun _=>⟨by assumption,by omega⟩
   ·
    first
    |(intro hh;omega)
    |(intro hh wi w0 w1 hs;rcases Int.lt_or_eq_of_le (show wi<=i by omega) with h9|h9;exact hno hh wi w0 h9 hs;rw [h9] at hs⊢;first|omega|exact absurd hs ‹¬ZF p b i›|exact absurd (by omega) hs.2.2.2.1)
  refine zx8<|zs6 ?_
  refine(zP)<|zx1<|zf3 ⟨_,rfl,?_⟩
  subst hnB
  exact⟨_,_,_,rfl,⟨hj,hsp,fun hh wi hs=>hno hh wi hs.2.2.1.1 (by have:=hs.2.2.1.2;have:=hs.1.1.d;omega) hs⟩,hwB,hS.pk [1,2]⟩
end Go.Proofs.YtkichmnjjblodaaGreat
namespace Go.Proofs.YtkichmnjjblodaaGreat
open Go Go.RowKit Go.Proofs.Gw
theorem ZgG{w:World}{pv:Int->Value}{ln cnt:Int->Int}{pt:Int->Int->Int}:VAt w (.slice none 0 0) 0 pv ln pt cnt:=⟨UQ _ _ _,fun i i0 i1=>by omega,fun i i0 i1=>by omega⟩
theorem Rp{p:Prob}{ln cnt:Int->Int}{pt:Int->Int->Int}:(PlanOk p 0 ln pt cnt/\∀j,0<=j->j<p.m->p.D j<=Zw 0 pt cnt j)↔RV p:=
  ⟨fun h=>⟨h.1.1,fun j j0 j1=>h.2 j j0 j1⟩,fun h=>⟨⟨h.1,by omega,fun k k0 k1=>by omega⟩,fun j j0 j1=>h.2 j j0 j1⟩⟩
theorem ZfX{vL vD:Value}{p:Prob}{b:Int}{s9 n9 nl9 u:Int}{vK vL9 vV:Value}(w0:World)(h:PAt w0 vL vD p)(hk9:Slh vK n9)(hl9:Slh vL9 nl9)(hv9:Slh vV u):
    Calls Tryz.prog 64 [.agg #[vL,vD,.int .i64 p.stock,.int .i64 p.kerf,.int .i64 b],.agg #[.int .i64 s9,vK,vL9],vV].toArray w0 fun e w=>∃v,e= .returned v/\v=B (0<u\/(n9=0/\nl9=0/\RV p))/\Sat w0 w []:=by
  have hm:=h.L.slh.n0;have hm1:=h.L.slh.n1;have hd:=h.D.slh.n0;have hd1:=h.D.slh.n1;have hs:=h.is;have hk:=h.ik
  have hn9:=hk9.n0;have jQ:=hl9.n0;have hu9:=hv9.n0
  refine zenG Tryz.func64 Tryz.ntmps64 fun w hS=> ?_
  refine zsr<|zla (xbx (cs:= [_,_,_,_,_]) hS) ?_;rintro _ w ⟨g1,rfl,hS⟩
  refine zla (xbx (cs:= [_,_,_]) hS) ?_;rintro _ w ⟨g2,rfl,hS⟩
  refine(zP)<|zlz<|(zP)<|(zV (xln ZO hv9))<|(zP)<|(zP)<|zlb 10 ?_ ?_<;>intro hc
  ·
   iterate 15 refine zlo ?_
   refine(zP)<|(zP)<|zx1<|zf1 ⟨_,rfl,?_⟩
   exact⟨ZX (.inl (by omega)),hS.nl⟩
  refine(zV (xfb 1 fd_54_1))<|(zV (xlb 1 Xs hS))<|(zV (xln YI hk9))<|(zP)<|(zP)<|zlb 15 ?_ ?_<;>intro hc
  ·
   refine(zV (xfb 2 fd_54_2))<|(zV (xlb 1 pl_22 hS))<|(zV (xln Zb hl9))<|(zP)<|(zP)<|(zP)<|zlb 21 ?_ ?_<;>intro hc
   ·
    refine(zV (xfb 0 fd_34_0))<|(zV (xlp 0 (ds:= [vL,vD,.int .i64 p.stock,.int .i64 p.kerf]) st_32 hS))<|zlc (xc0 Zfk) (TI (u:=0) (pv:=fun _=>undef) (ln:=fun _=>0) (pt:=fun _ _=>0) (cnt:=fun _=>0) (p:=p) w ZgG (h.below hS.below)) ?_;rintro _ w ⟨rfl,hS'⟩
    replace hS:=hS.cmp hS';clear hS'
    refine(zP)<|(zP)<|(zP)<|zx1<|zf1 ⟨_,rfl,?_⟩
    exact⟨Zm ⟨fun hh=> .inr ⟨by omega,by omega,Rp.1 hh⟩,fun hh=>by rcases hh with hh|⟨g1,g2,g3⟩;omega;exact Rp.2 g3⟩,hS.nl⟩
   iterate 3 refine zlo ?_
   refine(zP)<|(zP)<|(zP)<|zx1<|zf1 ⟨_,rfl,?_⟩
   exact⟨Zf (by rintro(hh|⟨g1,g2,g3⟩)<;>omega),hS.nl⟩
  iterate 4 refine zlo ?_
  refine zs2 ?_
  iterate 3 refine zlo ?_
  refine(zP)<|(zP)<|(zP)<|zx1<|zf1 ⟨_,rfl,?_⟩
  exact⟨Zf (by rintro(hh|⟨g1,g2,g3⟩)<;>omega),hS.nl⟩
end Go.Proofs.YtkichmnjjblodaaGreat
namespace Go.Proofs.YtkichmnjjblodaaGreat
open Go Go.RowKit Go.Proofs.Gw
variable {cnt:Int->Int} {pv:Int->Value}
theorem Znx(w:World)(a:Addr)(n c:Nat):(binOp .eql 60 (.slice (some a) n c) (.slice none 0 0)).run Tryz.prog w= .ok (.bool false) w:=by kernel_rfl
theorem Zml(w:World):(binOp .eql 60 (.slice none 0 0) (.slice none 0 0)).run Tryz.prog w= .ok (.bool true) w:=by kernel_rfl
theorem Znq{L:List (Nat×Value)}{w:World}{o:Oper}{x y:Operand}{T':TypeId}{a:Addr}{n c:Nat}(ho:o.op= .binOp .eql 60 x y T':=by exact rfl)(hx:evL L x=some (.slice (some a) n c):=by exact rfl)(hy:evL L y=some (.slice none 0 0):=by exact rfl):Runs Tryz.prog L w o (.value (.bool false)) w:=fun ρ h=>by
  simp [execOp,ho,h _ _ hx,h _ _ hy,Znx];rfl
theorem Zl4{L:List (Nat×Value)}{w:World}{o:Oper}{x y:Operand}{T':TypeId}(ho:o.op= .binOp .eql 60 x y T':=by exact rfl)(hx:evL L x=some (.slice none 0 0):=by exact rfl)(hy:evL L y=some (.slice none 0 0):=by exact rfl):Runs Tryz.prog L w o (.value (.bool true)) w:=fun ρ h=>by
  simp [execOp,ho,h _ _ hx,h _ _ hy,Zml];rfl
theorem Zbv{n k:Int}(h1:∀k,0<=k->k<n->(pv k).oneCell'=true)(k0:0<=k)(k1:k<n*((2:Nat):Int)):(Zg pv cnt k).oneCell'=true:=by
  unfold Zg;split
  · exact h1 _ (by omega) (by omega)
  · rfl
theorem ZlO{g9 m9 c9:Nat}{n:Int}(w0:World)(hR:Row w0 (.slice (some ⟨g9,0,none⟩) m9 c9) 2 n (Zg pv cnt))(h1:∀k,0<=k->k<n->(pv k).oneCell'=true)(hn5:n<=1000000):
    Calls Tryz.prog 66 [(.slice (some ⟨g9,0,none⟩) m9 c9)].toArray w0 fun e w=>∃v,e= .returned v/\∃r,v=r/\Slh r n/\Sat w0 w [.own r 2 107 n (Zg pv cnt)]:=by
  have hn:=hR.slh.n0;have hn1:=hR.slh.n1
  refine zenG Tryz.func66 Tryz.ntmps66 fun w hS=> ?_
  refine zsr<|(zP)<|zx5<|(zP)<|(zV Znq)<|zlt<|zcf<|zsk<|ztn<|zsr ?_
  refine zla (xl0 (c:=Zg pv cnt) ZO hS) ?_;rintro v1 w ⟨hS,hv1⟩
  refine(zP)<|zla (xap 0 (r:=n) (f:=Zg pv cnt) ZO Yo hS (hR.below hS.below) (by exact ZU _ _) (h1:=(fun k k0 k1=>Zbv h1 k0 k1))) ?_;rintro v2 w ⟨hS,hv2⟩
  refine(zP)<|zx1<|zf1 ⟨_,rfl,?_⟩
  exact⟨_,rfl,hv2,hS⟩
theorem ZlP(w0:World):
    Calls Tryz.prog 66 [.slice none 0 0].toArray w0 fun e w=>∃v,e= .returned v/\∃r,v=r/\Slh r 0/\Sat w0 w [.own r 2 107 0 (Zg pv cnt)]:=by
  refine zenG Tryz.func66 Tryz.ntmps66 fun w hS=> ?_
  refine zsr<|(zP)<|zx5<|(zP)<|(zV Zl4)<|zlt<|zct<|zsr ?_
  refine(zP)<|zx14<|zf1 ⟨_,rfl,?_⟩
  exact⟨_,rfl,slh_nil,(hS.sub .slnil).addnil 2 107 (Zg pv cnt)⟩
theorem Zne{x:Value}{n:Int}(w0:World)(ho:(Ent.own x 2 107 n (Zg pv cnt)).holds w0)(h1:∀k,0<=k->k<n->(pv k).oneCell'=true)(hn:n<=1000000):Calls Tryz.prog 66 [x].toArray w0 fun e w=>∃v,e= .returned v/\∃r,v=r/\Slh r n/\Sat w0 w [.own r 2 107 n (Zg pv cnt)]:=by
  have qt:=ho.row
  obtain⟨hn0,hn1,⟨rfl,rfl⟩|⟨g,cap,cur,rfl,_⟩⟩:=ho
  · exact ZlP w0
  · exact ZlO w0 qt h1 hn
end Go.Proofs.YtkichmnjjblodaaGreat
namespace Go.Proofs.YtkichmnjjblodaaGreat
open Go Go.RowKit Go.Proofs.Gw
theorem ZiK:Zc Tryz.prog 60=true:=by kernel_rfl
theorem ZmD:Zc Tryz.prog 61=true:=by kernel_rfl
theorem ZmC:Zc Tryz.prog 62=true:=by kernel_rfl
theorem ZmB:Zc Tryz.prog 63=true:=by kernel_rfl
theorem ZiJ:Zc Tryz.prog 64=true:=by kernel_rfl
theorem ZmA:Zc Tryz.prog 66=true:=by kernel_rfl
theorem ZbB:ZN Tryz.prog 115=true:=by kernel_rfl
theorem Zld (N:Nat):∀{F:Gw.Frame} {vL vD:Value} {p:Prob} {b lf:Int} {gl gs:Nat} (w0 w:World) (hS:Sat w0 w [.blk gl [.int .i64 lf],.blk gs [.func (.func 60) #[] #[.pointer (some ⟨gl,0,none⟩),.pointer (some ⟨gs,0,none⟩)]],.sem F]) (hP:∀w1,Below w0.heap.size w0 w1->F.holds w1->PAt w1 vL vD p) (hpo:ZE p b) (hlf:0<=lf/\lf<=20000) (hN:b.toNat<N),
    Calls Tryz.prog 60 [.agg #[vL,vD,.int .i64 p.stock,.int .i64 p.kerf,.int .i64 b],.pointer (some ⟨gl,0,none⟩),.pointer (some ⟨gs,0,none⟩)].toArray w fun e w=>∃v,e= .returned v/\∃t u pv ln pt cnt ok c vV,v= .tuple #[.agg #[.int .i64 (Tr.s t),t.vK,t.vL],vV,B ok]/\WS p b c t u ln pt cnt ok (lf-c)/\(-1<=lf-c/\(ok->0<=lf-c))/\Slh t.vK t.n/\Slh t.vL t.nl/\Slh vV u/\Sat w0 w [.blk gl [.int .i64 (lf-c)],.blk gs [.func (.func 60) #[] #[.pointer (some ⟨gl,0,none⟩),.pointer (some ⟨gs,0,none⟩)]],.sem (t.fr2 54 3),.own vV 2 107 u (Zg pv cnt),.sem (Frame.rows 3 u pv ln pt),.sem F]:=by
  induction N with
  |zero=>intros;omega
  | succ N ih=>
    intro F vL vD p b lf gl gs w0 w hS hP hpo hlf hN
    have h:=hP w hS.below (hS.holds _ (List.mem_of_getElem? (i:=2) rfl))
    have hm:=h.L.slh.n0;have hm1:=h.L.slh.n1;have hd:=h.D.slh.n0;have hd1:=h.D.slh.n1;have hs:=h.is;have hk:=h.ik
    refine zenF Tryz.func60 Tryz.ntmps60 ?_
    refine zsr<|zla (xbx (cs:= [_,_,_,_,_]) hS) ?_;rintro _ w ⟨g1,rfl,hS⟩
    refine zla (xal (cs:= [_,_,_]) We hS) ?_;rintro _ w ⟨g2,rfl,hS⟩
    refine(zP)<|(zP)<|zx5<|(zV (xlb 0 pl_3 hS))<|(zV (Zp (r:=lf-1)))<|zle (xsb 0 pl_3 hS) ?_;clear hS;rintro w hS
    refine zlz<|(zV (xlb 0 pl_3 hS))<|(zP)<|zlt<|Ze ?_ ?_<;>intro hc
    ·
     refine zsr<|(zV (xany (v:= .agg #[.int .i64 0,.slice none 0 0,.slice none 0 0])))<|zle (xsw 4 st_54 hS) ?_;clear hS;rintro w hS
     refine(zP)<|(zP)<|zx14<|XP 4 st_54 hS ⟨_,rfl,?_⟩
     replace hS:=hS.pk [0,1,2]
     replace hS:=hS.tree0 54 3
     replace hS:=(hS.addnil 2 107 (Zg (fun _=>Value.slice none 0 0) (fun _=>0))).addrows 3 (fun _=>Value.slice none 0 0) (fun _=>0) (fun _ _=>0)
     exact⟨.nil,0,_,_,_,_,False,1,(.slice none 0 0),(by rw [ZC not_false];rfl),(ZgP hpo.1 (by omega)),⟨by omega,fun hh=>hh.elim⟩,slh_nil,slh_nil,slh_nil,hS.pk [0,1,3,4,5,2]⟩
    refine YJ<|(zV (xls 3 Yq hS))<|zlc (xc0 ZmD) (Zll (p:=p) (b:=b) w (hP _ hS.below (hS.holds _ (List.mem_of_getElem? (i:=2) rfl))) hpo) ?_;rintro _ w ⟨c8,dw,gN,gQ,jl,jw,bC,rfl,aP,cg,hS'⟩
    replace hS:=(hS.comp hS').n7;clear hS'
    have fu:=fun k (k0:0<=k) (k1:k<dw)=>hS.slhIn 6 rfl k0 k1
    refine zs5 ?_
    refine zlz<|(zP)<|zlt<|Ze ?_ ?_<;>intro hc
    ·
     refine zsr<|(zV (xany (v:= .agg #[.int .i64 0,.slice none 0 0,.slice none 0 0])))<|(zP)<|zle (xsw 4 st_54 hS) ?_;clear hS;rintro w hS
     refine(zP)<|(zP)<|zx14<|XP 4 st_54 hS ⟨_,rfl,?_⟩
     replace hS:=hS.pk [0,1,5,6,2]
     replace hS:=hS.tree0 54 3
     exact⟨.nil,_,_,_,_,_,True,1,c8,(by rw [ZI trivial];rfl),(ZgR hpo.1 aP ‹bC›),⟨by omega,fun _=>by omega⟩,slh_nil,slh_nil,cg,hS.pk [0,1,5,2,3,4]⟩
    refine YJ<|(zV (xls 3 Yq hS))<|zlc (xc0 ZmC) (Zm0 (p:=p) (b:=b) w (hP _ hS.below (hS.holds _ (List.mem_of_getElem? (i:=2) rfl))) hpo) ?_;rintro _ w ⟨xr,dx,eN,bB,rfl,aO,yj,hS'⟩
    replace hS:=(hS.comp hS').n8;clear hS'
    refine zs5 ?_
    refine zlz<|(zP)<|zlt<|Ze ?_ ?_<;>intro hc
    ·
     refine zsr<|(zP)<|zlv (xany (v:= .agg #[.int .i64 0,.slice none 0 0,xr]) (hr:=by obtain⟨_,_,_,_,rfl,_⟩:=yj;kernel_rfl)) ?_
     refine zle (xsw 4 st_54 hS (hd:=(Za rfl (Za rfl (Za yj.one Zi))))) ?_;clear hS;rintro w hS
     refine(zP)<|(zP)<|zx14<|XP 4 st_54 hS ⟨_,rfl,?_⟩
     replace hS:=hS.pk [0,1,2,7]
     replace hS:=(hS.addnil 3 54 (Yl (fun _=> .nil))).addall (fun z9=>((fun _=>Tr.nil) z9).fr2 54 3)
     replace hS:=hS.pk [0,1,2,4,3,5]
     replace hS:=Sat.tree2 (l:= [_,_,_]) hS 0
     replace hS:=(hS.addnil 2 107 (Zg (fun _=>Value.slice none 0 0) (fun _=>0))).addrows 3 (fun _=>Value.slice none 0 0) (fun _=>0) (fun _ _=>0)
     exact⟨(.mk 0 (.slice none 0 0) 0 (fun _=> .nil) xr dx eN),0,_,_,_,_,True,1,(.slice none 0 0),(by rw [ZI trivial];rfl),(Zef hpo.1 aO ‹bB›),⟨by omega,fun _=>by omega⟩,slh_nil,yj,slh_nil,hS.pk [0,1,3,4,5,2]⟩
    refine ZS<|(zV (xls 3 Yq hS))<|zlc (xc0 ZmB) (Zlk (p:=p) (b:=b) w (hP _ hS.below (hS.holds _ (List.mem_of_getElem? (i:=2) rfl)))) ?_;rintro _ w ⟨qy,zw,qY,rfl,zp,zd,hS'⟩
    replace hS:=(hS.comp hS').n10;clear hS'
    have yL:∀k,0<=k->k<2*(Zn p b qy)->Slh (qY k) p.m:=fun k k0 k1=>hS.slhIn 9 rfl k0 k1
    refine zs6 ?_
    refine(zP)<|zx5<|(zP)<|(zP)<|zlt<|Ze ?_ ?_<;>intro hc
    ·
     refine zsr<|(zV (xany (v:= .agg #[.int .i64 0,.slice none 0 0,.slice none 0 0])))<|zle (xsw 4 st_54 hS) ?_;clear hS;rintro w hS
     refine(zP)<|(zP)<|zx14<|XP 4 st_54 hS ⟨_,rfl,?_⟩
     replace hS:=hS.pk [0,1,2]
     replace hS:=hS.tree0 54 3
     replace hS:=(hS.addnil 2 107 (Zg (fun _=>Value.slice none 0 0) (fun _=>0))).addrows 3 (fun _=>Value.slice none 0 0) (fun _=>0) (fun _ _=>0)
     exact⟨.nil,0,_,_,_,_,False,1,(.slice none 0 0),(by rw [ZC not_false];rfl),(Zak hpo aP ‹¬bC› aO ‹¬bB› (zp.2.2 (by omega))),⟨by omega,fun hh=>hh.elim⟩,slh_nil,slh_nil,slh_nil,hS.pk [0,1,3,4,5,2]⟩
    refine ZS<|(zP)<|(zV (xany (v:= .agg #[.int .i64 qy,.slice none 0 0,.slice none 0 0])))<|zla (xal (cs:= [_,_,_]) We hS) ?_;rintro _ w ⟨g3,rfl,hS⟩
    refine zle (xsw 10 st_54 hS) ?_;clear hS;rintro w hS
    refine zx5<|(zP)<|(zV (xln VD zd))<|(zP)<|zx6 ?_
    have hsp:ZF p b qy:=(zp.2.1 (by omega)).1
    have hle:=(zp.2.1 (by omega)).2
    have jL:=zd.n0
    have jZ:=hsp.2.1;have j6:=hpo.2.1;have j5:=hpo.2.2;have jM:=hpo.1.d;have fy:=hpo.1.m2
    replace hS:=hS.addnil 3 54 (Yl (fun _=> .nil))
    replace hS:=hS.addall (fun z9=>((fun _=>Tr.nil) z9).fr2 54 3)
    refine zlp (fun mm M w=>∃(C:Int) (kd:Int->Tr) (wK:Value) (i:Int),mm=((Zn p b qy-i).toNat)/\(0<=i)/\(i<=Zn p b qy)/\(Slh wK i)/\(Upto p b qy i C kd)/\(0<=lf-C)/\M= [(2,.pointer (some ⟨gs,0,none⟩)),(3,.pointer (some ⟨g1,0,none⟩)),(4,.pointer (some ⟨g2,0,none⟩)),(14,.pointer (some ⟨g3,0,none⟩)),(55,zw),(56,.int .i64 (Zn p b qy)),(57,.int .i64 i)]/\Sat w0 w [.blk gl [.int .i64 (lf-C)],.blk gs [.func (.func 60) #[] #[.pointer (some ⟨gl,0,none⟩),.pointer (some ⟨gs,0,none⟩)]],.sem F,.blk g1 [vL,vD,.int .i64 p.stock,.int .i64 p.kerf,.int .i64 b],.blk g2 [.int .i64 0,.slice none 0 0,.slice none 0 0],.blk g3 [.int .i64 qy,wK,.slice none 0 0],.own wK 3 54 i (Yl kd),.sem (Frame.all i (fun z9=>(kd z9).fr2 54 3)),.own zw 5 34 (Zn p b qy) (ZG qY p.stock p.kerf (b-1)),.sem (Frame.rows 3 (2*(Zn p b qy)) qY (fun _=>p.m) (gfn p (MX p qy)))]) ⟨1,(fun _=>Tr.nil),(.slice none 0 0),0,rfl,(by omega),(by omega),?_,?_,?_,rfl,hS.pk [0,1,2,3,4,10,11,12,8,9]⟩ ?_
    ·
     exact slh_nil
    ·
     exact Upto.start hpo.1 _
    ·
     omega
    clear hS w
    rintro mm M w ⟨C,kd,wK,i,rfl,h0,h1,hwK,hup,hlC,rfl,hS⟩
    have hc1:=hup.one
    refine zsr<|(zP)<|zx7<|Ze ?_ ?_<;>intro hc
    ·
     refine zx3<|(zV (xix (kk:=5*i) VD zd))<|(zV (xlw (cs:= [(qY (2*i)),(qY (2*i+1)),.int .i64 p.stock,.int .i64 p.kerf,.int .i64 (b-1)]) Yq (hS.rowN 8 rfl) (Un (q:=5*i) (i:=i) qY p.stock p.kerf (b-1) (by omega))))<|zla (xal (cs:= [_,_,_,_,_]) Za4 hS) ?_;rintro _ w ⟨g4,rfl,hS⟩
     refine zle (xsw 10 Yq hS (hd:=(Za (yL (2*i) (by omega) (by omega)).one (Za (yL (2*i+1) (by omega) (by omega)).one (Za rfl (Za rfl (Za rfl Zi))))))) ?_;clear hS;rintro w hS
     refine zlz<|(zV (xlb 1 ZbB hS))<|(zV (xls 10 Yq hS))<|zlc (xcc (vs:= [_]) ZiK) (ih (p:=(ZW p qy i)) (b:=(b-1)) (lf:=(lf-C)) w0 w (Sat.bundle (l1:= [_,_]) (hS.pk [0,1,2,3,4,5,6,7,8,9,10])) (fun w1 hb hF=>US (vv:=qY) hsp (hP w1 hb (Zc6 hF 0 rfl)) (V4 hF 7 rfl (k:=2*i) (by omega) (by omega)) (V4 hF 7 rfl (k:=2*i+1) (by omega) (by omega)) h0 (by omega)) (Zdt hsp h0 (by omega)) ⟨by omega,by omega⟩ (by omega)) ?_;rintro _ w ⟨tz1,uz1,aj,bk,bj,zL,qV,cz1,bg,rfl,xl,zI,yR,yP,xA,hS⟩
     replace hS:=Sat.unbundle (l1:= [_,_,_,_,_]) (l3:= []) hS
     rw [show lf-C-cz1=lf-(C+cz1) by omega] at hS xl zI
     replace hS:=hS.pk [0,1,3,4,5,6,7,8,9,10,11,12,13,2]
     have fo:=fun j (j0:0<=j) (j1:j<uz1)=>hS.slhIn 3 rfl j0 j1
     have dJ:=Ziw xl;have dK:=xA.n0
     refine zs4 ?_
     refine zla (xal (cs:= [_,_,_]) We hS) ?_;rintro _ w ⟨g5,rfl,hS⟩
     refine zle (xsw 14 st_54 hS (hd:=(Za rfl (Za yR.one (Za yP.one Zi))))) ?_;clear hS;rintro w hS
     refine(zP)<|(zP)<|zx5<|(zP)<|(zP)<|zlt<|Ze ?_ ?_<;>intro hc
     ·
      refine zsr<|(zV (xany (v:= .agg #[.int .i64 0,.slice none 0 0,.slice none 0 0])))<|zle (xsw 6 st_54 hS) ?_;clear hS;rintro w hS
      refine(zP)<|(zP)<|zlt<|zrt<|ztr<|zbr<|ztr<|ztr<|zbr<|ztr<|XP 6 st_54 hS ⟨_,rfl,?_⟩
      replace hS:=hS.pk [0,1,4]
      replace hS:=hS.tree0 54 3
      replace hS:=(hS.addnil 2 107 (Zg (fun _=>Value.slice none 0 0) (fun _=>0))).addrows 3 (fun _=>Value.slice none 0 0) (fun _=>0) (fun _ _=>0)
      exact⟨.nil,0,_,_,_,_,False,C+cz1,(.slice none 0 0),(by rw [ZC not_false];rfl),(ZgN hup hsp h0 (by omega) xl ‹¬qV›),⟨by omega,fun hh=>hh.elim⟩,slh_nil,slh_nil,slh_nil,hS.pk [0,1,3,4,5,2]⟩
     refine YJ<|(zV (xls 12 Yq hS))<|(zV (xls 14 st_54 hS))<|(zP)<|zlc (xc0 ZiJ) (ZfX (p:=(ZW p qy i)) (b:=(b-1)) (u:=uz1) (n9:=tz1.n) (nl9:=tz1.nl) (s9:=tz1.s) w (US (vv:=qY) hsp h (show Row _ _ 1 p.m _ from(hS.rowIn (k:=2*i) 11 rfl (by omega) (by omega))) (show Row _ _ 1 p.m _ from(hS.rowIn (k:=2*i+1) 11 rfl (by omega) (by omega))) (by omega) (by omega)) yR yP xA) ?_;rintro _ w ⟨rfl,hS'⟩
     replace hS:=hS.cmp hS';clear hS'
     refine zlt<|Ze ?_ ?_<;>intro hc
     ·
      refine zsr<|(zV (xfb 0 fd_34_0))<|(zV (xfb 1 fd_32_1))<|(zV (xlb 5 pl_22 hS))<|zlc (xc0 cl_65) (c_clone (n:=p.d) (f:=p.D) w (hP _ hS.below (hS.holds _ (List.mem_of_getElem? (i:=4) rfl))).D (by omega)) ?_;rintro vq1 w ⟨_,rfl,qb,hS'⟩
      replace hS:=(hS.comp hS').n16;clear hS'
      refine(zP)<|zx5<|(zV (xfb 0 fd_34_0))<|(zV (xfb 1 fd_32_1))<|(zV (xlb 12 pl_22 hS))<|(zV (xln Zb (yL (2*i+1) (by omega) (by omega))))<|(zP)<|zx6<|zlp (fun mm M w=>∃(fd:Int->Int) (n:Int),mm=((p.m-n).toNat)/\(0<=n)/\(n<=p.m)/\(∀k,0<=k->k<p.m->fd k=if k<n then YB (MX p qy) i k else p.D k)/\M= [(2,.pointer (some ⟨gs,0,none⟩)),(3,.pointer (some ⟨g1,0,none⟩)),(4,.pointer (some ⟨g2,0,none⟩)),(14,.pointer (some ⟨g3,0,none⟩)),(17,.pointer (some ⟨g5,0,none⟩)),(18,bg),(20,vq1),(55,zw),(56,.int .i64 (Zn p b qy)),(57,.int .i64 i),(81,(qY (2*i+1))),(82,.int .i64 p.m),(83,.int .i64 n)]/\Sat w0 w [.blk gl [.int .i64 (lf-(C+cz1))],.blk gs [.func (.func 60) #[] #[.pointer (some ⟨gl,0,none⟩),.pointer (some ⟨gs,0,none⟩)]],.own bg 2 107 uz1 (Zg aj zL),.sem (Frame.rows 3 uz1 aj bk bj),.sem F,.blk g1 [vL,vD,.int .i64 p.stock,.int .i64 p.kerf,.int .i64 b],.blk g2 [.int .i64 0,.slice none 0 0,.slice none 0 0],.blk g3 [.int .i64 qy,wK,.slice none 0 0],.own wK 3 54 i (Yl kd),.sem (Frame.all i (fun z9=>(kd z9).fr2 54 3)),.own zw 5 34 (Zn p b qy) (ZG qY p.stock p.kerf (b-1)),.sem (Frame.rows 3 (2*(Zn p b qy)) qY (fun _=>p.m) (gfn p (MX p qy))),.blk g4 [(qY (2*i)),(qY (2*i+1)),.int .i64 p.stock,.int .i64 p.kerf,.int .i64 (b-1)],.sem (tz1.fr2 54 3),.blk g5 [.int .i64 tz1.s,tz1.vK,tz1.vL],.own vq1 1 3 p.d (ints fd)]) ⟨p.D,0,rfl,(by omega),(by omega),?_,rfl,hS⟩ ?_
      ·
       intro k k0 k1;rw [if_neg (by omega)]
      clear hS w
      rintro mm M w ⟨fd,n,rfl,n0,n1,hfd,rfl,hS⟩
      refine zsr<|(zP)<|zx7<|Ze ?_ ?_<;>intro hc
      ·
       refine zx3<|(zP)<|(zV (xix (kk:=n) Zb (yL (2*i+1) (by omega) (by omega))))<|(zV (xlr (u:= .int .i64 ((gfn p (MX p qy)) (2*i+1) n)) pl_3 (show Row _ _ 1 p.m _ from(hS.rowIn (k:=2*i+1) 11 rfl (by omega) (by omega)))))<|(zP)<|(zP)<|zlt<|zrg<|(zP)<|(zP)<|(zV (xix (kk:=n) Zb qb))<|zlv (xlr (u:= .int .i64 (fd n)) pl_3 (hS.rowN 15 rfl)) ?_
       have hfi:=hfd n n0 (by omega)
       rw [if_neg (by omega)] at hfi
       have hgf:gfn p (MX p qy) (2*i+1) n=p.D n-YB (MX p qy) i n:=congrFun (Zjh p _ (i:=i) rfl) n
       have hr9:=(VM hsp h0 (show i<Zn p b qy by omega)).1.rng n n0 (by omega)
       have he9:=hpo.1.all n n0 (by omega);unfold Prob.each at he9
       refine(zP)<|(zV (Zp (r:=fd n-((gfn p (MX p qy)) (2*i+1) n))))<|(zV (xix (kk:=n) Zb qb))<|zle (xso 15 pl_3 hS (Zq _ _ _)) ?_;clear hS;rintro w hS
       refine zx10<|(zV (Zh (r:=n+1)))<|(zP)<|zln<|zlq ⟨(upd fd n (fd n-((gfn p (MX p qy)) (2*i+1) n))),n+1,rfl,(by omega),(by omega),?_,rfl,hS⟩
       ·
        intro k k0 k1;unfold Gw.upd;by_cases e:k=n
        · rw [if_pos e,if_pos (by omega),e];omega
        · rw [if_neg e,hfd k k0 k1];by_cases e2:k<n
          · rw [if_pos e2,if_pos (by omega)]
          · rw [if_neg e2,if_neg (by omega)]
      refine zx8<|(zV (xany (v:= .agg #[.int .i64 0,.slice none 0 0,.slice none 0 0])))<|(zP)<|zlc (xc0 ZmA) (Zne w (hS.holds _ (List.mem_of_getElem? (i:=2) rfl)) (fun k k0 k1=>(hS.slhIn 3 rfl k0 k1).one) (by omega)) ?_;rintro gK w ⟨_,rfl,fi,hS'⟩
      replace hS:=(hS.comp hS').n17;clear hS'
      refine(zP)<|zlv (xany (v:= .agg #[vq1,.int .i64 1]) (hr:=by obtain⟨_,_,_,_,rfl,_⟩:=qb;kernel_rfl)) ?_
      refine zla (xli (n:=1) (len:=1) (pv:= [(0,.agg #[vq1,.int .i64 1])]) (cs:= [vq1,.int .i64 1]) (c:=Zg (fun _=>vq1) (fun _=>1)) ZO Yo hS (hf:=by obtain⟨_,_,_,_,rfl,_⟩:=qb;kernel_rfl)) ?_;rintro v1 w ⟨hS,hv1⟩
      refine zla (xap 16 (r:=uz1+1) ZO Yo hS (hS.rowN 17 rfl) (YQ _ _ _ _ _) (h1:=fun k _ _=>YP (fun _=>qb.one) k)) ?_;rintro v2 w ⟨hS,hv2⟩
      replace hS:=Sat.merge (l1:= [_,_,_]) (l2:= [_,_,_,_,_,_,_,_,_,_,_]) (l3:= [_,_]) hS (by omega)
      have qW:=fun k (k0:0<=k) (k1:k<uz1+1)=>hS.slhIn 3 rfl k0 k1
      refine zle (xsw 6 st_54 hS) ?_;clear hS;rintro w hS
      refine(zP)<|(zP)<|zlt<|zrt<|ztr<|zbr<|ztr<|ztr<|zbr<|ztr<|XP 6 st_54 hS ⟨_,rfl,?_⟩
      have hq9:=zI.2 (by first|assumption|exact Classical.not_not.1 ‹_›)
      replace hS:=hS.pk [0,1,15,3,4]
      replace hS:=hS.tree0 54 3
      exact⟨.nil,_,_,_,_,_,True,C+cz1,v2,(by rw [ZI trivial];rfl),(Zee hup hsp h0 (by omega) xl (by first|assumption|exact Classical.not_not.1 ‹_›) (by assumption) xA.n0 hpo.1.d (fun j j0 j1=>by rw [hfd j j0 j1,if_pos (by omega)])).1,⟨by omega,fun _=>by omega⟩,slh_nil,slh_nil,hv2,hS.pk [0,1,5,2,3,4]⟩
     refine zsk<|ztn<|zrg<|(zV (xfb 1 fd_54_1))<|(zV (xlb 7 Xs hS))<|(zV (xls 14 st_54 hS))<|zla (xli (n:=1) (len:=1) (pv:= [(0,.agg #[.int .i64 tz1.s,tz1.vK,tz1.vL])]) (cs:= [.int .i64 tz1.s,tz1.vK,tz1.vL]) (c:=XF (fun _=>tz1.s) (fun _=>tz1.vK) (fun _=>tz1.vL)) YI We hS (hf:=by have hz:=yR;revert hz;generalize tz1.vK=z;rintro⟨_,_,_,_,rfl,_⟩;show _=_;have hz:=yP;revert hz;generalize tz1.vL=z;rintro⟨_,_,_,_,rfl,_⟩;show _=_;kernel_rfl)) ?_;rintro v1 w ⟨hS,hv1⟩
     refine zla (xap 8 (r:=i+1) YI We hS (hS.rowN 15 rfl) (TG _ _ _) (h1:=fun k _ _=>U6 (fun _=>yR.one) (fun _=>yP.one) k)) ?_;rintro v2 w ⟨hS,hv2⟩
     replace hS:=Sat.allsnoc (l1:= [_,_,_,_,_,_,_,_,_]) (l2:= [_,_,_]) (l3:= [_,_]) hS (by omega) (H:=fun z9=>(gsn kd i tz1 z9).fr2 54 3) (fun k k0 k1=>by(try dsimp only);rw [Zv k1]) (by(try dsimp only);rw [Ym])
     refine(zV (xfb 1 fd_54_1))<|zle (xsb 7 Xs hS (hv:=hv2.one)) ?_;clear hS;rintro w hS
     refine zx10<|(zV (Zh (r:=i+1)))<|(zP)<|zln<|zlq ⟨C+cz1,(gsn kd i tz1),v2,i+1,rfl,(by omega),(by omega),?_,?_,?_,rfl,hS.pk [0,1,4,5,6,7,8,9,10,11]⟩
     ·
      exact hv2
     ·
      exact hup.next hsp h0 (by omega) xl (by first|assumption|exact Classical.not_not.1 ‹_›) (by assumption)
     ·
      have h9:=zI.2 (by first|assumption|exact Classical.not_not.1 ‹_›);omega
    refine zx8<|(zV (xls 5 st_54 hS))<|zle (xsw 4 st_54 hS (hd:=(Za rfl (Za hwK.one (Za rfl Zi))))) ?_;clear hS;rintro w hS
    refine(zP)<|(zP)<|zx1<|XP 4 st_54 hS ⟨_,rfl,?_⟩
    obtain rfl:i=Zn p b qy:=by omega
    replace hS:=hS.pk [0,1,2,6,7]
    replace hS:=hS.addnil 1 3 (ints (fun _=>0))
    replace hS:=hS.pk [0,1,2,3,5,4]
    replace hS:=Sat.tree2 (l:= [_,_,_]) hS qy
    replace hS:=(hS.addnil 2 107 (Zg (fun _=>Value.slice none 0 0) (fun _=>0))).addrows 3 (fun _=>Value.slice none 0 0) (fun _=>0) (fun _ _=>0)
    exact⟨(.mk qy wK (Zn p b qy) kd (.slice none 0 0) 0 (fun _=>0)),0,_,_,_,_,True,C,(.slice none 0 0),(by rw [ZI trivial];rfl),((Zed hup hsp hle).resolve_right (fun hh=>hh fun k=>⟨by show _<=(0:Int);omega,by show(0:Int)<=_;omega⟩)),⟨by omega,fun _=>by omega⟩,hwK,slh_nil,slh_nil,hS.pk [0,1,3,4,5,2]⟩
end Go.Proofs.YtkichmnjjblodaaGreat
namespace Go.Proofs.YtkichmnjjblodaaGreat
open Go Go.RowKit Go.Proofs.Gw
theorem ZjK:ZY Tryz.prog 115=some (.nilFunc,1,8):=by kernel_rfl
theorem Zbb{vL vD:Value}{p:Prob}{b:Int}(w0:World)(h:PAt w0 vL vD p):
    Calls Tryz.prog 36 [.agg #[vL,vD,.int .i64 p.stock,.int .i64 p.kerf,.int .i64 b]].toArray w0 fun e w=>∃v,e= .returned v/\∃t u pv ln pt cnt e vV,v= .tuple #[.agg #[.int .i64 (Tr.s t),t.vK,t.vL],vV,.int .i64 e]/\RefR p b t u ln pt cnt e/\Ux t/\Slh t.vK t.n/\Slh t.vL t.nl/\Slh vV u/\Sat w0 w [.sem (t.fr2 54 3),.own vV 2 107 u (Zg pv cnt),.sem (Frame.rows 3 u pv ln pt)]:=by
  have hm:=h.L.slh.n0;have hm1:=h.L.slh.n1;have hd:=h.D.slh.n0;have hd1:=h.D.slh.n1;have hs:=h.is;have hk:=h.ik
  refine zenG Tryz.func36 Tryz.ntmps36 fun w hS=> ?_
  refine zsr<|zla (xbx (cs:= [_,_,_,_,_]) hS) ?_;rintro _ w ⟨g1,rfl,hS⟩
  refine zla (xal (cs:= [_,_,_]) We hS) ?_;rintro _ w ⟨g2,rfl,hS⟩
  refine(zP)<|(zP)<|zx5<|(zV (xls 0 Yq hS))<|zlc (xc0 ZcT) (KN (p:=p) (b:=b) w (h.below hS.below)) ?_;rintro _ w ⟨rfl,hS'⟩
  replace hS:=hS.cmp hS';clear hS'
  refine(zP)<|zlt<|Ze ?_ ?_<;>intro hc
  ·
   refine zsr<|(zV (xany (v:= .agg #[.int .i64 0,.slice none 0 0,.slice none 0 0])))<|zle (xsw 1 st_54 hS) ?_;clear hS;rintro w hS
   refine(zP)<|(zP)<|zx14<|XP 1 st_54 hS ⟨_,rfl,?_⟩
   replace hS:=hS.nl
   replace hS:=hS.tree0 54 3
   replace hS:=(hS.addnil 2 107 (Zg (fun _=>Value.slice none 0 0) (fun _=>0))).addrows 3 (fun _=>Value.slice none 0 0) (fun _=>0) (fun _ _=>0)
   exact⟨.nil,0,_,_,_,_,1,(.slice none 0 0),rfl,.inl ⟨‹¬ZE p b›,Yn,rfl,rfl⟩,trivial,slh_nil,slh_nil,slh_nil,hS⟩
  refine ZS<|zla (xal (cs:= [_]) Zt hS) ?_;rintro _ w ⟨g3,rfl,hS⟩
  have hpo:ZE p b:=(by first|assumption|exact Classical.not_not.1 ‹_›);have hb1:=hpo.2.1;have hb2:=hpo.2.2
  refine zle (xsb 2 pl_3 hS) ?_;clear hS;rintro w hS
  refine zlz<|zla (xal (cs:= [_]) ZjK hS) ?_;rintro _ w ⟨g4,rfl,hS⟩
  refine zlz<|(zV xmf)<|zle (xsb 3 ZbB hS) ?_;clear hS;rintro w hS
  refine zlz<|(zV (xlb 3 ZbB hS))<|(zV (xls 0 Yq hS))<|zlc (xcc (vs:= [_]) ZiK) (Zld _ (F:=Frame.bun [.blk g1 [vL,vD,.int .i64 p.stock,.int .i64 p.kerf,.int .i64 b],.blk g2 [.int .i64 0,.slice none 0 0,.slice none 0 0]]) (p:=p) (b:=b) (lf:=20000) w0 w (Sat.bundle (l1:= [_,_]) (hS.pk [2,3,0,1])) (fun w1 hb _=>h.below hb) hpo ⟨by omega,by omega⟩ (Nat.lt_succ_self _)) ?_;rintro _ w ⟨tz1,uz1,aj,bk,bj,zL,qV,cz1,bg,rfl,xl,zI,yR,yP,xA,hS⟩
  replace hS:=Sat.unbundle (l1:= [_,_,_,_,_]) (l3:= []) hS
  replace hS:=hS.pk [0,1,3,4,5,6,2]
  have fo:=fun j (j0:0<=j) (j1:j<uz1)=>hS.slhIn 3 rfl j0 j1
  have dJ:=Ziw xl;have dK:=xA.n0
  refine zs4 ?_
  refine zla (xal (cs:= [_,_,_]) We hS) ?_;rintro _ w ⟨g5,rfl,hS⟩
  refine zle (xsw 7 st_54 hS (hd:=(Za rfl (Za yR.one (Za yP.one Zi))))) ?_;clear hS;rintro w hS
  refine(zP)<|(zP)<|zlt<|zsq<|zbk<|zsr<|(zP)<|(zP)<|(zP)<|zlt<|Ze ?_ ?_<;>intro hc
  ·
   refine zsr<|(zV (xany (v:= .agg #[.int .i64 0,.slice none 0 0,.slice none 0 0])))<|zle (xsw 5 st_54 hS) ?_;clear hS;rintro w hS
   refine(zP)<|(zP)<|XC<|XP 5 st_54 hS ⟨_,rfl,?_⟩
   replace hS:=hS.nl
   replace hS:=hS.tree0 54 3
   replace hS:=(hS.addnil 2 107 (Zg (fun _=>Value.slice none 0 0) (fun _=>0))).addrows 3 (fun _=>Value.slice none 0 0) (fun _=>0) (fun _ _=>0)
   exact⟨.nil,0,_,_,_,_,9,(.slice none 0 0),rfl,.inr (.inl ⟨hpo,Zeh hpo.1 xl ‹¬qV›,Yn,rfl,rfl⟩),trivial,slh_nil,slh_nil,slh_nil,hS⟩
  refine zsr<|(zV (xls 4 Yq hS))<|(zV (xls 7 st_54 hS))<|(zP)<|zlc (xc0 ZiJ) (ZfX (p:=p) (b:=b) (u:=uz1) (n9:=tz1.n) (nl9:=tz1.nl) (s9:=tz1.s) w (h.below hS.below) yR yP xA) ?_;rintro _ w ⟨rfl,hS'⟩
  replace hS:=hS.cmp hS';clear hS'
  refine(zP)<|zlt<|Ze ?_ ?_<;>intro hc
  ·
   refine zsr<|(zV (xany (v:= .agg #[.int .i64 0,.slice none 0 0,.slice none 0 0])))<|zlv xmv ?_
   have hpm:=ZgQ xl (by first|assumption|exact Classical.not_not.1 ‹_›) (by first|assumption|exact Classical.not_not.1 ‹_›)
   refine zlc (xc0 ZcS) (KP (u:=uz1) (pv:=aj) (ln:=bk) (pt:=bj) (cnt:=zL) w (⟨(hS.rowN 2 rfl),fun k k0 k1=>hS.rowIn 3 rfl k0 k1,fun k k0 k1=>hS.roomIn 3 rfl k0 k1⟩:VAt _ bg uz1 aj bk bj zL) (by omega) (fun k k0 k1=>by have h8:=(hpm.1.1.2.2 k k0 k1).2.2.eq;have:=hpm.1.1.1.m2;omega) (fun k k0 k1=>by have h8:=hpm.1.1.2.2 k k0 k1;exact⟨h8.1,h8.2.1⟩)) ?_;rintro xL w ⟨_,qH,xx,x8,yd,xI,rfl,xo,xt,yD,x7,xN,hS'⟩
   replace hS:=(hS.comp hS').n10;clear hS'
   have yq:=fun k (k0:0<=k) (k1:k<qH)=>hS.slhIn 9 rfl k0 k1
   refine zle (xsw 5 st_54 hS) ?_;clear hS;rintro w hS
   refine(zP)<|(zP)<|XC<|XP 5 st_54 hS ⟨_,rfl,?_⟩
   have hnp:=Zew hpm (by omega) xo (by omega) xt yD
   replace hS:=hS.pk [8,9]
   replace hS:=hS.tree0 54 3
   exact⟨.nil,_,_,_,_,_,0,_,rfl,.inr (.inr (.inl ⟨hpo,rfl,Yn,hnp⟩)),trivial,slh_nil,slh_nil,xN,hS.pk [2,0,1]⟩
  refine zsr<|zlv (xls 7 st_54 hS) ?_
  have hpf:=ZgO xl (by first|assumption|exact Classical.not_not.1 ‹_›) (by assumption)
  refine zlc (xc0 ZiI) (RJ (t:=tz1) w (Tr.fr2_at tz1 hpf.2.2.2.1.2 (hS.holds (.sem (Tr.fr2 54 3 tz1)) (by repeat first|exact List.mem_cons_self .. |apply List.mem_cons_of_mem))).1 (Tr.fr2_at tz1 hpf.2.2.2.1.2 (hS.holds (.sem (Tr.fr2 54 3 tz1)) (by repeat first|exact List.mem_cons_self .. |apply List.mem_cons_of_mem))).2) ?_;rintro _ w ⟨rfl,hS'⟩
  replace hS:=hS.cmp hS';clear hS'
  refine(zP)<|(zP)<|zlt<|Ze ?_ ?_<;>intro hc
  ·
   refine zsr<|(zV (xany (v:= .agg #[.int .i64 0,.slice none 0 0,.slice none 0 0])))<|zle (xsw 5 st_54 hS) ?_;clear hS;rintro w hS
   refine(zP)<|(zP)<|XC<|XP 5 st_54 hS ⟨_,rfl,?_⟩
   replace hS:=hS.nl
   replace hS:=hS.tree0 54 3
   replace hS:=(hS.addnil 2 107 (Zg (fun _=>Value.slice none 0 0) (fun _=>0))).addrows 3 (fun _=>Value.slice none 0 0) (fun _=>0) (fun _ _=>0)
   exact⟨.nil,0,_,_,_,_,9,(.slice none 0 0),rfl,.inr (.inl ⟨hpo,Zeg hpo.1 xl hpf.2.2.2 ‹¬Yd tz1›,Yn,rfl,rfl⟩),trivial,slh_nil,slh_nil,slh_nil,hS⟩
  refine zsk<|zbn<|ztn<|zsr<|(zV (xls 7 st_54 hS))<|zle (xsw 5 st_54 hS (hd:=(Za rfl (Za yR.one (Za yP.one Zi))))) ?_;clear hS;rintro w hS
  refine(zP)<|(zP)<|zx1<|XP 5 st_54 hS ⟨_,rfl,?_⟩
  replace hS:=hS.pk [6]
  replace hS:=(hS.addnil 2 107 (Zg (fun _=>Value.slice none 0 0) (fun _=>0))).addrows 3 (fun _=>Value.slice none 0 0) (fun _=>0) (fun _ _=>0)
  exact⟨tz1,0,_,_,_,_,0,(.slice none 0 0),rfl,.inr (.inr (.inr ⟨hpo,rfl,rfl,Classical.not_not.1 ‹¬¬Yd tz1›,hpf.2.2.2.1.2,hpf.2.1,hpf.2.2.1⟩)),hpf.2.2.2.1.2,yR,yP,slh_nil,hS⟩
end Go.Proofs.YtkichmnjjblodaaGreat
namespace Go.Proofs.YtkichmnjjblodaaGreat
open Go Go.RowKit Go.Proofs.Gw
theorem ZiS:Zc Tryz.prog 36=true:=by kernel_rfl
theorem ZiA:ZY Tryz.prog 63=some (.agg #[.int .i64 0,.slice none 0 0,.int .i64 0,.slice none 0 0,.slice none 0 0],5,88):=by kernel_rfl
theorem XS:Zz Tryz.prog 63=some 5:=by kernel_rfl
theorem ZfV{vL vD:Value}{p:Prob}(w0:World)(h:PAt w0 vL vD p):
    Calls Tryz.prog 30 [.agg #[vL,vD,.int .i64 p.stock,.int .i64 p.kerf]].toArray w0 fun e w=>∃v,e= .returned v/\∃nb t u pv ln pt cnt e vV,v= .tuple #[.agg #[.int .i64 nb,vV,.int .i64 (Tr.s t),t.vK,t.vL],.int .i64 e]/\SolR6 p nb t u ln pt cnt e/\Ux t/\Slh t.vK t.n/\Slh t.vL t.nl/\Slh vV u/\Sat w0 w [.sem (t.fr2 54 3),.own vV 2 107 u (Zg pv cnt),.sem (Frame.rows 3 u pv ln pt)]:=by
  have hm:=h.L.slh.n0;have hm1:=h.L.slh.n1;have hd:=h.D.slh.n0;have hd1:=h.D.slh.n1;have hs:=h.is;have hk:=h.ik
  refine zenG Tryz.func30 Tryz.ntmps30 fun w hS=> ?_
  refine zsr<|zla (xbx (cs:= [_,_,_,_]) hS) ?_;rintro _ w ⟨g1,rfl,hS⟩
  refine zla (xal (cs:= [_,_,_,_,_]) ZiA hS) ?_;rintro _ w ⟨g2,rfl,hS⟩
  refine(zP)<|zx5<|(zV (xls 0 st_32 hS))<|zlc (xc0 XK) (Yc (p:=p) w (h.below hS.below)) ?_;rintro _ w ⟨rfl,hS'⟩
  replace hS:=hS.cmp hS';clear hS'
  refine(zP)<|zlt<|Ze ?_ ?_<;>intro hc
  ·
   refine zsr<|(zV (xany (v:= .agg #[.int .i64 0,.slice none 0 0,.int .i64 0,.slice none 0 0,.slice none 0 0])))<|zle (xsw 1 XS hS) ?_;clear hS;rintro w hS
   refine(zP)<|zx14<|Yp 1 XS hS ⟨_,rfl,?_⟩
   replace hS:=hS.nl
   replace hS:=hS.tree0 54 3
   replace hS:=(hS.addnil 2 107 (Zg (fun _=>Value.slice none 0 0) (fun _=>0))).addrows 3 (fun _=>Value.slice none 0 0) (fun _=>0) (fun _ _=>0)
   exact⟨0,.nil,0,_,_,_,_,1,(.slice none 0 0),rfl,.inl ⟨‹¬p.Ok›,rfl,rfl,Yn,rfl⟩,trivial,slh_nil,slh_nil,slh_nil,hS⟩
  refine ZS<|zlv (xls 0 st_32 hS) ?_
  have hok:p.Ok:=(by first|assumption|exact Classical.not_not.1 ‹_›)
  refine zlc (xc0 ZiL) (Zgl (p:=p) w (h.below hS.below)) ?_;rintro _ w ⟨z7,yC,zA,zC,zK,zM,eR,rfl,qP,bR,eg,xS,hS'⟩
  replace hS:=(hS.comp hS').n4;clear hS'
  have cA:=fun k (k0:0<=k) (k1:k<yC)=>hS.slhIn 3 rfl k0 k1
  refine zs5 ?_
  refine zx5<|(zP)<|(zP)<|zlt<|Ze ?_ ?_<;>intro hc
  ·
   refine zsr<|(zV (xany (v:= .agg #[.int .i64 0,.slice none 0 0,.int .i64 0,.slice none 0 0,.slice none 0 0])))<|zle (xsw 1 XS hS) ?_;clear hS;rintro w hS
   refine(zP)<|zx14<|Yp 1 XS hS ⟨_,rfl,?_⟩
   replace hS:=hS.nl
   replace hS:=hS.tree0 54 3
   replace hS:=(hS.addnil 2 107 (Zg (fun _=>Value.slice none 0 0) (fun _=>0))).addrows 3 (fun _=>Value.slice none 0 0) (fun _=>0) (fun _ _=>0)
   exact⟨0,.nil,0,_,_,_,_,9,(.slice none 0 0),rfl,.inr (.inl ⟨hok,by have h8:=(qP.tot hok).2;omega,rfl,rfl,Yn,rfl⟩),trivial,slh_nil,slh_nil,slh_nil,hS⟩
  refine zsk<|ztn<|zbk ?_
  have hmt:=qP.meets hok (by omega) xS.n0
  have aA:=(qP.tot hok).1 (by omega)
  refine zlp (fun mm M w=>∃(nC:Int) (wv:Int->Value) (lC:Int->Int) (gC:Int->Int->Int) (cC:Int->Int) (wC:Value),mm=((brs nC cC).toNat)/\(PMt p nC lC gC cC)/\(brs nC cC<=1000)/\(Slh wC nC)/\M= [(1,.pointer (some ⟨g1,0,none⟩)),(2,.pointer (some ⟨g2,0,none⟩)),(4,wC)]/\Sat w0 w [.blk g1 [vL,vD,.int .i64 p.stock,.int .i64 p.kerf],.blk g2 [.int .i64 0,.slice none 0 0,.int .i64 0,.slice none 0 0,.slice none 0 0],.own wC 2 107 nC (Zg wv cC),.sem (Frame.rows 3 nC wv lC gC)]) ⟨yC,zA,zC,zK,zM,z7,rfl,?_,?_,?_,rfl,hS⟩ ?_
  ·
   exact hmt.1
  ·
   exact Int.le_trans hmt.2 aA
  ·
   exact xS
  clear hS w
  rintro mm M w ⟨nC,wv,lC,gC,cC,wC,rfl,hpm,hbm,hwC,rfl,hS⟩
  have hrC:=fun k (k0:0<=k) (k1:k<nC)=>hS.slhIn 3 rfl k0 k1
  have hu6:=hpm.1.2.1
  refine zbk<|zsr<|(zP)<|zlc (xc0 Za6) (V2 (u:=nC) (pv:=wv) (ln:=lC) (pt:=gC) (cnt:=cC) w (⟨(hS.rowN 2 rfl),fun k k0 k1=>hS.rowIn 3 rfl k0 k1,fun k k0 k1=>hS.roomIn 3 rfl k0 k1⟩:VAt _ wC nC wv lC gC cC) (by omega) (fun k k0 k1=>by have h8:=hpm.1.2.2 k k0 k1;omega)) ?_;rintro _ w ⟨rfl,hS'⟩
  replace hS:=hS.cmp hS';clear hS'
  have hbb:=ZnB hpm;unfold brs at hbb hbm
  refine(zP)<|zx5<|(zP)<|(zP)<|zlt<|Ze ?_ ?_<;>intro hc
  ·
   refine zsr<|(zP)<|zlv (xany (v:= .agg #[.int .i64 0,wC,.int .i64 0,.slice none 0 0,.slice none 0 0]) (hr:=by obtain⟨_,_,_,_,rfl,_⟩:=hwC;kernel_rfl)) ?_
   refine zle (xsw 1 XS hS (hd:=(Za rfl (Za hwC.one (Za rfl (Za rfl (Za rfl Zi))))))) ?_;clear hS;rintro w hS
   refine(zP)<|zlt<|zrt<|ztr<|zbr<|ztr<|zbr<|Yp 1 XS hS ⟨_,rfl,?_⟩
   replace hS:=hS.pk [2,3]
   replace hS:=hS.tree0 54 3
   exact⟨0,.nil,_,_,_,_,_,0,_,rfl,.inr (.inr ⟨hok,rfl,hpm,by unfold brs;omega,by omega,trivial,.inl ⟨rfl,Yn⟩⟩),trivial,slh_nil,slh_nil,hwC,hS.pk [2,0,1]⟩
  refine ZS<|zlv (xls 0 st_32 hS) ?_
  have xO:ZE p ((psum (fun _=>1) cC (nC).toNat)-1):=⟨hok,by omega,by omega⟩
  refine(zP)<|(zV (Zp (r:=(psum (fun _=>1) cC (nC).toNat)-1)))<|zlv (xany (v:= .agg #[vL,vD,.int .i64 p.stock,.int .i64 p.kerf,.int .i64 ((psum (fun _=>1) cC (nC).toNat)-1)]) (hr:=by obtain⟨_,_,_,_,rfl,_⟩:=h.L.slh;obtain⟨_,_,_,_,rfl,_⟩:=h.D.slh;kernel_rfl)) ?_
  refine zlc (xc0 ZiS) (Zbb (p:=p) (b:=((psum (fun _=>1) cC (nC).toNat)-1)) w (h.below hS.below)) ?_;rintro _ w ⟨qD,yh,xY,x3,xZ,xf,eP,ae,rfl,qK,xD,xp,xu,zE,hS'⟩
  replace hS:=(hS.comp hS').n7;clear hS'
  have dT:=fun j (j0:0<=j) (j1:j<yh)=>hS.slhIn 6 rfl j0 j1
  refine zs4 ?_
  refine zla (xal (cs:= [_,_,_]) We hS) ?_;rintro _ w ⟨g3,rfl,hS⟩
  refine zle (xsw 7 st_54 hS (hd:=(Za rfl (Za xp.one (Za xu.one Zi))))) ?_;clear hS;rintro w hS
  refine(zP)<|(zP)<|zx5<|(zP)<|(zP)<|zlt<|Ze ?_ ?_<;>intro hc
  ·
   refine zsr<|(zV (xany (v:= .agg #[.int .i64 0,.slice none 0 0,.int .i64 0,.slice none 0 0,.slice none 0 0])))<|zle (xsw 1 XS hS) ?_;clear hS;rintro w hS
   refine(zP)<|zlt<|zrt<|ztr<|zbr<|ztr<|zbr<|Yp 1 XS hS ⟨_,rfl,?_⟩
   replace hS:=hS.nl
   replace hS:=hS.tree0 54 3
   replace hS:=(hS.addnil 2 107 (Zg (fun _=>Value.slice none 0 0) (fun _=>0))).addrows 3 (fun _=>Value.slice none 0 0) (fun _=>0) (fun _ _=>0)
   exact⟨0,.nil,0,_,_,_,_,9,(.slice none 0 0),rfl,.inr (.inl ⟨hok,qK.err xO (by omega),rfl,rfl,Yn,rfl⟩),trivial,slh_nil,slh_nil,slh_nil,hS⟩
  refine YJ<|(zV (xfb 1 fd_54_1))<|(zV (xlb 7 Xs hS))<|(zV (xln YI xp))<|(zP)<|(zP)<|zlb 44 ?_ ?_<;>intro hc
  ·
   iterate 4 refine zlo ?_
   refine(zP)<|zlt<|zct<|zsr ?_
   refine(zP)<|(zP)<|(zV (xls 7 st_54 hS))<|zlv (xany (v:= .agg #[.int .i64 (psum (fun _=>1) cC (nC).toNat),wC,.int .i64 qD.s,qD.vK,qD.vL]) (hr:=by obtain⟨_,_,_,_,rfl,_⟩:=hwC;have hz:=xp;revert hz;generalize qD.vK=z;rintro⟨_,_,_,_,rfl,_⟩;show _=_;have hz:=xu;revert hz;generalize qD.vL=z;rintro⟨_,_,_,_,rfl,_⟩;show _=_;kernel_rfl)) ?_
   refine zle (xsw 1 XS hS (hd:=(Za rfl (Za hwC.one (Za rfl (Za xp.one (Za xu.one Zi))))))) ?_;clear hS;rintro w hS
   refine(zP)<|zlt<|zrt<|ztr<|zbr<|ztr<|zbr<|Yp 1 XS hS ⟨_,rfl,?_⟩
   have htr:=qK.tree (by omega) (by first|exact .inl (by omega)|exact .inr (by omega))
   replace hS:=hS.pk [4,2,3]
   exact⟨_,qD,_,_,_,_,_,0,_,rfl,.inr (.inr ⟨hok,rfl,hpm,rfl,by omega,htr.2.1,.inr ⟨by omega,htr.1,htr.2.2⟩⟩),htr.2.1,xp,xu,hwC,hS⟩
  refine(zV (xfb 2 fd_54_2))<|(zV (xlb 7 pl_22 hS))<|(zV (xln Zb xu))<|(zP)<|(zP)<|zlt<|Ze ?_ ?_<;>intro hc
  ·
   refine zsr<|(zP)<|(zP)<|(zV (xls 7 st_54 hS))<|zlv (xany (v:= .agg #[.int .i64 (psum (fun _=>1) cC (nC).toNat),wC,.int .i64 qD.s,qD.vK,qD.vL]) (hr:=by obtain⟨_,_,_,_,rfl,_⟩:=hwC;have hz:=xp;revert hz;generalize qD.vK=z;rintro⟨_,_,_,_,rfl,_⟩;show _=_;have hz:=xu;revert hz;generalize qD.vL=z;rintro⟨_,_,_,_,rfl,_⟩;show _=_;kernel_rfl)) ?_
   refine zle (xsw 1 XS hS (hd:=(Za rfl (Za hwC.one (Za rfl (Za xp.one (Za xu.one Zi))))))) ?_;clear hS;rintro w hS
   refine(zP)<|zlt<|zrt<|ztr<|zbr<|ztr<|zbr<|Yp 1 XS hS ⟨_,rfl,?_⟩
   have htr:=qK.tree (by omega) (by first|exact .inl (by omega)|exact .inr (by omega))
   replace hS:=hS.pk [4,2,3]
   exact⟨_,qD,_,_,_,_,_,0,_,rfl,.inr (.inr ⟨hok,rfl,hpm,rfl,by omega,htr.2.1,.inr ⟨by omega,htr.1,htr.2.2⟩⟩),htr.2.1,xp,xu,hwC,hS⟩
  refine zsk<|ztn<|zrg<|(zP)<|(zP)<|zln<|zbn<|zlq ⟨yh,xY,x3,xZ,xf,ae,rfl,?_,?_,?_,rfl,hS.pk [0,1,5,6]⟩ (hlt:=(by have h8:=(qK.plan (by omega) (by omega) (by omega)).2;unfold brs at h8⊢;omega))
  ·
   exact(qK.plan (by omega) (by omega) (by omega)).1
  ·
   have h8:=(qK.plan (by omega) (by omega) (by omega)).2;unfold brs at h8⊢;omega
  ·
   exact zE
theorem SolR6.u{p:Prob}{nb u e:Int}{t:Tr}{ln cnt:Int->Int}{pt:Int->Int->Int}(h:SolR6 p nb t u ln pt cnt e):u<=1000:=by
  rcases h with⟨_,_,_,_,h⟩|⟨_,_,_,_,_,h⟩|⟨_,_,h,_⟩
  · omega
  · omega
  · exact h.1.2.1
end Go.Proofs.YtkichmnjjblodaaGreat
namespace Go.Proofs.YtkichmnjjblodaaGreat
open Go Go.RowKit Go.Proofs.Gw
variable {e nb:Int} {cnt ln:Int->Int} {pt:Int->Int->Int}
theorem ZmR:Zc Tryz.prog 26=true:=by kernel_rfl
theorem ZmP:Zc Tryz.prog 30=true:=by kernel_rfl
theorem SolR6.fine{p:Prob}{u:Int}{t:Tr}(h:SolR6 p nb t u ln pt cnt e)(hp:p.Ok)(hn:Zy p<=6):e=0:=by
  rcases h with⟨h,_⟩|⟨_,h,_⟩|⟨_,h,_⟩
  · exact absurd hp h
  · omega
  · exact h
theorem SolR6.bars{p:Prob}{u:Int}{t:Tr}(h:SolR6 p nb t u ln pt cnt e)(hp:p.Ok)(he:e=0):∃L,LFit p L/\(∀j,0<=j->j<p.m->p.D j<=Yx L j)/\(L.length:Int)=nb:=by
  rcases h with⟨h,_⟩|⟨_,_,h,_⟩|⟨_,_,h1,h2,_⟩
  · exact absurd hp h
  · omega
  · obtain⟨L,g1,g2,g3⟩:=Rh h1
    exact⟨L,g1,g2,g3.trans h2⟩
theorem SolR6.least{p:Prob}{u:Int}{t:Tr}(h:SolR6 p nb t u ln pt cnt e)(hp:p.Ok)(he:e=0){L:List (Int->Int)}(hL:LFit p L)(hc:∀j,0<=j->j<p.m->p.D j<=Yx L j):nb<=L.length:=by
  rcases h with⟨h,_⟩|⟨_,_,h,_⟩|⟨_,_,_,_,_,_,⟨h1,_⟩|⟨_,_,h1⟩⟩
  · exact absurd hp h
  · omega
  · omega
  · have:=Vk t h1 hL hc;omega
def pX:Prob:=⟨2,fun k=> [6,4].getD k.toNat 0,2,fun k=> [2,2].getD k.toNat 0,10,0⟩
def lX:Int->Int:=fun k=> [1,1,0].getD k.toNat 0
theorem UD:pX.Ok:=⟨by decide,by decide,rfl,by decide,by decide,by decide,by decide,Gw.two (by unfold Prob.each;decide) (by unfold Prob.each;decide)⟩
theorem Zcp:Zy pX=4:=by decide
theorem Ziy:XN pX 1 3 lX:=by
  have hc:Chk pX (3-1) (fun k=>lX (k+1)) (lX 0)=0:=ZfC UD ⟨by decide,by decide,Gw.two (by decide) (by decide)⟩ rfl (by decide)
  refine⟨⟨UD,by decide,by decide⟩,by decide,hc,?_⟩
  rw [Vu hc];decide
def oX:Int->Int:=fun k=> [1,1].getD k.toNat 0
theorem Zja:FitsP pX pX.m oX:=⟨UD,rfl,Gw.two (by decide) (by decide),by decide⟩
theorem Zi6{u:Int}{t:Tr}(h:SolR6 pX nb t u ln pt cnt e):e=0/\nb=2/\Zgv pX nb u ln pt cnt t:=by
  have he:=h.fine UD (by rw [Zcp];decide)
  obtain⟨L,g1,g2,g3⟩:=h.bars UD he
  have h1:=Vk (.mk 0 (.slice none 0 0) 0 (fun _=> .nil) (.slice none 0 0) 3 lX) (Xm rfl Ziy) g1 g2
  have h2:=h.least UD he (L:= [oX,oX]) (fun a ha=>by
    simp only [List.mem_cons,List.not_mem_nil,or_false,or_self] at ha
    rw [ha];exact Zja) (Gw.two (by decide) (by decide))
  have h3:nb<=2:=h2
  refine⟨he,by omega,?_⟩
  rcases h with⟨h,_⟩|⟨_,h,_⟩|⟨_,_,q1,q2,_,_,⟨q3,_⟩|⟨q3,q4,q5⟩⟩
  · exact absurd UD h
  · rw [Zcp] at h;omega
  · omega
  · exact⟨q1,q2,.inr ⟨by omega,(Xj ⟨UD,by omega,by omega⟩ q4 q5).1⟩⟩
theorem Zbd(w0:World):
    Calls Tryz.prog 11 [].toArray w0 fun e w=>∃v,e= .returned v/\v= .bool true/\Sat w0 w []:=by
  refine zenG Tryz.func11 Tryz.ntmps11 fun w hS=> ?_
  refine zsr<|(zP)<|zlz<|zla (xli (n:=2) (len:=2) (pv:= [(0,.int .i64 6),(1,.int .i64 4)]) (cs:= [.int .i64 6,.int .i64 4]) (c:=ints (fun k=> [6,4].getD k.toNat 0)) Zb Zt hS) ?_;rintro v1 w ⟨hS,hv1⟩
  refine zla (xli (n:=2) (len:=2) (pv:= [(0,.int .i64 2),(1,.int .i64 2)]) (cs:= [.int .i64 2,.int .i64 2]) (c:=ints (fun k=> [2,2].getD k.toNat 0)) Zb Zt hS) ?_;rintro v2 w ⟨hS,hv2⟩
  refine zlv (xany (v:= .agg #[v1,v2,.int .i64 10,.int .i64 0]) (hr:=by obtain⟨_,_,_,_,rfl,_⟩:=hv1;obtain⟨_,_,_,_,rfl,_⟩:=hv2;kernel_rfl)) ?_
  refine zla (xal (cs:= [_,_,_,_]) Ze7 hS) ?_;rintro _ w ⟨g1,rfl,hS⟩
  refine zle (xsw 2 st_32 hS (hd:=(Za hv1.one (Za hv2.one (Za rfl (Za rfl Zi)))))) ?_;clear hS;rintro w hS
  refine zlz<|(zV (xls 2 st_32 hS))<|zlc (xc0 ZmP) (ZfV (p:=(⟨2,(fun k=> [6,4].getD k.toNat 0),2,(fun k=> [2,2].getD k.toNat 0),10,0⟩:Prob)) w (⟨(hS.rowN 0 rfl),(hS.rowN 1 rfl),(ZbH _ (by decide)),(ZbH _ (by decide)),(by(try dsimp only);omega),(by(try dsimp only);omega)⟩:PAt _ _ _ (⟨2,(fun k=> [6,4].getD k.toNat 0),2,(fun k=> [2,2].getD k.toNat 0),10,0⟩:Prob))) ?_;rintro _ w ⟨dz,ah,b9,bz,bD,bA,bb,j9,df,rfl,aD,aH,ev,eo,dE,hS'⟩
  replace hS:=(hS.comp hS').n6;clear hS'
  have gV:=fun j (j0:0<=j) (j1:j<b9)=>hS.slhIn 5 rfl j0 j1
  have fk:=SolR6.u aD
  refine(zP)<|(zP)<|(zP)<|zla (xal (cs:= [_,_,_,_,_]) ZiA hS) ?_;rintro _ w ⟨g2,rfl,hS⟩
  refine zle (xsw 6 XS hS (hd:=(Za rfl (Za dE.one (Za rfl (Za ev.one (Za eo.one Zi))))))) ?_;clear hS;rintro w hS
  refine(zP)<|zlz<|zlv xmv ?_
  obtain⟨hx1,hx2,hx3⟩:=Zi6 aD
  refine(zV (xkt YL))<|(zP)<|(zV (xfb 0 UU))<|(zV (xlb 6 pl_3 hS))<|(zP)<|(zP)<|(zP)<|zlb 19 ?_ ?_<;>intro hc
  ·
   refine(zV (xls 2 st_32 hS))<|(zV (xls 6 XS hS))<|zlc (xc0 ZmR) (ZhU (u:=b9) (pv:=bz) (ln:=bD) (pt:=bA) (cnt:=bb) (p:=(⟨2,(fun k=> [6,4].getD k.toNat 0),2,(fun k=> [2,2].getD k.toNat 0),10,0⟩:Prob)) (nb:=dz) (t:=ah) w (⟨(hS.rowN 4 rfl),fun k k0 k1=>hS.rowIn 5 rfl k0 k1,fun k k0 k1=>hS.roomIn 5 rfl k0 k1⟩:VAt _ df b9 bz bD bA bb) (⟨(hS.rowN 0 rfl),(hS.rowN 1 rfl),(ZbH _ (by decide)),(ZbH _ (by decide)),(by(try dsimp only);omega),(by(try dsimp only);omega)⟩:PAt _ _ _ (⟨2,(fun k=> [6,4].getD k.toNat 0),2,(fun k=> [2,2].getD k.toNat 0),10,0⟩:Prob)) (Tr.fr2_at ah aH (hS.holds (.sem (Tr.fr2 54 3 ah)) (by repeat first|exact List.mem_cons_self .. |apply List.mem_cons_of_mem))).1 (Tr.fr2_at ah aH (hS.holds (.sem (Tr.fr2 54 3 ah)) (by repeat first|exact List.mem_cons_self .. |apply List.mem_cons_of_mem))).2 (by omega)) ?_;rintro _ w ⟨rfl,hS'⟩
   replace hS:=hS.cmp hS';clear hS'
   refine R1 22 (u:= .bool true) (ZI hx3) ?_
   refine(zP)<|(zP)<|(zV (xls 2 st_32 hS))<|zlv (xany (v:= .agg #[v1,v2,.int .i64 10,.int .i64 0,.int .i64 1]) (hr:=by obtain⟨_,_,_,_,rfl,_⟩:=hv1;obtain⟨_,_,_,_,rfl,_⟩:=hv2;kernel_rfl)) ?_
   refine zla (xli (n:=3) (len:=3) (pv:= [(0,.int .i64 1),(1,.int .i64 1),(2,.int .i64 0)]) (cs:= [.int .i64 1,.int .i64 1,.int .i64 0]) (c:=ints (fun k=> [1,1,0].getD k.toNat 0)) Zb Zt hS) ?_;rintro v3 w ⟨hS,hv3⟩
   refine zlc (xc0 ZiU) (Zf7 (p:=(⟨2,(fun k=> [6,4].getD k.toNat 0),2,(fun k=> [2,2].getD k.toNat 0),10,0⟩:Prob)) (b:=1) w (⟨(hS.rowN 0 rfl),(hS.rowN 1 rfl),(ZbH _ (by decide)),(ZbH _ (by decide)),(by(try dsimp only);omega),(by(try dsimp only);omega)⟩:PAt _ _ _ (⟨2,(fun k=> [6,4].getD k.toNat 0),2,(fun k=> [2,2].getD k.toNat 0),10,0⟩:Prob)) (⟨(hS.rowN 7 rfl),(ZbH _ (by decide))⟩:IAt _ _ 3 (fun k=> [1,1,0].getD k.toNat 0)) (Ent.holds.roomy (hS.holds _ (List.mem_of_getElem? (i:=7) rfl)))) ?_;rintro _ w ⟨rfl,hS'⟩
   replace hS:=hS.cmp hS';clear hS'
   refine R1 28 (u:= .bool true) (ZI Ziy) ?_
   refine(zP)<|(zP)<|zx1<|zf1 ⟨_,rfl,?_⟩
   exact⟨rfl,hS.nl⟩
  iterate 3 refine zlo ?_
  refine zs2 ?_
  iterate 4 refine zlo ?_
  refine(zP)<|(zP)<|zx1<|zf1 ⟨_,rfl,?_⟩
  exfalso;omega
end Go.Proofs.YtkichmnjjblodaaGreat
namespace Go.Proofs.YtkichmnjjblodaaGreat
open Go Go.RowKit Go.Proofs.Gw
theorem ZiW:Zc Tryz.prog 11=true:=by kernel_rfl
theorem ZmX:Zc Tryz.prog 12=true:=by kernel_rfl
theorem ZmQ:Zc Tryz.prog 29=true:=by kernel_rfl
end Go.Proofs.YtkichmnjjblodaaGreat
namespace Go.Proofs.YtkichmnjjblodaaGreat
open Go Go.RowKit Go.Proofs.Gw
theorem ZiQ:Zc Tryz.prog 40=true:=by kernel_rfl
theorem T4 {p:Prob} (hp:p.Ok):∀(L:List (Int->Int)) (d:Int->Int),LFit p L->(∀j,0<=j->j<p.m->0<=d j/\d j<=Yx L j)->∃M:List (Int->Int),(∀x∈M,(∀j,0<=x j)/\Zx p x p.m.toNat<=p.stock+p.kerf/\1<=Zd x p.m.toNat)/\(∀j,0<=j->j<p.m->Yx M j=d j)/\M.length<=L.length
  | [],d,_,hd=>⟨[],fun x hx=>(by cases hx),fun j j0 j1=>(by have:=hd j j0 j1;simp only [Yx] at this⊢;omega),Nat.le_refl _⟩
  | a ::L,d,hL,hd=>by
    have ha:=hL a (List.mem_cons_self ..)
    have hL':LFit p L:=fun b hb=>hL b (List.mem_cons_of_mem _ hb)
    obtain⟨x,hx,hx0⟩:∃x:Int->Int,(∀j,0<=j->j<p.m->x j=min (a j) (d j))/\∀j,j<0\/p.m<=j->x j=0:=
      ⟨fun j=>if 0<=j/\j<p.m then min (a j) (d j) else 0,fun j j0 j1=>if_pos ⟨j0,j1⟩,fun j hj=>if_neg (by omega)⟩
    have hnn:∀j,0<=x j:=fun j=>by
      by_cases hj:0<=j/\j<p.m
      · rw [hx j hj.1 hj.2];have:=ha.all j hj.1 hj.2;have:=hd j hj.1 hj.2;omega
      · rw [hx0 j (by omega)];exact Int.le_refl _
    have hu:Zx p x p.m.toNat<=p.stock+p.kerf:=by
      refine Int.le_trans (Zcg hp fun j j0 j1=> ?_) ha.used
      rw [hx j j0 j1];omega
    obtain⟨M,m1,m2,m3⟩:=T4 hp L (fun j=>d j-x j) hL' fun j j0 j1=>by
      have h1:=hd j j0 j1
      have h2:=hx j j0 j1
      have h3:=hL'.nn j0 j1
      simp only [Yx] at h1
      omega
    by_cases hs:1<=Zd x p.m.toNat
    · refine⟨x::M,fun y hy=> ?_,fun j j0 j1=> ?_,by simp only [List.length_cons];omega⟩
      · rcases List.mem_cons.1 hy with rfl|hy
        · exact⟨hnn,hu,hs⟩
        · exact m1 y hy
      · have:=m2 j j0 j1
        simp only [Yx];omega
    · refine⟨M,m1,fun j j0 j1=> ?_,by simp only [List.length_cons];omega⟩
      have h1:=Xc (f:=x) (n:=p.m.toNat) j0 (by omega) fun i _ _=>hnn i
      have h2:=hnn j
      have:=m2 j j0 j1
      omega
theorem Ks{M:List (Int->Int)}{n:Nat}(h:∀x∈M,1<=Zd x n):(M.length:Int)<=Zd (Yx M) n:=by
  induction M with
  |nil=>show(0:Int)<=Zd (Yx []) n;exact Int.le_of_eq ((Zj (f:=Yx []) (g:=fun _=>0) fun i _ _=>rfl).trans (ZP n)).symm
  | cons a M ih=>
    have h1:=h a (List.mem_cons_self ..)
    have h2:=ih fun b hb=>h b (List.mem_cons_of_mem _ hb)
    have h3:Zd (Yx (a::M)) n=Zd a n+Zd (Yx M) n:=by rw [<-X7];rfl
    rw [List.length_cons,h3];omega
theorem VQ(j:Int)(M:List (Int->Int)):∀c:Nat,Zd (fun k=>VL M k j) (M.length+c)=Yx M j
  | 0=>by
    have:=Ui j M
    unfold Xr at this
    rw [Nat.add_zero,<-this];exact Zj fun i _ _=>by rw [Int.mul_one]
  | c +1=>by
    have:=VQ j M c
    show Zd _ (M.length+c)+VL M ((M.length+c:Nat):Int) j=_
    rw [this]
    have e:VL M ((M.length+c:Nat):Int) j=0:=by
      unfold VL
      rw [List.getD_eq_getElem?_getD,List.getElem?_eq_none (by omega)];rfl
    omega
theorem Ziq {p:Prob} (hp:p.Ok) {L:List (Int->Int)} (hL:LFit p L) (hc:∀j,0<=j->j<p.m->p.D j<=Yx L j) {b:Int} (hb:(L.length:Int)<=b):Vh p (min b (Zy p)) (fun _ _=>0):=by
  obtain⟨M,m1,m2,m3⟩:=T4 hp L p.D hL fun j j0 j1=>by
    have he:=hp.all j j0 j1
    unfold Prob.each at he
    exact⟨by omega,hc j j0 j1⟩
  have h1:=Ks (n:=p.m.toNat) fun x hx=>(m1 x hx).2.2
  have h2:Zd (Yx M) p.m.toNat=Zy p:=Zj fun j j0 j1=>m2 j j0 (by omega)
  rw [h2] at h1
  obtain⟨c,hc9⟩:∃c:Nat,(min b (Zy p)).toNat=M.length+c:=⟨(min b (Zy p)).toNat-M.length,by omega⟩
  refine⟨VL M,fun k j=> ?_,fun j j0 j1=> ?_,fun k k0 k1=> ?_⟩
  · unfold VL
    rw [List.getD_eq_getElem?_getD]
    cases hk:M[k.toNat]? with
    |none=>exact Int.le_refl _
    |some x=>exact(m1 x (List.mem_of_getElem? hk)).1 j
  · rw [hc9,VQ];exact m2 j j0 j1
  · simp only [Int.zero_add]
    unfold VL
    rw [List.getD_eq_getElem?_getD]
    cases hk:M[k.toNat]? with
    | none=>
      have e:Zx p (fun _=>0) p.m.toNat=0:=by
        unfold Zx
        rw [Zj (g:=fun _=>0) fun i i0 i1=>by simp]
        exact ZP _
      have:=hp.s1;have:=hp.k1
      show Zx p (fun _=>0) p.m.toNat<=_
      rw [e];omega
    |some x=>exact(m1 x (List.mem_of_getElem? hk)).2.1
theorem Zb2:∀(t:Tr) (w0:World) (hK:KAt w0 t) (hV:LvAt w0 t),
    Calls Tryz.prog 40 [.agg #[.int .i64 t.s,t.vK,t.vL]].toArray w0 fun e w=>∃v,e= .returned v/\∃u:Tr,v= .agg #[.int .i64 u.s,u.vK,u.vL]/\Sim t u/\Slh u.vK u.n/\Slh u.vL u.nl/\Sat w0 w [.sem (u.frame 45)]:=by
  refine Tr.ind fun t ih=> ?_
  intro w0 hK hV
  have hn:=hK.row.slh.n0;have hn1:=hK.row.slh.n1;have hln:=hV.leaf.row.slh.n0;have yt:=hV.leaf.row.slh.n1
  have hbd:=hK.bd
  refine zenG Tryz.func40 Tryz.ntmps40 fun w hS=> ?_
  refine zsr<|zla (xbx (cs:= [_,_,_]) hS) ?_;rintro _ w ⟨g1,rfl,hS⟩
  refine zla (xal (cs:= [_,_,_]) ZcM hS) ?_;rintro _ w ⟨g2,rfl,hS⟩
  refine zlz<|(zV (xfb 0 fd_54_0))<|(zV (xlb 0 pl_3 hS))<|(zV (xfb 2 fd_54_2))<|(zV (xlb 0 pl_22 hS))<|zlv (xany (v:= .agg #[.int .i64 t.s,.slice none 0 0,t.vL]) (hr:=by have hz:=(hV).leaf.row.slh;revert hz;generalize t.vL=z;rintro⟨_,_,_,_,rfl,_⟩;show _=_;kernel_rfl)) ?_
  refine zla (xal (cs:= [_,_,_]) ZcM hS) ?_;rintro _ w ⟨g3,rfl,hS⟩
  refine zle (xsw 2 st_45 hS (hd:=(Za rfl (Za rfl (Za (hV).leaf.row.slh.one Zi))))) ?_;clear hS;rintro w hS
  refine zx5<|(zV (xfb 1 fd_54_1))<|(zV (xlb 0 Xs hS))<|(zV (xln YI (hK).row.slh))<|(zP)<|zx6 ?_
  replace hS:=hS.addnil 3 45 (Yl (fun _=> .nil))
  replace hS:=hS.addall (fun z9=>((fun _=>Tr.nil) z9).frame 45)
  refine zlp (fun mm M w=>∃(kd:Int->Tr) (wK:Value) (i:Int),mm=((t.n-i).toNat)/\(0<=i)/\(i<=t.n)/\(Slh wK i)/\(∀k,0<=k->k<i->Sim (t.kid k) (kd k))/\M= [(2,.pointer (some ⟨g2,0,none⟩)),(3,.pointer (some ⟨g3,0,none⟩)),(12,t.vK),(13,.int .i64 t.n),(14,.int .i64 i)]/\Sat w0 w [.blk g1 [.int .i64 t.s,t.vK,t.vL],.blk g2 [.int .i64 0,.slice none 0 0,.slice none 0 0],.blk g3 [.int .i64 t.s,wK,t.vL],.own wK 3 45 i (Yl kd),.sem (Frame.all i (fun z9=>(kd z9).frame 45))]) ⟨(fun _=>Tr.nil),(.slice none 0 0),0,rfl,(by omega),(by omega),?_,?_,rfl,hS⟩ ?_
  ·
   exact slh_nil
  ·
   intro k k0 k1;omega
  clear hS w
  rintro mm M w ⟨kd,wK,i,rfl,h0,h1,hwK,hsm,rfl,hS⟩
  refine zsr<|(zP)<|zx7<|Ze ?_ ?_<;>intro hc
  ·
   refine zx3<|(zV (xix (kk:=3*i) YI (hK).row.slh))<|(zV (xlw (cs:= [.int .i64 ((t.kid i).s),(t.kid i).vK,(t.kid i).vL]) st_54 ((hK).row.below hS.below) (Yk (q:=3*i) (i:=i) _ (by omega))))<|zla (xal (cs:= [_,_,_]) We hS) ?_;rintro _ w ⟨g4,rfl,hS⟩
   refine zle (xsw 5 st_54 hS (hd:=(Za rfl (Za ((hK).sub (i:=i) (by omega) (by omega)).row.slh.one (Za ((hV).sub (i:=i) (by omega) (by omega)).leaf.row.slh.one Zi))))) ?_;clear hS;rintro w hS
   refine zlt<|zdst [0,1,2,5] [0,1,5] 7 mx_ hS ?_;clear hS;intro w hS
   refine(zDw 0 (xfb 1 fd_45_1))<|zdl 1 (fun w hS=>(xlb 2 YX hS)) ?_
   refine(zDl 2 (fun w hS=>(xls 2 st_54 hS)))<|zdc 3 (xc0 ZiQ) (ih i (by omega) (by omega) w (KAt.below hS.below ((hK).sub (i:=i) (by omega) (by omega))) (LvAt.below hS.below ((hV).sub (i:=i) (by omega) (by omega)))) ?_;rintro _ w ⟨u1,rfl,yp,cH,cG,hS'⟩
   replace hS:=(hS.comp hS').n7;clear hS'
   refine⟨⟨fun _=>hS.pk [0,1,2,5],hS.pk [0,1,5]⟩,?_⟩
   refine zda 4 (xli (n:=1) (len:=1) (pv:= [(0,.agg #[.int .i64 u1.s,u1.vK,u1.vL])]) (cs:= [.int .i64 u1.s,u1.vK,u1.vL]) (c:=XF (fun _=>u1.s) (fun _=>u1.vK) (fun _=>u1.vL)) YW ZcM hS (hf:=by have hz:=cH;revert hz;generalize u1.vK=z;rintro⟨_,_,_,_,rfl,_⟩;show _=_;have hz:=cG;revert hz;generalize u1.vL=z;rintro⟨_,_,_,_,rfl,_⟩;show _=_;kernel_rfl)) ?_;rintro v1 w ⟨hS,hv1⟩
   refine⟨⟨fun _=>hS.pk [0,1,2,5],hS.pk [0,1,5]⟩,?_⟩
   refine zda 5 (xap 3 (r:=i+1) YW ZcM hS (hS.rowN 7 rfl) (TG _ _ _) (h1:=fun k _ _=>U6 (fun _=>cH.one) (fun _=>cG.one) k)) ?_;rintro v2 w ⟨hS,hv2⟩
   replace hS:=Sat.allsnoc (l1:= [_,_,_,_]) (l2:= [_]) (l3:= [_]) hS (by omega) (H:=fun z9=>(gsn kd i u1 z9).frame 45) (fun k k0 k1=>by(try dsimp only);rw [Zv k1]) (by(try dsimp only);rw [Ym])
   refine⟨⟨fun _=>hS.pk [0,1,2,5],hS.pk [0,1,5]⟩,?_⟩
   refine(zDw 6 (xfb 1 fd_45_1))<|zde 7 (xsb 2 YX hS (hv:=hv2.one)) ?_;clear hS;rintro w hS
   refine⟨⟨fun h=>absurd h (by decide),hS.pk [0,1,5]⟩,?_⟩
   refine zdd<|zbn<|ztn<|zrg ?_
   refine(zV (Zh (r:=i+1)))<|(zP)<|zln<|zlq ⟨(gsn kd i u1),v2,i+1,rfl,(by omega),(by omega),?_,?_,rfl,hS.pk [0,1,2,3,4]⟩
   ·
    exact hv2
   ·
    intro k k0 k1;by_cases e:k<i
    · rw [Zv e];exact hsm k k0 e
    · rw [ZL e,show k=i by omega];exact yp
  refine zx8<|(zV (xls 2 st_45 hS))<|zle (xsw 1 st_45 hS (hd:=(Za rfl (Za hwK.one (Za (hV).leaf.row.slh.one Zi))))) ?_;clear hS;rintro w hS
  refine zx1<|zfc 1 st_45 hS ⟨_,rfl,?_⟩
  exact⟨.mk t.s wK i kd t.vL t.nl t.l,rfl,Sim.mk' rfl (by show i=t.n;omega) rfl rfl rfl (fun k k0 k1=>hsm k k0 (by omega)),hwK,hV.leaf.row.slh,Sat.tree (l:= []) (hS.pk [3,4]) t.s t.vL t.nl t.l⟩
end Go.Proofs.YtkichmnjjblodaaGreat
namespace Go.Proofs.YtkichmnjjblodaaGreat
open Go Go.RowKit Go.Proofs.Gw
theorem ZmL:Zc Tryz.prog 38=true:=by kernel_rfl
end Go.Proofs.YtkichmnjjblodaaGreat
namespace Go.Proofs.YtkichmnjjblodaaGreat
open Go Go.RowKit Go.Proofs.Gw
theorem ZmM:Zc Tryz.prog 35=true:=by kernel_rfl
end Go.Proofs.YtkichmnjjblodaaGreat
namespace Go.Proofs.YtkichmnjjblodaaGreat
open Go Go.RowKit Go.Proofs.Gw
variable {b e:Int} {cnt ln:Int->Int} {pt:Int->Int->Int}
theorem ZmW:Zc Tryz.prog 14=true:=by kernel_rfl
theorem RefR.bad{p:Prob}{u:Int}{t:Tr}(h:RefR p b t u ln pt cnt e)(hp:¬ZE p b):e=1/\u=0/\t.n=0:=by
  rcases h with⟨_,h1,h2,h3⟩|⟨h,_⟩|⟨h,_⟩|⟨h,_⟩
  · exact⟨h3,h2,h1.2.2⟩
  · exact absurd h hp
  · exact absurd h hp
  · exact absurd h hp
theorem RefR.yes{p:Prob}{u:Int}{t:Tr}(h:RefR p b t u ln pt cnt e)(hp:ZE p b)(he:e=0)(hm:Vh p (min b (Zy p)) (fun _ _=>0)):UN t/\PMt p u ln pt cnt/\brs u cnt<=b:=by
  rcases h with⟨h,_⟩|⟨_,_,_,_,h⟩|⟨_,_,h⟩|⟨_,_,_,_,_,h,_⟩
  · exact absurd hp h
  · omega
  · exact h
  · exact absurd hm (Zev h hp)
theorem RefR.no{p:Prob}{u:Int}{t:Tr}(h:RefR p b t u ln pt cnt e)(hp:ZE p b)(he:e=0)(hm:¬Vh p (min b (Zy p)) (fun _ _=>0)):u=0/\chkE t p b=0:=by
  rcases h with⟨h,_⟩|⟨_,_,_,_,h⟩|⟨_,_,_,h1,h2⟩|⟨_,_,h0,h1,_,h2,_⟩
  · exact absurd hp h
  · omega
  · obtain⟨L,g1,g2,g3⟩:=Rh h1
    exact absurd (Ziq hp.1 g1 g2 (by unfold brs at h2;omega)) hm
  · exact⟨h0,(Xj hp h1 h2).1⟩
theorem ZbI{vL vD:Value}{p:Prob}(w0:World)(h:PAt w0 vL vD p):
    Calls Tryz.prog 8 [.agg #[vL,vD,.int .i64 p.stock,.int .i64 p.kerf,.int .i64 b]].toArray w0 fun e w=>∃v,e= .returned v/\v= .bool true/\Sat w0 w []:=by
  have hm:=h.L.slh.n0;have hm1:=h.L.slh.n1;have hd:=h.D.slh.n0;have hd1:=h.D.slh.n1;have hs:=h.is;have hk:=h.ik
  refine zenG Tryz.func8 Tryz.ntmps8 fun w hS=> ?_
  refine zsr<|zla (xbx (cs:= [_,_,_,_,_]) hS) ?_;rintro _ w ⟨g1,rfl,hS⟩
  refine(zP)<|zx5<|zlc (xc0 ZiW) (Zbd w) ?_;rintro _ w ⟨rfl,hS'⟩
  replace hS:=hS.cmp hS';clear hS'
  refine(zP)<|(zP)<|(zV (xfb 0 fd_26_0))<|(zV (xlp 0 (ds:= [vL,vD,.int .i64 p.stock,.int .i64 p.kerf]) ZV hS))<|zlc (xc0 ZmX) (Zia (p:=p) w (h.below hS.below)) ?_;rintro _ w ⟨rfl,hS'⟩
  replace hS:=hS.cmp hS';clear hS'
  refine(zP)<|(zP)<|zlt<|Ze ?_ ?_<;>intro hc
  ·
   refine zsr<|zlc (xc0 ZiW) (Zbd w) ?_;rintro _ w ⟨rfl,hS'⟩
   replace hS:=hS.cmp hS';clear hS'
   refine(zP)<|zx14<|zf1 ⟨_,rfl,?_⟩
   exact⟨rfl,hS.nl⟩
  refine ZS<|(zV (xls 0 Vi hS))<|zlc (xc0 ZmW) (ZhY (p:=p) (b:=b) w (h.below hS.below)) ?_;rintro _ w ⟨rfl,hS'⟩
  replace hS:=hS.cmp hS';clear hS'
  refine zlc (xc0 ZiS) (Zbb (p:=p) (b:=b) w (h.below hS.below)) ?_;rintro _ w ⟨qD,yh,xY,x3,xZ,xf,eP,ae,rfl,qK,xD,xp,xu,zE,hS'⟩
  replace hS:=(hS.comp hS').n4;clear hS'
  have dT:=fun j (j0:0<=j) (j1:j<yh)=>hS.slhIn 3 rfl j0 j1
  refine zs4 ?_
  refine zla (xal (cs:= [_,_,_]) We hS) ?_;rintro _ w ⟨g2,rfl,hS⟩
  refine zle (xsw 4 st_54 hS (hd:=(Za rfl (Za xp.one (Za xu.one Zi))))) ?_;clear hS;rintro w hS
  refine(zP)<|(zP)<|zx5<|zlv (xls 0 Vi hS) ?_
  have hu9:=qK.u
  refine zlc (xc0 ZcU) (UW (p:=p) (b:=b) w (h.below hS.below)) ?_;rintro _ w ⟨rfl,hS'⟩
  replace hS:=hS.cmp hS';clear hS'
  refine(zP)<|zlt<|Ze ?_ ?_<;>intro hc
  ·
   refine zsr<|zlv xmv ?_
   obtain⟨hx1,hx2,hx3⟩:=qK.bad ‹¬ZE p b›
   refine(zP)<|(zP)<|zlb 30 ?_ ?_<;>intro hc
   ·
    refine(zP)<|(zV (xln ZO zE))<|(zV (xkt YL))<|(zP)<|(zP)<|(zV (xfb 1 fd_54_1))<|(zV (xlb 4 Xs hS))<|(zV (xln YI xp))<|(zV (xkt YL))<|(zP)<|(zP)<|zx14<|zf1 ⟨_,rfl,?_⟩
    exact⟨rfl,hS.nl⟩
   iterate 3 refine zlo ?_
   refine zs2 ?_
   iterate 4 refine zlo ?_
   refine(zP)<|(zP)<|zx14<|zf1 ⟨_,rfl,?_⟩
   exfalso;first|omega|contradiction
  refine YJ<|zlv (xfb 0 fd_26_0) ?_
  have xO:ZE p b:=(by first|assumption|exact Classical.not_not.1 ‹_›);have jN:=xO.2.1;have fy:=xO.1.m1
  refine(zV (xlp 0 (ds:= [vL,vD,.int .i64 p.stock,.int .i64 p.kerf]) ZV hS))<|zlc (xc0 ZmQ) (ZdN (p:=p) w (h.below hS.below) xO.1) ?_;rintro _ w ⟨rfl,hS'⟩
  replace hS:=hS.cmp hS';clear hS'
  refine(zP)<|zlt<|Ze ?_ ?_<;>intro hc
  ·
   refine zsr<|(zP)<|zx14<|zf1 ⟨_,rfl,?_⟩
   exact⟨rfl,hS.nl⟩
  refine YJ<|zlv xmv ?_
  have he1:eP=0:=Classical.byContradiction fun hh=>by have h8:=qK.err xO hh;have h9:=(show Zy p<=6/\p.m<=4 by first|assumption|exact Classical.not_not.1 ‹_›).1;omega
  refine(zV (xkf YV))<|zlt<|zcf<|zsk<|ztn<|zsq<|zsr ?_
  refine(zV (xfb 0 fd_26_0))<|(zV (xlp 0 (ds:= [vL,vD,.int .i64 p.stock,.int .i64 p.kerf]) ZV hS))<|(zV (xfb 4 fd_26_1))<|(zV (xlb 0 pl_3 hS))<|zlc (xc0 ZmM) (Zh1 (p:=p) (b:=b) w (h.below hS.below) xO.1 (by omega)) ?_;rintro _ w ⟨rfl,hS'⟩
  replace hS:=hS.cmp hS';clear hS'
  refine zlt<|Ze ?_ ?_<;>intro hc
  ·
   refine zsr<|zlv xmv ?_
   have hyy:=qK.yes xO he1 (by first|assumption|exact Classical.not_not.1 ‹_›)
   refine zlc (xc0 ZmL) (ZfJ (n:=yh) (pv:=xY) (ln:=x3) (pt:=xZ) (cnt:=xf) w (⟨(hS.rowN 2 rfl),fun k k0 k1=>hS.rowIn 3 rfl k0 k1,fun k k0 k1=>hS.roomIn 3 rfl k0 k1⟩:VAt _ ae yh xY x3 xZ xf) (by omega)) ?_;rintro br w ⟨_,rfl,ff,hS'⟩
   replace hS:=(hS.comp hS').n6;clear hS'
   refine(zP)<|zx7<|zdst [0,1,2,3,4,5] [0,1,2,3,4,5] 1000 mx_ hS ?_;clear hS;intro w hS
   refine(zDw 0 (xfb 0 fd_26_0))<|(zDl 1 (fun w hS=>(xlp 0 (ds:= [vL,vD,.int .i64 p.stock,.int .i64 p.kerf]) ZV hS)))<|(zDw 2 xmv)<|zdc 3 (xc0 ZmO) (ZfG (u:=yh) (pv:=xY) (ln:=x3) (pt:=xZ) (cnt:=xf) (p:=p) w (⟨(hS.rowN 5 rfl),fun k k0 k1=>hS.rowIn 3 rfl k0 k1,fun k k0 k1=>hS.roomIn 3 rfl k0 k1⟩:VAt _ br yh xY x3 xZ xf) (h.below hS.below)) ?_;rintro _ w ⟨rfl,hS'⟩
   replace hS:=hS.cmp hS';clear hS'
   refine⟨⟨fun _=>hS,hS⟩,?_⟩
   refine(zDw 4 xmv)<|Zbr 58 (u:= .bool true) (ZI hyy.2.1) ?_
   refine zDrv 5 xmv ?_
   have hb9:psum (fun _=>1) xf (yh).toNat<=b:=hyy.2.2
   refine(zDw 7 (xfb 4 fd_26_1))<|(zDl 8 (fun w hS=>(xlb 0 pl_3 hS)))<|zdc 6 (xc0 ZmN) (ZhJ (u:=yh) (pv:=xY) (ln:=x3) (pt:=xZ) (cnt:=xf) w (⟨(hS.rowN 5 rfl),fun k k0 k1=>hS.rowIn 3 rfl k0 k1,fun k k0 k1=>hS.roomIn 3 rfl k0 k1⟩:VAt _ br yh xY x3 xZ xf) (by omega) (fun k k0 k1=>by have h8:=hyy.2.1.1.2.2 k k0 k1;omega)) ?_;rintro _ w ⟨rfl,hS'⟩
   replace hS:=hS.cmp hS';clear hS'
   refine⟨⟨fun _=>hS,hS⟩,?_⟩
   refine(zDw 9 (xkt Xb))<|(zDw 10 xpt)<|(zDw 11 xmv)<|(zDl 12 (fun w hS=>(xls 4 st_54 hS)))<|(zDw 13 (xany (v:= .agg #[.int .i64 0,.slice none 0 0,.slice none 0 0])))<|zdc 14 (xc0 ZiR) (Za9 (t:=qD) w (Tr.fr2_at qD xD (hS.holds (.sem (Tr.fr2 54 3 qD)) (by repeat first|exact List.mem_cons_self .. |apply List.mem_cons_of_mem))).1 (Tr.fr2_at qD xD (hS.holds (.sem (Tr.fr2 54 3 qD)) (by repeat first|exact List.mem_cons_self .. |apply List.mem_cons_of_mem))).2) ?_;rintro _ w ⟨rfl,hS'⟩
   replace hS:=hS.cmp hS';clear hS'
   refine⟨⟨fun _=>hS,hS⟩,?_⟩
   refine(zDw 15 xpt)<|Zbr 69 (u:= .bool true) (ZI hyy.1) ?_
   refine(zDw 16 xas)<|zdd<|ztn<|zrt<|ztr<|zf1 ⟨_,rfl,?_⟩
   exact⟨rfl,hS.nl⟩
  refine zsk<|ztn<|zsq<|zdst [0,1,2,3,4] [0,1,2,3,4] 1000 mx_ hS ?_;clear hS;intro w hS
  refine zdla 0 (fun w hS=>(xls 0 Vi hS)) ?_
  have hno:=qK.no xO he1 (by assumption)
  have jP:=hno.1
  refine(zDl 1 (fun w hS=>(xls 4 st_54 hS)))<|zdc 2 (xc0 ZiQ) (Zb2 qD w (Tr.fr2_at qD xD (hS.holds (.sem (Tr.fr2 54 3 qD)) (by repeat first|exact List.mem_cons_self .. |apply List.mem_cons_of_mem))).1 (Tr.fr2_at qD xD (hS.holds (.sem (Tr.fr2 54 3 qD)) (by repeat first|exact List.mem_cons_self .. |apply List.mem_cons_of_mem))).2) ?_;rintro _ w ⟨u1,rfl,yp,cH,cG,hS'⟩
  replace hS:=(hS.comp hS').n6;clear hS'
  refine⟨⟨fun _=>hS.pk [0,1,2,3,4],hS.pk [0,1,2,3,4]⟩,?_⟩
  refine zdc 3 (xc0 ZmS) (Zli (t:=u1) (p:=p) (b:=b) w (h.below hS.below) (Tr.frame_kat (E:=45) _ yp (Tr.fr2_at qD xD (hS.holds (.sem (Tr.fr2 54 3 qD)) (by repeat first|exact List.mem_cons_self .. |apply List.mem_cons_of_mem))).1 (hS.holds (.sem (Tr.frame 45 u1)) (by repeat first|exact List.mem_cons_self .. |apply List.mem_cons_of_mem))) (Sim.vat _ yp (Tr.fr2_at qD xD (hS.holds (.sem (Tr.fr2 54 3 qD)) (by repeat first|exact List.mem_cons_self .. |apply List.mem_cons_of_mem))).2)) ?_;rintro _ w ⟨rk1,k1,fk1,rfl,cB,cN,hS'⟩
  replace hS:=(hS.comp hS').n7;clear hS'
  refine⟨⟨fun _=>hS.pk [0,1,2,3,4],hS.pk [0,1,2,3,4]⟩,?_⟩
  refine(zDw 4 xmv)<|(zDw 5 xex)<|(zDw 6 xex)<|Zbr 76 (u:= .int .i64 0) (congrArg (Value.int .i64) ((Zel yp p b).trans hno.2)) ?_
  refine(zDw 7 xas)<|(zDw 8 xas)<|zdd<|ztn<|zsr ?_
  refine(zP)<|(zP)<|(zP)<|zlb 79 ?_ ?_<;>intro hc
  ·
   refine(zP)<|(zV (xln ZO zE))<|(zV (xkt YL))<|(zP)<|(zP)<|zx1<|zf1 ⟨_,rfl,?_⟩
   exact⟨rfl,hS.nl⟩
  iterate 3 refine zlo ?_
  refine(zP)<|(zP)<|zx1<|zf1 ⟨_,rfl,?_⟩
  exfalso;first|omega|contradiction
end Go.Proofs.YtkichmnjjblodaaGreat
namespace Go.Proofs.Gw
open Go Go.RowKit Go.ChangeShapes Go.WideShapes Go.ChangeAt
section
variable {H:Type} {enc:TypeId×Value->H} {P:Program} {w:World} {held:Bool}
def Small{H:Type}(P:Program)(t:TypeId)(d:DataW H):Prop:=(d.weights P t).all (· <=reachBytes)=true
theorem Ta{ts:List TypeId}{ds:List (DataW H)}(h:(DataW.weightsEach P ts ds).all (· <=reachBytes)=true){j:Nat}{t:TypeId}{d:DataW H}(ht:ts[j]? =some t)(hd:ds[j]? =some d):Small P t d:=
  List.all_eq_true.2 fun n hn=>List.all_eq_true.1 h n (DataW.weights_mem_each ht hd n hn)
theorem Kg{t:TypeId}{fs:Array Field}{parts:List (DataW H)}(h:Small P t (.agg parts))(hu:P.underlying t=some (.struct fs)){j:Nat}{u:TypeId}{d:DataW H}(ht:(fs.toList.map (·.type))[j]? =some u)(hd:parts[j]? =some d):Small P u d:=by
  unfold Small at h
  simp only [DataW.weights,hu] at h
  exact Ta h ht hd
theorem T9{e:TypeId}:∀{ds:List (DataW H)},(DataW.weightsAll P e ds).all (· <=reachBytes)=true->∀d∈ds,Small P e d
  | [],_,d,hd=>by cases hd
  | x::r,h,d,hd=>by
    simp only [DataW.weightsAll,List.all_append,Bool.and_eq_true] at h
    rcases List.mem_cons.1 hd with rfl|hd
    · exact h.1
    · exact T9 h.2 d hd
theorem Zal{t e:TypeId}{elems spare:List (DataW H)}(h:Small P t (.slice elems spare))(hu:P.underlying t=some (.slice e)):(elems.length+spare.length)*P.bytesOf e<=reachBytes/\∀d∈elems,Small P e d:=by
  unfold Small at h
  simp only [DataW.weights,hu,List.all_cons,List.all_append,Bool.and_eq_true,decide_eq_true_eq] at h
  exact⟨h.1,T9 h.2.1⟩
theorem R6{n:Int}(h:(Lit.int .i64 n).wf=true): -9223372036854775808<=n/\n<=9223372036854775807:=by
  simp only [Lit.wf,Bool.and_eq_true,decide_eq_true_eq] at h
  have h1:IntKind.i64.min= -9223372036854775808:=by decide
  have h2:IntKind.i64.max=9223372036854775807:=by decide
  omega
theorem Zdj{a:Addr}{v:Value}(h:w.cell? a=some v):a.spot=none:=World.cell?_spot h
end
end Go.Proofs.Gw
namespace Go.Proofs.Gw
open Go Go.RowKit Go.ChangeShapes Go.WideShapes Go.ChangeAt
section
variable {H:Type} {enc:TypeId×Value->H} {P:Program} {w:World} {held:Bool}
def Rd{H:Type}(enc:TypeId×Value->H)(P:Program)(w:World)(held:Bool)(t:TypeId)(cs:List Value):Prop:=∃fuel y,DataW.trod enc P w 0 (fun _=>true) held fuel t cs=some y/\Small P t y.1
theorem Rd.int{k:IntKind}{t:TypeId}{cs:List Value}(h:Rd enc P w held t cs)(ht:P.underlying t=some (.int k)):∃n,cs= [.int k n]/\(Lit.int k n).wf=true:=by
  obtain⟨fuel,y,h,_⟩:=h
  obtain⟨n,h1,_,h2⟩:=DataW.trod_int ht h
  exact⟨n,h1,h2⟩
theorem Rd.intv{k:IntKind}{t:TypeId}{v:Value}(h:Rd enc P w held t [v])(ht:P.underlying t=some (.int k)):∃n,v= .int k n/\(Lit.int k n).wf=true:=by
  obtain⟨n,h1,h2⟩:=h.int ht
  exact⟨n,by simpa using h1,h2⟩
theorem Rd.struct{fs:Array Field}{t:TypeId}{cs:List Value}(h:Rd enc P w held t cs)(ht:P.underlying t=some (.struct fs)):∀(j:Nat) (f:Field),fs[j]? =some f->Rd enc P w held f.type ((cs.drop f.offset).take (P.cellsOf f.type)):=fun j f hf=>by
  obtain⟨fuel,y,h,hs⟩:=h
  obtain⟨xs,n,_,rfl,hl,xH,hx⟩:=DataW.trod_struct ht h
  have hj:j<xs.length:=by rw [xH];exact(Array.getElem?_eq_some_iff.1 hf).1
  have h1:=hx j f hf
  rw [List.getElem?_eq_getElem hj] at h1
  exact⟨n,_,h1,Kg (j:=j) hs ht (by simp [hf]) (by simp [hj])⟩
theorem Rd.len{fs:Array Field}{t:TypeId}{cs:List Value}(h:Rd enc P w held t cs)(ht:P.underlying t=some (.struct fs)):cs.length=P.cellsOf t:=by
  obtain⟨fuel,y,h,hs⟩:=h
  obtain⟨xs,n,_,rfl,hl,xH,hx⟩:=DataW.trod_struct ht h
  exact hl
theorem Rd.slice {t e:TypeId} {s b:Nat} {v:Value} (h:Rd enc P w held t [v]) (ht:P.underlying t=some (.slice e)) (ce:P.cellsOf e=s) (be:P.bytesOf e=b) (hs1:1<=s) (hsb:s<=b):
    ∃(n:Int) (c:Int->Value),Row w v s n c/\b*n<=140737488351232/\∀i:Int,0<=i->i<n->Rd enc P w held e ((List.range s).map fun j:Nat=>c (i*s+j)):=by
  obtain⟨fuel,y,h,hs⟩:=h
  rcases Go.Deep.open_slice ht h with⟨hcs,_⟩|⟨a,len,cap,m,n,D,Pl,hcs,_,hl,hm,hmm,hy,hx⟩
  · simp only [List.cons.injEq,and_true] at hcs
    subst hcs
    exact⟨0,fun _=>undef,⟨⟨by omega,by omega,none,0,rfl,.inl rfl⟩,fun k hk=>by rw [Int.zero_mul] at hk;omega⟩,by omega,fun i a0 a1=>by omega⟩
  · simp only [List.cons.injEq,and_true] at hcs
    subst hcs
    simp only [if_true] at hmm
    subst hmm
    rw [hy] at hs
    have hsm:=Zal hs ht
    have hb1:=hsm.1
    rw [be] at hb1
    simp only [List.length_map,List.length_range] at hb1
    have h2:len*b<=(len+(m-len))*b:=Nat.mul_le_mul_right _ (by omega)
    have h3:len*b<=140737488351232:=by unfold reachBytes at hb1;omega
    have h4:len*1<=len*b:=Nat.mul_le_mul_left _ (by omega)
    rw [ce] at hx
    have e0:∀i:Nat,∃cs':List Value,i<len->w.cells? 0 (a.add (i*s)) s=some cs'/\DataW.trod enc P w 0 (fun _=>true) held n e cs'=some (D i,Pl i):=fun i=>by
      by_cases hi:i<len
      · obtain⟨cs',h5,h6⟩:=hx i (by omega)
        exact⟨cs',fun _=>⟨h5,h6⟩⟩
      · exact⟨[],fun h=>absurd h hi⟩
    obtain⟨C,hC⟩:=Classical.axiomOfChoice e0
    have dN:0<len->a.spot=none:=fun h0=>by
      obtain⟨_,h7,h8⟩:=World.cells?_some (hC 0 h0).1
      have h9:=h8 0 (by omega)
      rw [List.getElem?_eq_getElem (by omega)] at h9
      have h10:=Zdj h9
      simpa [Addr.add] using h10
    refine⟨len,fun k=>(C (k/s).toNat).getD (k%s).toNat undef,⟨⟨by omega,by omega,some a,m,by simp,?_⟩,fun j hj=> ?_⟩,?_,fun i i0 i1=> ?_⟩
    · by_cases hl0:len=0
      · left;omega
      · right
        have hsp:=dN (by omega)
        exact⟨a.block,a.off,by cases a;simp at hsp;simp [hsp]⟩
    · have hjs:j<len*s:=by rw [<-Int.natCast_mul] at hj;omega
      have hi:j/s<len:=(Nat.div_lt_iff_lt_mul (by omega)).2 hjs
      have ep:0<len:=Nat.lt_of_le_of_lt (Nat.zero_le _) hi
      have hsp:=dN ep
      obtain⟨_,h7,h8⟩:=World.cells?_some (hC (j/s) hi).1
      have hr:j%s<s:=Nat.mod_lt _ (by omega)
      have h9:=h8 (j%s) hr
      rw [Addr.add_eq a hsp,Addr.add_eq _ rfl] at h9
      have e1:((j:Int)/(s:Int)).toNat=j/s:=by rw [<-Int.natCast_ediv,Int.toNat_natCast]
      have e2:((j:Int)%(s:Int)).toNat=j%s:=by rw [<-Int.natCast_emod,Int.toNat_natCast]
      have e3:a.off+j/s*s+j%s=a.off+j:=by rw [Nat.add_assoc,Nat.mul_comm,Nat.div_add_mod]
      rw [List.getElem?_eq_getElem (by omega)] at h9
      simp only [e1,e2,List.getD_eq_getElem?_getD]
      rw [List.getElem?_eq_getElem (by omega)]
      simp only [cad,Int.toNat_natCast,Option.getD_some]
      simp only [e3] at h9
      exact h9
    · have:((len*b:Nat):Int)=b*len:=by rw [Int.natCast_mul,Int.mul_comm]
      omega
    · obtain⟨k,rfl⟩:=Int.eq_ofNat_of_zero_le i0
      have hk:k<len:=by omega
      obtain⟨h5,h6⟩:=hC k hk
      obtain⟨_,h7,h8⟩:=World.cells?_some h5
      have e:((List.range s).map fun j:Nat=>(C (((k:Int)*(s:Int)+(j:Int))/(s:Int)).toNat).getD (((k:Int)*(s:Int)+(j:Int))%(s:Int)).toNat undef)=C k:=by
        apply List.ext_getElem
        · simp [h7]
        · intro j hj1 hj2
          rw [List.getElem_map,List.getElem_range]
          have hjs:j<s:=by simpa using hj1
          have e0:((k:Int)*(s:Int)+(j:Int))=((k*s+j:Nat):Int):=by rw [Int.natCast_add,Int.natCast_mul]
          have e1:(((k*s+j:Nat):Int)/(s:Int)).toNat=k:=by
            rw [<-Int.natCast_ediv,Int.toNat_natCast,Nat.mul_comm,Nat.mul_add_div (by omega),Nat.div_eq_of_lt hjs,Nat.add_zero]
          have e2:(((k*s+j:Nat):Int)%(s:Int)).toNat=j:=by
            rw [<-Int.natCast_emod,Int.toNat_natCast,Nat.mul_comm,Nat.mul_add_mod,Nat.mod_eq_of_lt hjs]
          rw [e0,e1,e2,List.getD_eq_getElem?_getD,List.getElem?_eq_getElem hj2,Option.getD_some]
      rw [e]
      exact⟨n,_,h6,hsm.2 (D k) (List.mem_map.2 ⟨k,List.mem_range.2 hk,rfl⟩)⟩
theorem Rd.field{fs:Array Field}{t u:TypeId}{cs ds:List Value}(h:Rd enc P w held t cs)(ht:P.underlying t=some (.struct fs))(j:Nat){f:Field}(hf:fs[j]? =some f){k:Nat}(hu:f.type=u)(hk:P.cellsOf u=k)(hd:(cs.drop f.offset).take k=ds):Rd enc P w held u ds:=by
  subst hu;subst hd;rw [<-hk];exact h.struct ht j f hf
theorem Zbw{cs:Array Value}{l:List Value}(h:cs.toList=l):cs=l.toArray:=by subst h;simp
theorem Rd.arg{t:TypeId}{v:Value}{d:DataW H}{p:List MemPlace}(h:DataW.Trod enc P w 0 (fun _=>true) held t v d p)(hs:Small P t d):Rd enc P w held t v.cells.toList:=by
  obtain⟨fuel,hf⟩:=h
  exact⟨fuel,_,hf,hs⟩
theorem Zmc{cs:List Value}(h:cs.length=5):∃a b c d e,cs= [a,b,c,d,e]:=by match cs,h with| [a,b,c,d,e],_=>exact⟨_,_,_,_,_,rfl⟩
theorem Rd.nums{k:IntKind}{t e:TypeId}{b:Nat}{v:Value}(h:Rd enc P w held t [v])(ht:P.underlying t=some (.slice e))(he:P.underlying e=some (.int k))(hc:P.cellsOf e=1)(hb:P.bytesOf e=b)(hb1:1<=b):
    ∃(n:Int) (f:Int->Int),Row w v 1 n (fun j=> .int k (f j))/\b*n<=140737488351232/\∀j,(Lit.int k (f j)).wf=true:=by
  obtain⟨n,c,h1,h2,h3⟩:=h.slice ht hc hb (by omega) hb1
  have h0:(Lit.int k 0).wf=true:=by cases k<;>decide
  have e0:∀i:Int,∃x:Int,(Lit.int k x).wf=true/\(0<=i->i<n->c i= .int k x):=fun i=>by
    by_cases hi:0<=i/\i<n
    · have h4:=h3 i hi.1 hi.2
      simp only [List.range_one,List.map_cons,List.map_nil] at h4
      obtain⟨x,hx,hw⟩:=h4.intv he
      refine⟨x,hw,fun _ _=> ?_⟩
      rw [<-hx];congr 1;omega
    · exact⟨0,h0,fun a0 a1=>absurd ⟨a0,a1⟩ hi⟩
  obtain⟨f,hf⟩:=Classical.axiomOfChoice e0
  exact⟨n,f,h1.congr fun i i0 i1=>(hf i).2 i0 (by omega),h2,fun j=>(hf j).1⟩
theorem Rd.ints{t e:TypeId}{v:Value}(h:Rd enc P w held t [v])(ht:P.underlying t=some (.slice e))(he:P.underlying e=some (.int .i64))(hc:P.cellsOf e=1)(hb:P.bytesOf e=8):∃(n:Int) (f:Int->Int),IAt w v n f:=by
  obtain⟨n,f,h1,_,h2⟩:=h.nums ht he hc hb (by omega)
  exact⟨n,f,h1,fun k=>R6 (h2 k)⟩
end
end Go.Proofs.Gw
