import Derived.Test.YtpnamgfdakfccaaGreatTgG
import Derived.Test.YtpnamgfdakfccaaGreatProg
import Derived.ProofKit
import Derived.OpenShut
import Derived.ChangeOld
import Derived.SizedLaws
import Derived.Lib.SmallJoins
import Derived.Deep.Slices
set_option linter.unusedVariables false
set_option linter.unusedSimpArgs false
set_option maxRecDepth 20000
set_option maxHeartbeats 4000000
namespace Go.Proofs.Ev
open Go Go.RowKit Go.Proofs.Gw
noncomputable section
mutual
def uH:V->List Nat
  | .p k _=> [k]
  | .s k _ _ _=> [k]
  | .su k _=> [k]
  | .so k _ _=> [k]
  | .yl k=> [k]
  | .mp k=> [k]
  | .fn _ l=>Xg l
  | .agg l=>Xg l
  | .ru l=>Xg l
  |_=> []
def Xg:List V->List Nat
  | []=> []
  |v::l=>uH v++Xg l
end
mutual
def uh(σ:Nat->Nat):V->V
  | .p k o=> .p (σ k) o
  | .s k o n c=> .s (σ k) o n c
  | .su k n=> .su (σ k) n
  | .so k o n=> .so (σ k) o n
  | .yl k=> .yl (σ k)
  | .mp k=> .mp (σ k)
  | .fn f l=> .fn f (VE σ l)
  | .agg l=> .agg (VE σ l)
  | .ru l=> .ru (VE σ l)
  | .bool b=> .bool b
  | .int k n=> .int k n
  | .pn=> .pn
  | .sn=> .sn
  | .nf=> .nf
  | .str s=> .str s
def VE(σ:Nat->Nat):List V->List V
  | []=> []
  |v::l=>uh σ v::VE σ l
end
mutual
theorem O0{β D:Env}{σ:Nat->Nat}:∀{v:V} {u:Value},(∀k∈uH v,∀p,β k=some p->D (σ k)=some p)->VR β v u->VR D (uh σ v) u
 | .bool b,_,h,e=>by cases e;simp only [uh];constructor
 | .int k n,_,h,e=>by cases e;simp only [uh];constructor
 | .pn,_,h,e=>by cases e;simp only [uh];constructor
 | .p k o,_,h,e=>by cases e with|p e=>simp only [uh];exact .p (h _ (by simp [uH]) _ e)
 | .sn,_,h,e=>by cases e;simp only [uh];constructor
 | .s k o n c,_,h,e=>by cases e with|s e=>simp only [uh];exact .s (h _ (by simp [uH]) _ e)
 | .su k n,_,h,e=>by cases e with|su e l=>simp only [uh];exact .su (h _ (by simp [uH]) _ e) l
 | .so k o n,_,h,e=>by cases e with|so e l o=>simp only [uh];exact .so (h _ (by simp [uH]) _ e) l o
 | .fn f l,_,h,e=>by cases e with|fn e=>simp only [uh];exact .fn (Rc (by simpa [uH] using h) e)
 | .yl k,_,h,e=>by cases e with|yl e=>simp only [uh];exact .yl (h _ (by simp [uH]) _ e)
 | .mp k,_,h,e=>by cases e with|mp e=>simp only [uh];exact .mp (h _ (by simp [uH]) _ e)
 | .nf,_,h,e=>by cases e;simp only [uh];constructor
 | .str s,_,h,e=>by cases e;simp only [uh];constructor
 | .agg l,_,h,e=>by cases e with|agg e=>simp only [uh];exact .agg (Rc (by simpa [uH] using h) e)
 | .ru l,_,h,e=>by cases e with|ru e=>simp only [uh];exact .ru (Rc (by simpa [uH] using h) e)
theorem Rc{β D:Env}{σ:Nat->Nat}:∀{l:List V} {us:List Value},(∀k∈Xg l,∀p,β k=some p->D (σ k)=some p)->oL β l us->oL D (VE σ l) us
 | [],_,h,e=>by cases e;simp only [VE];exact .nil
 | v::l,_,h,e=>by
   cases e with
   |cons a b=>simp only [VE];exact .cons (O0 (fun k F=>h k (by simp [Xg,F])) a) (Rc (fun k F=>h k (by simp [Xg,F])) b)
end
mutual
theorem Zma{β D:Env}{σ:Nat->Nat}:∀{v:V} {u:Value},(∀k∈uH v,∀p,β (σ k)=some p->D k=some p)->VR β (uh σ v) u->VR D v u
 | .bool b,_,h,e=>by simp only [uh] at e;cases e;constructor
 | .int k n,_,h,e=>by simp only [uh] at e;cases e;constructor
 | .pn,_,h,e=>by simp only [uh] at e;cases e;constructor
 | .p k o,_,h,e=>by simp only [uh] at e;cases e with|p e=>exact .p (h _ (by simp [uH]) _ e)
 | .sn,_,h,e=>by simp only [uh] at e;cases e;constructor
 | .s k o n c,_,h,e=>by simp only [uh] at e;cases e with|s e=>exact .s (h _ (by simp [uH]) _ e)
 | .su k n,_,h,e=>by simp only [uh] at e;cases e with|su e l=>exact .su (h _ (by simp [uH]) _ e) l
 | .so k o n,_,h,e=>by simp only [uh] at e;cases e with|so e l o=>exact .so (h _ (by simp [uH]) _ e) l o
 | .fn f l,_,h,e=>by simp only [uh] at e;cases e with|fn e=>exact .fn (Uc (by simpa [uH] using h) e)
 | .yl k,_,h,e=>by simp only [uh] at e;cases e with|yl e=>exact .yl (h _ (by simp [uH]) _ e)
 | .mp k,_,h,e=>by simp only [uh] at e;cases e with|mp e=>exact .mp (h _ (by simp [uH]) _ e)
 | .nf,_,h,e=>by simp only [uh] at e;cases e;constructor
 | .str s,_,h,e=>by simp only [uh] at e;cases e;constructor
 | .agg l,_,h,e=>by simp only [uh] at e;cases e with|agg e=>exact .agg (Uc (by simpa [uH] using h) e)
 | .ru l,_,h,e=>by simp only [uh] at e;cases e with|ru e=>exact .ru (Uc (by simpa [uH] using h) e)
theorem Uc{β D:Env}{σ:Nat->Nat}:∀{l:List V} {us:List Value},(∀k∈Xg l,∀p,β (σ k)=some p->D k=some p)->oL β (VE σ l) us->oL D l us
 | [],_,h,e=>by simp only [VE] at e;cases e;exact .nil
 | v::l,_,h,e=>by
   simp only [VE] at e
   cases e with
   |cons a b=>exact .cons (Zma (fun k F=>h k (by simp [Xg,F])) a) (Uc (fun k F=>h k (by simp [Xg,F])) b)
end
mutual
theorem VR.plain{β D:Env}:∀{v:V} {u:Value},uH v= []->VR β v u->VR D v u
 | .bool b,_,h,e=>by cases e;constructor
 | .int k n,_,h,e=>by cases e;constructor
 | .pn,_,h,e=>by cases e;constructor
 | .p k o,_,h,e=>by simp [uH] at h
 | .sn,_,h,e=>by cases e;constructor
 | .s k o n c,_,h,e=>by simp [uH] at h
 | .su k n,_,h,e=>by simp [uH] at h
 | .so k o n,_,h,e=>by simp [uH] at h
 | .fn f l,_,h,e=>by cases e with|fn e=>exact .fn (oL.plain (by simpa [uH] using h) e)
 | .yl k,_,h,e=>by simp [uH] at h
 | .mp k,_,h,e=>by simp [uH] at h
 | .nf,_,h,e=>by cases e;constructor
 | .str s,_,h,e=>by cases e;constructor
 | .agg l,_,h,e=>by cases e with|agg e=>exact .agg (oL.plain (by simpa [uH] using h) e)
 | .ru l,_,h,e=>by cases e with|ru e=>exact .ru (oL.plain (by simpa [uH] using h) e)
theorem oL.plain{β D:Env}:∀{l:List V} {us:List Value},Xg l= []->oL β l us->oL D l us
 | [],_,h,e=>by cases e;exact .nil
 | v::l,_,h,e=>by
   cases e with
   | cons a b=>
     simp only [Xg,List.append_eq_nil_iff] at h
     exact .cons (VR.plain h.1 a) (oL.plain h.2 b)
end
structure uy where
  xs:List V
  k:Nat
  x0:X
  v:V
  rs:List (Nat×List V×Nat×Option Nat)
  c:Nat
def nd:List Nat->Bool
  | []=>true
  |a::l=> !l.any (Nat.beq a)&&nd l
theorem QH:∀{l:List Nat},nd l=true->∀{i j a:Nat},l[i]? =some a->l[j]? =some a->i=j
 | [],_,i,j,a,hi,_=>by simp at hi
 | b::l,h,i,j,a,hi,hj=>by
   simp only [nd,Bool.and_eq_true,Bool.not_eq_true'] at h
   have no:∀{n:Nat},l[n]? =some b->False:=fun hn=>by
     have h1:=List.mem_of_getElem? hn
     rw [List.any_eq_false] at h
     exact h.1 b h1 (Nat.beq_refl b)
   cases i with
   | zero=>
     cases j with
     |zero=>rfl
     |succ j=>simp at hi hj;subst hi;exact(no hj).elim
   | succ i=>
     cases j with
     |zero=>simp at hi hj;subst hj;exact(no hi).elim
     |succ j=>simp at hi hj;rw [QH h.2 hi hj]
def eqN:Option Nat->Option Nat->Bool
  |none,none=>true
  |some a,some b=>Nat.beq a b
  |_,_=>false
theorem Qe:∀{a b:Option Nat},eqN a b=true->a=b
 |none,none,_=>rfl
 |some a,some b,h=>by rw [show a=b from ZM.1 h]
 |none,some _,h=>by cases h
 |some _,none,h=>by cases h
def Zq3:List Nat->Bool
  | []=>true
  |_=>false
def Jj(x:X)(j:Nat)(x0:X)(i:Nat):Bool:=match x.get j,x0.get i with
  |some (.cells l E o),some (.cells l' E' o')=>U0 l l'&&Nat.beq E E'&&eqN o o'&&Zq3 (Xg l')
  |_,_=>false
theorem KS{x D:X}{j i:Nat}(h:Jj x j D i=true):∃l E o,x.get j=some (.cells l E o)/\D.get i=some (.cells l E o)/\Xg l= []:=by
 unfold Jj at h
 split at h
 {
 rename_i l E o I J o' h1 F
 simp only [Bool.and_eq_true] at h
 obtain⟨⟨⟨a,b⟩,c⟩,d⟩:=h
 have:=X7 a;subst this
 rw [ZM] at b;subst b
 have:=Qe c;subst this
 refine⟨_,_,_,h1,F,?_⟩
 cases hn:Xg l with
 |nil=>rfl
 |cons a r=>rw [hn] at d;cases d}
 · cases h
def Fp(x:X)(x0:X):List Nat->Nat->Bool
  | [],_=>true
  |j::l,i=>Jj x j x0 i&&Fp x x0 l (i+1)
theorem L6{x D:X}:∀{l:List Nat} {i:Nat},Fp x D l i=true->∀{n j:Nat},l[n]? =some j->Jj x j D (i+n)=true
 | [],i,h,n,j,hj=>by simp at hj
 | a::l,i,h,n,j,hj=>by
   simp only [Fp,Bool.and_eq_true] at h
   cases n with
   |zero=>simp at hj;subst hj;exact h.1
   |succ n=>simp at hj;have:=L6 h.2 hj;rwa [show i+(n+1)=i+1+n by omega]
def ren(L:List Nat)(k C:Nat)(j:Nat):Nat:=bif Nat.blt j k then L.getD j 0 else C+(j-k)
def Tp(ρ:Nat->Nat):List (Nat×List V×Nat×Option Nat)->X->X
  | [],x=>x
  |(j,l,E,o)::r,x=>(Tp ρ r x).set (ρ j) (.cells (VE ρ l) E o)
theorem T9{ρ:Nat->Nat}{x:X}{i:Nat}:∀{rs:List (Nat×List V×Nat×Option Nat)},(∃j l E o,(j,l,E,o)∈rs/\ρ j=i/\(Tp ρ rs x).get i=some (.cells (VE ρ l) E o))\/((∀q∈rs,ρ q.1≠i)/\(Tp ρ rs x).get i=x.get i)
 | []=> .inr ⟨by simp,rfl⟩
 | (j,l,E,o)::r=>by
   have e:(Tp ρ ((j,l,E,o)::r) x).get i=if ρ j=i then some (.cells (VE ρ l) E o) else(Tp ρ r x).get i:=by
     simp only [Tp,X.lN]
   by_cases h:ρ j=i
   · exact .inl ⟨j,l,E,o,by simp,h,by rw [e,if_pos h]⟩
   {
   rw [if_neg h] at e
   rcases T9 (ρ:=ρ) (x:=x) (i:=i) (rs:=r) with⟨j',l',E',o',h1,h2,h3⟩|⟨h1,h2⟩
   · exact .inl ⟨j',l',E',o',by simp [h1],h2,by rw [e,h3]⟩
   {
   exact .inr ⟨fun q D=>by
     rcases List.mem_cons.1 D with rfl|D
     · exact h
     · exact h1 q D,by rw [e,h2]⟩}}
theorem QC{ρ:Nat->Nat}{x:X}:∀{rs:List (Nat×List V×Nat×Option Nat)},(Tp ρ rs x).c=x.c
 | []=>rfl
 | (j,l,E,o)::r=>by
   have:(Tp ρ ((j,l,E,o)::r) x).c=(Tp ρ r x).c:=by
     simp only [Tp];generalize Tp ρ r x=y;cases y;rfl
   rw [this,QC]
def JV(M:uy)(xs:List V)(x:X):Option (V×X):=
  bif Nat.beq (Xg xs).length M.k&&(nd (Xg xs)&&(U0 (VE (ren (Xg xs) M.k x.c) M.xs) xs&&Fp x M.x0 (Xg xs) 0)) then
    some (uh (ren (Xg xs) M.k x.c) M.v,Tp (ren (Xg xs) M.k x.c) M.rs (x.bump (M.c-M.k)))
  else none
def E5(P:Program)(f:Nat)(M:uy):Prop:=∀{w0:Base} {β:Env} {x:X} {w:World} {xs:List V} {us:List Value} {v:V} {x':X},JV M xs x=some (v,x')->HR w0 β x w->oL β xs us->Calls P f us.toArray w (DN w0 β x.c v x')
def EP:Nat->List Nat
  |0=> []
  |n+1=>EP n++ [n]
theorem V6:∀n,(EP n).length=n
 |0=>rfl
 |n+1=>by simp [EP,V6 n]
theorem ZbQ:∀{n i:Nat},i<n->(EP n)[i]? =some i
 | n+1,i,h=>by
   by_cases e:i=n
   {
   subst e
   simp only [EP]
   rw [List.getElem?_append_right (by rw [V6];exact Nat.le_refl _),V6];simp}
   {
   simp only [EP]
   rw [List.getElem?_append_left (by rw [V6];omega)]
   exact ZbQ Oa}
def EF(M:uy)(n:Nat):Bool:=Nat.blt n M.k||M.rs.any (fun q=>Nat.beq q.1 n)
def Il(M:uy)(x1:X):List (Nat×List V×Nat×Option Nat)->Bool
  | []=>true
  | (j,l,E,o)::r=>(match x1.get j with
    |some (.cells l' E' o')=>Nat.ble M.k j&&(U0 l' l&&(Nat.beq E' E&&(eqN o' o&&(Xg l).all (EF M))))
    |_=>false)&&Il M x1 r
theorem Q5{M:uy}{F:X}:∀{rs:List (Nat×List V×Nat×Option Nat)},Il M F rs=true->∀{j l E o},(j,l,E,o)∈rs->F.get j=some (.cells l E o)/\M.k<=j/\∀n∈Xg l,EF M n=true
 | [],h,j,l,E,o,D=>by cases D
 | (j',l',E',o')::r,h,j,l,E,o,D=>by
   simp only [Il,Bool.and_eq_true] at h
   rcases List.mem_cons.1 D with J|D
   {
   cases J
   have h1:=h.1
   split at h1
   {
   rename_i l2 O N I
   simp only [Bool.and_eq_true] at h1
   obtain⟨a,b,c,d,e⟩:=h1
   have:=X7 b;subst this
   rw [ZM] at c;subst c
   have:=Qe d;subst this
   rw [ZU] at a
   exact⟨I,a,fun n hn=>List.all_eq_true.1 e n hn⟩}
   · cases h1}
   · exact Q5 h.2 D
def EM(K:Kit)(f:Nat)(M:uy):Bool:=match K.call f M.xs M.x0 with
  |some (v,x1)=>Nat.beq M.x0.c M.k&&(xq v M.v&&(Nat.ble x1.c M.c&&(Il M x1 M.rs&&(Fp x1 M.x0 (EP M.k) 0&&((uH v).all (EF M)&&(Xg M.xs).all (fun n=>Nat.blt n M.k))))))
  |none=>false
section
variable {P:Program} {K:Kit}
theorem Zmn{M:uy}{n:Nat}(h:EF M n=true):n<M.k\/∃q∈M.rs,q.1=n:=by
 simp only [EF,Bool.or_eq_true,Nat.blt_eq,List.any_eq_true] at h
 rcases h with h|⟨q,h1,D⟩
 · exact .inl h
 · exact .inr ⟨q,h1,ZM.1 D⟩
theorem Zj0(hK:Cb P K){f:Nat}{M:uy}(hc:EM K f M=true):E5 P f M:=by
 intro w0 β x w xs us v x' hu h hv
 unfold EM at hc
 split at hc
 case h_2=>cases hc
 rename_i v1 x1 qU
 simp only [Bool.and_eq_true] at hc
 obtain⟨c0,c1,c2,c3,c4,c5,c6⟩:=hc
 have:=I8 c1;subst this
 rw [ZM] at c0
 rw [ZU] at c2
 unfold JV at hu
 generalize hL:Xg xs=L at hu
 cases D:(Nat.beq L.length M.k&&(nd L&&(U0 (VE (ren L M.k x.c) M.xs) xs&&Fp x M.x0 L 0))) with
 |false=>rw [D] at hu;cases hu
 |true=>
 rw [D] at hu
 simp only [cond_true,Option.some.injEq,Prod.mk.injEq] at hu
 simp only [Bool.and_eq_true] at D
 obtain⟨b1,b2,b3,b4⟩:=D
 rw [ZM] at b1
 have ae:=X7 b3
 obtain⟨af,ab⟩:=hu
 generalize hρ:ren L M.k x.c=ρ at af ab ae
 have Z:∀{i},i<M.k->L[i]? =some (ρ i):=fun {i} hi=>by
   have:i<L.length:=Oa
   have an:Nat.blt i M.k=true:=by rw [Nat.blt_eq];exact hi
   rw [<-hρ];simp [ren,an,List.getElem?_eq_getElem this]
 have U:∀{j},M.k<=j->ρ j=x.c+(j-M.k):=fun {j} F=>by
   have:Nat.blt j M.k=false:=by
     cases N:Nat.blt j M.k with
     |false=>rfl
     |true=>rw [Nat.blt_eq] at N;omega
   rw [<-hρ];simp [ren,this]
 have aa:∀{i},i<M.k->∃l E o,x.get (ρ i)=some (.cells l E o)/\M.x0.get i=some (.cells l E o)/\Xg l= []:=fun {i} hi=>by
   have:=KS (L6 b4 (Z hi))
   rwa [Nat.zero_add] at this
 have gw:∀{i},i<M.k->∃l E o,x1.get i=some (.cells l E o)/\M.x0.get i=some (.cells l E o)/\Xg l= []:=fun {i} hi=>by
   have:=KS (L6 c4 (ZbQ hi))
   rwa [Nat.zero_add] at this
 have ad:∀{i j},i<M.k->j<M.k->ρ i=ρ j->i=j:=fun {i j} hi F e=>QH b2 (Z hi) (by rw [e];exact Z F)
 let uz:Env:=fun i=>if i<M.k then β (ρ i) else none
 let B:Base:=⟨w,fun b=>∃i c,i<M.k/\β (ρ i)=some (b,c)⟩
 have h0:HR B uz M.x0 w:=by
   refine⟨⟨rfl,rfl,rfl,Nat.le_refl _,fun _ _ _=>rfl⟩,fun {i b c o} D hk=> ?_,fun {i j b c c' o o'} a1 a2 a3 a4=> ?_,fun {i b c} D=> ?_⟩
   {
   by_cases hi:i<M.k
   {
   have ah:β (ρ i)=some (b,c):=by simpa [uz,hi] using D
   obtain⟨l,E,oo,O,Y,g3⟩:=aa hi
   rw [Y] at hk;cases hk
   obtain⟨_,ob,k1,l1,l2,k2,k3,k4⟩:=h.obj ah O
   exact⟨.inr ⟨i,c,hi,ah⟩,ob,k1,l1,l2,k2,k3.plain g3,k4⟩}
   · simp [uz,hi] at D}
   {
   by_cases hi:i<M.k
   {
   by_cases F:j<M.k
   {
   have e1:β (ρ i)=some (b,c):=by simpa [uz,hi] using a1
   have e2:β (ρ j)=some (b,c'):=by simpa [uz,F] using a2
   obtain⟨_,_,_,O,_,_⟩:=aa hi
   obtain⟨_,_,_,Y,_,_⟩:=aa F
   exact ad hi F (h.inj e1 e2 O Y)}
   · simp [uz,F] at a2}
   · simp [uz,hi] at a1}
   {
   by_cases hi:i<M.k
   · have e1:β (ρ i)=some (b,c):=by simpa [uz,hi] using D
     exact⟨by rw [c0];exact hi,(h.lt e1).2⟩
   · simp [uz,hi] at D}
 have aj:oL uz M.xs us:=by
   rw [<-ae] at hv
   refine Uc (fun n hn p J=> ?_) hv
   have:n<M.k:=by
     have:=List.all_eq_true.1 c6 n hn
     simpa [Nat.blt_eq] using this
   simpa [uz,this] using J
 refine(hK.call qU h0 aj).mono fun e w' hE=> ?_
 obtain⟨u,β',rfl,h1,h2,h3,h4⟩:=hE
 rw [c0] at h3 h4
 have old:∀{i p},i<M.k->(β' i=some p↔β (ρ i)=some p):=fun {i p} hi=>by rw [h4 i hi];simp [uz,hi]
 let Bv:Env:=fun j=>if j<x.c then β j else if M.rs.any (fun q=>Nat.beq (ρ q.1) j) then β' (j-x.c+M.k) else none
 have lo:∀{j},j<x.c->Bv j=β j:=fun {j} F=>by simp [Bv,F]
 have I:∀{j l E o},(j,l,E,o)∈M.rs->x1.get j=some (.cells l E o)/\M.k<=j/\∀n∈Xg l,EF M n=true:=fun hm=>Q5 c3 hm
 have ag:∀{q},q∈M.rs->Bv (ρ q.1)=β' q.1:=fun {q} N=>by
   obtain⟨j,l,E,o⟩:=q
   have F:=(I N).2.1
   have e:=U F
   have hn:¬ρ j<x.c:=Oa
   have ha:M.rs.any (fun q=>Nat.beq (ρ q.1) (ρ j))=true:=List.any_eq_true.2 ⟨_,N,Nat.beq_refl _⟩
   simp only [Bv,hn,if_false,ha,if_true]
   rw [e];congr 1;omega
 have back:∀{j p},¬j<x.c->Bv j=some p->∃q∈M.rs,ρ q.1=j/\β' q.1=some p:=fun {j p} F J=>by
   cases ha:M.rs.any (fun q=>Nat.beq (ρ q.1) j) with
   |false=>simp [Bv,F,ha] at J
   | true=>
     obtain⟨q,N,e⟩:=List.any_eq_true.1 ha
     rw [ZM] at e
     refine⟨q,N,e,?_⟩
     rw [<-ag N,e];exact J
 have fw:∀{n p},EF M n=true->β' n=some p->Bv (ρ n)=some p:=fun {n p} hn J=>by
   rcases Zmn hn with hn|⟨q,N,rfl⟩
   {
   have D:=(old hn).1 J
   obtain⟨b,c⟩:=p
   rw [lo (h.lt D).1];exact D}
   · rw [ag N];exact J
 have ext:Ext β Bv:=fun j p J=>by
   obtain⟨b,c⟩:=p
   rw [lo (h.lt J).1];exact J
 have own:∀{b},B.own b->w0.own b:=fun {b} D=>by
   rcases D with D|⟨i,c,hi,D⟩
   · exact .inl (Nat.le_trans h.below.size D)
   · obtain⟨_,_,_,O,_,_⟩:=aa hi
     exact(h.obj D O).1
 have gx:∀{j o},j<x.c->x'.get j=some o->x.get j=some o:=fun {j o} F ho=>by
   rw [<-ab] at ho
   rcases T9 (ρ:=ρ) (x:=x.bump (M.c-M.k)) (i:=j) (rs:=M.rs) with⟨j',l',E',o',O,Y,g3⟩|⟨O,Y⟩
   · have:=U (I O).2.1;omega
   · rw [Y] at ho
     cases x;exact ho
 have gn:∀{q j o},q∈M.rs->ρ q.1=j->x'.get j=some o->∃l E oo,(q.1,l,E,oo)∈M.rs/\o= .cells (VE ρ l) E oo:=fun {q j o} N e ho=>by
   rw [<-ab] at ho
   rcases T9 (ρ:=ρ) (x:=x.bump (M.c-M.k)) (i:=j) (rs:=M.rs) with⟨j',l',E',o',O,Y,g3⟩|⟨O,Y⟩
   {
   obtain⟨j,l,E,oo⟩:=q
   have e1:=U (I O).2.1
   have e2:=U (I N).2.1
   have e3:=(I O).2.1
   have e4:=(I N).2.1
   have:j'=j:=by
     have:ρ j=ρ j':=by rw [Y];exact e
     omega
   subst this
   rw [g3] at ho;cases ho
   exact⟨_,_,_,O,rfl⟩}
   · exact absurd e (O q N)
 have hsz:w.heap.size<=w'.heap.size:=h2.below.size
 have ap:x'.c=x.c+(M.c-M.k):=by rw [<-ab,QC];cases x;rfl
 refine⟨u,Bv,rfl,?_,⟨?_,fun {j b c o} D hk=> ?_,fun {j j' b c c' o o'} a1 a2 a3 a4=> ?_,fun {j b c} D=> ?_⟩,Oa,fun j F=>lo F⟩
 {
 rw [<-af]
 exact O0 (fun n hn p J=>fw (List.all_eq_true.1 c5 n hn) J) h1}
 {
 have D:=h2.below
 refine⟨D.os.trans h.below.os,D.tape.trans h.below.tape,D.output.trans h.below.output,Nat.le_trans h.below.size D.size,fun j F hU=> ?_⟩
 rw [<-h.below.block j F hU]
 refine D.block j (Nat.lt_of_lt_of_le F h.below.size) fun⟨i,c,hi,W⟩=> ?_
 rcases own (.inr ⟨i,c,hi,W⟩) with g|g
 · omega
 · exact hU g}
 {
 by_cases F:j<x.c
 {
 rw [lo F] at D
 have ac:=gx F hk
 obtain⟨O,ob,Y,g3⟩:=h.obj D ac
 by_cases hU:B.U b
 {
 obtain⟨i,c',hi,W⟩:=hU
 obtain⟨l,E,oo,k1,k2,k3⟩:=aa hi
 obtain⟨l',E',ao,m1,m2,m3⟩:=gw hi
 have e:=h.inj D W ac k1
 subst e
 rw [k2] at m2;cases m2
 rw [k1] at ac;cases ac
 rw [D] at W;cases W
 obtain⟨_,ai,n1,l1,l2,n2,n3,n4⟩:=h2.obj ((old hi).2 D) m1
 exact⟨O,ai,n1,l1,l2,n2,n3.plain k3,n4⟩}
 · refine⟨O,ob,?_,g3.mono ext⟩
   rw [h2.below.block b (h.lt D).2 hU];exact Y}
 {
 obtain⟨q,N,e,J⟩:=back F D
 obtain⟨l,E,oo,hm,rfl⟩:=gn N e hk
 obtain⟨O,ob,Y,l1,l2,g3,g4,g5⟩:=h2.obj J (I hm).1
 exact⟨own O,ob,Y,l1,l2,g3,Rc (fun n hn p J=>fw ((I hm).2.2 n hn) J) g4,g5⟩}}
 {
 have mix:∀{j j' b c c' o o'},j<x.c->¬j'<x.c->Bv j=some (b,c)->Bv j'=some (b,c')->x'.get j=some o->x'.get j'=some o'->False:=fun {j j' b c c' o o'} F hj' a1 a2 a3 a4=>by
   rw [lo F] at a1
   obtain⟨q,N,e,J⟩:=back hj' a2
   obtain⟨l,E,oo,hm,_⟩:=gn N e a4
   rcases(h2.obj J (I hm).1).1 with g|⟨i,c2,hi,W⟩
   · have g':w.heap.size<=b:=g
     have:=(h.lt a1).2;omega
   {
   obtain⟨_,_,_,m1,_,_⟩:=gw hi
   have:=h2.inj ((old hi).2 W) J m1 (I hm).1
   have:=(I hm).2.1
   omega}
 by_cases F:j<x.c
 {
 by_cases hj':j'<x.c
 · rw [lo F] at a1;rw [lo hj'] at a2
   exact h.inj a1 a2 (gx F a3) (gx hj' a4)
 · exact(mix F hj' a1 a2 a3 a4).elim}
 {
 by_cases hj':j'<x.c
 · exact(mix hj' F a2 a1 a4 a3).elim
 {
 obtain⟨q,N,e,J⟩:=back F a1
 obtain⟨q',ak,e',al⟩:=back hj' a2
 obtain⟨_,_,_,hm,_⟩:=gn N e a3
 obtain⟨_,_,_,am,_⟩:=gn ak e' a4
 rw [<-e,<-e',h2.inj J al (I hm).1 (I am).1]}}}
 {
 by_cases F:j<x.c
 {
 rw [lo F] at D
 have:=h.lt D
 omega}
 {
 obtain⟨q,N,e,J⟩:=back F D
 have g:=h2.lt J
 obtain⟨n,l,E,oo⟩:=q
 have e2:M.k<=n:=(I N).2.1
 have e1:ρ n=x.c+(n-M.k):=U e2
 have e':ρ n=j:=e
 have O:n<x1.c:=g.1
 exact⟨by omega,g.2⟩}}
def Ij:List uy->List V->X->Option (V×X)
  | [],_,_=>none
  | M::r,xs,x=>match JV M xs x with
    |some p=>some p
    |none=>Ij r xs x
def JY(Ms:Nat->List uy)(go:Nat->List V->X->Option (V×X))(f:Nat)(xs:List V)(x:X):Option (V×X):=match Ms f with
  | []=>go f xs x
  | M::r=>match Ij (M::r) xs x with
    |some p=>some p
    |none=>go f xs x
def GL(P:Program)(kp:Nat->Nat)(m:Nat)(Ms:Nat->List uy):Nat->Kit
  |0=>⟨0,fun _ _ _=>none,fun _ _ _=>none⟩
  |n+1=>⟨m,JY Ms (Gm (GL P kp m Ms n) P kp),H_ (GL P kp m Ms n) P⟩
theorem R_{f:Nat}{D:List V}{x x':X}{v:V}:∀{l:List uy},(∀M∈l,E5 P f M)->Ij l D x=some (v,x')->∀{w0:Base} {β:Env} {w:World} {us:List Value},HR w0 β x w->oL β D us->Calls P f us.toArray w (DN w0 β x.c v x')
 | [],_,h,_,_,_,_,_,_=>by cases h
 | M::r,hM,h,w0,β,w,us,hr,hv=>by
   simp only [Ij] at h
   split at h
   {
   rename_i p F
   injection h with h;subst h
   exact hM M (by simp) F hr hv}
   · exact R_ (fun J I=>hM J (by simp [I])) h hr hv
theorem TE(I:P.follows .mixedOrders=true)(F:Nat->Nat)(m:Nat){Ms:Nat->List uy}(hM:∀f,∀M∈Ms f,E5 P f M):∀n,Cb P (GL P F m Ms n)
 |0=>⟨fun h=>(by cases h),fun h=>(by cases h)⟩
 |n+1=>⟨fun {f xs x v x'} h=>fun {w0 β w us} hr hv=>by
     have D:JY Ms (Gm (GL P F m Ms n) P F) f xs x=some (v,x'):=h
     unfold JY at D
     split at D
     · exact LP (TE I F m hM n) I D hr hv
     {
     rename_i M r N
     split at D
     · rename_i p O
       injection D with D;subst D
       exact R_ (fun U J=>hM f U (by rw [N];exact J)) O hr hv
     · exact LP (TE I F m hM n) I D hr hv},fun h=>fun {w0 β w us b c} hr hv N=>Qh (TE I F m hM n) I h hr hv N⟩
def Js(b:Bool):Option (V×X)->Bool
  |some (.bool c,_)=>c==b
  |_=>false
theorem ZjG(N:Cb P K){f:Nat}{b:Bool}(F:Js b (K.call f [] ⟨T.mk 13,0⟩)=true)(w0:World):Calls P f #[] w0 fun e w=>e= .returned (.bool b)/\Sat w0 w []:=by
 unfold Js at F
 split at F
 {
 rename_i c x' hc
 have hr:HR ⟨w0,fun _=>False⟩ (fun _=>none) ⟨T.mk 13,0⟩ w0:=⟨⟨rfl,rfl,rfl,Nat.le_refl _,fun _ _ _=>rfl⟩,fun h=>(by cases h),fun h=>(by cases h),fun h=>(by cases h)⟩
 refine(N.call hc hr (us:= []) .nil).mono fun e w O=> ?_
 obtain⟨u,I,rfl,h1,D,_⟩:=O
 cases h1
 have:c=b:=by simpa using F
 subst this
 exact⟨rfl,⟨D.below.os,D.below.tape,D.below.output,D.below.size,fun k J=>D.below.block k J (fun h=>h)⟩,by simp,by simp,.nil⟩}
 · cases F
end
end
end Go.Proofs.Ev
namespace Go.Proofs.YtpnamgfdakfccaaGreat
open Go Go.RowKit Go.Proofs.Gw Go.Proofs.Ev
noncomputable section
def H9(f:Nat):Nat:=Option.rec 0 (fun v=>v) (Go.Proofs.Ev.look [(6,255),(20,67108895),(21,633825302779092824621803232767),(22,2155618163),(23,8255),(24,27),(25,590300050076570014079),(45,23),(46,8590180735),(47,34359753981),(48,783),(49,19),(50,19),(51,15965),(52,4302962035),(53,31),(54,19),(55,11),(56,2239790331),(57,7),(58,4835703296969896544436733),(59,119),(60,69090643),(98,41904174945551653455341040668835947270620825710919647),(99,455),(100,55),(101,127),(102,66491),(103,134349427),(104,31),(105,21),(106,66483),(107,42535296023574879666274036850519702559),(108,5),(109,277027520455),(110,2269392032235773),(111,7),(112,13),(113,1254522720446663102451),(114,4358870495),(115,127),(116,549755937119),(117,31),(118,31),(119,66483),(120,23),(121,19),(122,1079827),(123,5),(124,1021),(125,19),(126,19),(127,7997),(128,31),(129,19),(130,31),(131,155),(147,66483),(173,62047),(174,223),(175,491823),(176,7897471),(177,66491),(178,15),(179,537399539),(180,11),(181,11),(182,604275),(183,31),(184,31),(185,17389),(186,17179886351),(187,8592039695),(188,35218731966223),(189,1333065575601045263),(190,33551),(191,21268317252094917911888073248812900111),(192,1217485249602318769183),(193,22997644815212700899627017342834150232570911),(194,277),(195,16661),(196,5),(197,7),(198,504373101),(199,1021),(200,23),(201,3),(202,63),(203,31),(204,223),(205,19),(206,19),(207,1967),(208,31),(209,159),(210,1180596265054542884863),(211,37439),(212,127),(213,7),(214,97654233660270262109953253766531127628137471),(215,66483),(216,42090112451430381175343947643),(217,7),(227,17179886351),(247,157),(248,19),(249,70368761188343),(250,19),(251,70368744178639),(252,32775),(253,5),(254,288231475663604767),(255,5),(256,5),(257,271),(258,4159),(259,7),(260,65619),(261,18014433942971335),(262,66483),(263,1484326079),(264,63),(265,31),(266,7),(267,10384593717069656409982772143259615),(268,7),(269,31),(270,7),(271,15),(296,19),(297,15),(298,1439),(299,270191),(300,42535296023574879666274036850519702559),(301,4197407),(302,17179886351),(303,13164839976634628298295110780136696778032692856359452003713154079),(304,1835325),(305,31),(306,83),(307,4119),(315,66483),(316,67108895),(317,8592039695),(318,35218731966223),(319,1333065575601045263),(320,33551),(321,21268317252094917911888073248812900111),(322,1217485249602318769183),(323,22997644815212700899627017342834150232570911),(324,9440287),(335,288231475663604767),(336,271),(337,4159),(338,9247),(342,4197407)] f)
def x0T:X:=⟨(T.mk 13).set 0 (some (.cells [.int Oi 0,.int Oi 0,.int Oi 2,.int Oi 0,.int Oi 2,.int Oi 2,.int Oi 0,.int Oi 2] 73 none)),1⟩
def Jr:uy:=⟨[.s 0 0 4 4],1,x0T,.bool true, [],640⟩
def Nj(f:Nat):List uy:=Bool.rec [] [Jr] (Nat.beq f 58)
theorem N8:Tryz.prog.follows .mixedOrders=true:=Oc
theorem Zj2:EM (kit Om H9 100000 60) 58 Jr=true:=Oc
theorem Zpf(f:Nat)(M:uy)(h:M∈Nj f):Ev.E5 Om f M:=by
 unfold Nj at h
 cases D:Nat.beq f 58 with
 |false=>rw [D] at h;cases h
 | true=>
   rw [D] at h
   obtain rfl:M=Jr:=by simpa using h
   rw [show f=58 from Nat.eq_of_beq_eq_true D]
   exact Zj0 (LU N8 H9 100000 60) Zj2
theorem Zpb:Js true ((GL Om H9 100000 Nj 60).call 6 [] ⟨T.mk 13,0⟩)=true:=Oc
theorem Zi3(w0:World):Calls Om 6 #[] w0 fun e w=>e= .returned (.bool true)/\Sat w0 w []:=
 ZjG (TE N8 H9 100000 Zpf 60) Zpb w0
end
end Go.Proofs.YtpnamgfdakfccaaGreat
namespace Go.Proofs.YtpnamgfdakfccaaGreat
open Go Go.RowKit Go.Proofs.Gw
theorem Zrd:Zc Om 6=true:=Oc
theorem Zrc:Zc Om 7=true:=Oc
theorem Zrb:Zc Om 9=true:=Oc
theorem Zkq:Zw Om 34 0=some 0:=Oc
theorem Zo6(w0:World):Calls Om 6 #[] w0 fun e w=>∃v,e= .returned v/\v= .bool true/\Sat w0 w []:=(Zi3 w0).mono fun e w h=>⟨_,h.1,rfl,h.2⟩
theorem WS(D y:Of):∀n:Nat,Tot D y n=Zd (fun k=>D k*y k) n
 |0=>rfl
 | n+1=>by
   have h:=ZI (fun k=>D k*y k) (i:=(n:Int)) Oa
   rw [show((n:Int)+1).toNat=n+1 by omega,Int.toNat_natCast] at h
   rw [h,<-WS D y n];rfl
end Go.Proofs.YtpnamgfdakfccaaGreat
namespace Go.Proofs.Gw
open Go Go.RowKit
variable {a d e:Int} {t:Tb}
def AP(a d:Int):Int:=(a.tmod d+d).tmod d
theorem W7(hd:1<=d):AP a d=a%d:=by
 unfold AP
 have h1:=Int.tmod_eq_emod (a:=a) (b:=d)
 have F:=Int.emod_nonneg a (show d≠0 by omega)
 have I:=Int.emod_lt_of_pos a (show 0<d by omega)
 have hn:(d.natAbs:Int)=d:=Oa
 by_cases h:0<=a\/d∣a
 {
 rw [if_pos h] at h1
 have D:a.tmod d=a%d:=Oa
 rw [D,Int.tmod_eq_emod_of_nonneg Oa,Int.add_emod_right,Int.emod_emod]}
 {
 rw [if_neg h] at h1
 have e:a.tmod d+d=a%d:=Oa
 rw [e,Int.tmod_eq_emod_of_nonneg F,Int.emod_emod]}
theorem Ud(hd:1<=d):0<=AP a d/\AP a d<d:=by
 rw [W7 hd]
 exact⟨Int.emod_nonneg a Oa,Int.emod_lt_of_pos a Oa⟩
theorem Wj(hd:1<=d): -d<a.tmod d/\a.tmod d<d:=by
 have h1:=Int.tmod_lt_of_pos a (show 0<d by omega)
 have h:=Int.lt_tmod_of_pos a (show 0<d by omega)
 omega
def sN(t:Tb):Nat->Int
  |0=> -1
  |k+1=>if t.B k<t.vars/\(t.C (k+1) 0).tmod t.den≠0/\(sN t k<0\/t.B k<t.B (sN t k)) then k else sN t k
theorem Yz(t:Tb):∀k:Nat,sN t k= -1\/(0<=sN t k/\sN t k<k)
 |0=> .inl rfl
 | k+1=>by
   have:=Yz t k
   simp only [sN];split<;>omega
theorem Ve(t:Tb){i:Int}(h:0<=i):sN t (i+1).toNat=if t.B i<t.vars/\(t.C (i+1) 0).tmod t.den≠0/\(sN t i.toNat<0\/t.B i<t.B (sN t i.toNat)) then i else sN t i.toNat:=by
 obtain⟨k,rfl⟩:=Int.eq_ofNat_of_zero_le h
 simp only [Int.toNat_natCast,show((k:Int)+1).toNat=k+1 by omega,sN]
theorem Nh(t:Tb):∀k:Nat,(sN t k= -1->∀i:Int,0<=i->i<k->t.B i<t.vars->(t.C (i+1) 0).tmod t.den=0)/\(0<=sN t k->t.B (sN t k)<t.vars/\(t.C (sN t k+1) 0).tmod t.den≠0)
 |0=>⟨fun _ i I h1=>Oa,fun h=>by simp [sN] at h⟩
 | k+1=>by
   have D:=Nh t k
   have hr:=Yz t k
   have e:sN t (k+1)=if t.B k<t.vars/\(t.C (k+1) 0).tmod t.den≠0/\(sN t k<0\/t.B k<t.B (sN t k)) then(k:Int) else sN t k:=rfl
   rw [e]
   split
   · rename_i hc
     exact⟨fun h=>Oa,fun _=>⟨hc.1,hc.2.1⟩⟩
   {
   rename_i hc
   refine⟨fun h i I h1 F=> ?_,D.2⟩
   by_cases hi:i<k
   · exact D.1 h i I hi F
   · obtain rfl:i=k:=Oa
     exact Od fun J=>hc ⟨F,J,.inl Oa⟩}
def BI(t:Tb)(r:Int)(ok:Prop)(e:Int):Prop:=(¬lK t/\r=0/\¬ok/\e=1)\/(lK t/\r=max (sN t t.nb.toNat) 0/\(ok↔0<=sN t t.nb.toNat)/\e=0)
def YK(t:Tb)(row:Int):Of:=fun j=>if j=0 then-(AP (t.C (row+1) 0) t.den) else AP (-(t.C (row+1) j)) t.den
def CY(t:Tb)(row:Int)(n:Int)(f:Of)(e:Int):Prop:=
  (¬lK t/\n=0/\e=1)\/(lK t/\¬(0<=row/\row<t.nb)/\n=0/\e=2)\/(lK t/\0<=row/\row<t.nb/\(t.C (row+1) 0).tmod t.den=0/\n=0/\e=8)\/
    (lK t/\0<=row/\row<t.nb/\(t.C (row+1) 0).tmod t.den≠0/\n=t.nf+1/\(∀j,0<=j->j<n->f j=YK t row j)/\e=0)
def Wf(t:Tb)(row:Int):Tb:=⟨t.vars,t.den,t.nb+1,t.nf,t.nc+1,lD t.B t.nb (t.nb+t.nf),t.F,lD t.ln t.nc (t.nf+1),lD t.C t.nc (YK t row)⟩
def Ad(t:Tb)(row:Int)(t':Tb)(e:Int):Prop:=
  (¬lK t/\t'=Tb.zero/\e=1)\/(lK t/\¬(0<=row/\row<t.nb)/\t'=Tb.zero/\e=2)\/(lK t/\0<=row/\row<t.nb/\(t.C (row+1) 0).tmod t.den=0/\t'=Tb.zero/\e=8)\/
    (lK t/\0<=row/\row<t.nb/\(t.C (row+1) 0).tmod t.den≠0/\16<=t.nb/\t'=Tb.zero/\e=9)\/
    (lK t/\0<=row/\row<t.nb/\(t.C (row+1) 0).tmod t.den≠0/\t.nb<16/\t'=Wf t row/\e=0)
theorem Zjd(h:lK t){row:Int}(W:0<=row)(U:row<t.nb)(hb:t.nb<16):lK (Wf t row):=by
 have n1:=h.n1;have n2:=h.n2;have O:=h.d1;have d2:=h.d2;have hc:=h.c
 refine⟨h.n1,h.n2,by show t.nb+1<=16;omega,h.v,h.d1,h.d2,by show t.nc+1=t.nb+1+1;omega,?_,fun i D I=> ?_⟩
 {
 show vk (cat t.nf t.F (lD t.B t.nb (t.nb+t.nf))) (t.nf+(t.nb+1))
 have key:∀k,0<=k->k<t.nf+(t.nb+1)->(k<t.nf+t.nb/\cat t.nf t.F (lD t.B t.nb (t.nb+t.nf)) k=cat t.nf t.F t.B k)\/(k=t.nf+t.nb/\cat t.nf t.F (lD t.B t.nb (t.nb+t.nf)) k=t.nb+t.nf):=fun k Z Y=>by
   unfold cat
   by_cases e:k<t.nf
   · exact .inl ⟨by omega,by rw [if_pos e,if_pos e]⟩
   {
   rw [if_neg e,if_neg e]
   by_cases e2:k-t.nf<t.nb
   · exact .inl ⟨by omega,Zl e2⟩
   · exact .inr ⟨by omega,Zo e2⟩}
 refine⟨fun i D I=> ?_,fun i j D I F J e=> ?_⟩
 {
 rcases key i D I with⟨h1,h2⟩|⟨h1,h2⟩
 · have:=h.perm.1 i D h1;rw [h2];omega
 · rw [h2];omega}
 {
 rcases key i D I with⟨h1,h2⟩|⟨h1,h2⟩<;>rcases key j F J with⟨g1,g2⟩|⟨g1,g2⟩
 · rw [h2,g2] at e;exact h.perm.2 i j D h1 F g1 e
 · rw [h2,g2] at e;have:=h.perm.1 i D h1;omega
 · rw [h2,g2] at e;have:=h.perm.1 j F g1;omega
 · omega}}
 {
 have i2:i<t.nc+1:=I
 by_cases e:i<t.nc
 {
 refine⟨?_,fun j F J=> ?_⟩
 · show lD t.ln t.nc (t.nf+1) i=t.nf+1
   rw [Zl e];exact(h.rows i D e).1
 {
 have N:j<lD t.ln t.nc (t.nf+1) i:=J
 rw [Zl e] at N
 show-1073741824<=lD t.C t.nc (YK t row) i j/\lD t.C t.nc (YK t row) i j<=1073741824
 rw [Zl e];exact(h.rows i D e).2 j F N}}
 {
 refine⟨Zo e,fun j F J=> ?_⟩
 show-1073741824<=lD t.C t.nc (YK t row) i j/\lD t.C t.nc (YK t row) i j<=1073741824
 rw [Zo e]
 have:=Ud (a:=t.C (row+1) 0) O
 have:=Ud (a:= -(t.C (row+1) j)) O
 unfold YK;split<;>omega}}
theorem CY.full{row n:Int}{f:Of}(h:CY t row n f e)(D:e=0):lK t/\0<=row/\row<t.nb/\(t.C (row+1) 0).tmod t.den≠0/\n=t.nf+1/\∀j,0<=j->j<n->f j=YK t row j:=by
 rcases h with⟨h1,h2,h3⟩|⟨h1,h2,h3,h4⟩|⟨h1,h2,h3,h4,h5,h6⟩|⟨h1,h2,h3,h4,h5,h6,h7⟩<;>first|(exfalso;omega)|exact⟨h1,h2,h3,h4,h5,h6⟩
theorem CY.bad{row n:Int}{f:Of}(h:CY t row n f e)(D:e≠0):Ad t row Tb.zero e:=by
 rcases h with⟨h1,h2,h3⟩|⟨h1,h2,h3,h4⟩|⟨h1,h2,h3,h4,h5,h6⟩|⟨h1,h2,h3,h4,h5,h6,h7⟩
 · exact .inl ⟨h1,rfl,h3⟩
 · exact .inr (.inl ⟨h1,h2,rfl,h4⟩)
 · exact .inr (.inr (.inl ⟨h1,h2,h3,h4,rfl,h6⟩))
 · exact absurd h7 D
theorem BI.rng{r:Int}{ok:Prop}(h:BI t r ok e):0<=r/\r<=t.nb.toNat:=by
 have:=Yz t t.nb.toNat
 rcases h with⟨_,h,_⟩|⟨_,h,_⟩<;>omega
theorem Ad.nb{t D:Tb}{row e:Int}(h:Ad t row D e)(F:e=0):D.nb=t.nb+1:=by
 rcases h with⟨_,_,h⟩|⟨_,_,_,h⟩|⟨_,_,_,_,_,h⟩|⟨_,_,_,_,_,_,h⟩|⟨_,_,_,_,_,rfl,_⟩<;>first|omega|rfl
end Go.Proofs.Gw
namespace Go.Proofs.YtpnamgfdakfccaaGreat
open Go Go.RowKit Go.Proofs.Gw
variable {f:Of} {vv:Ov} {v:Value}
theorem Pq:Zc Om 171=true:=Oc
theorem Znz:Zc Om 244=true:=Oc
theorem Zny:Zc Om 245=true:=Oc
theorem Zm2:ZN Om 172=some (.nilFunc,1,8):=Oc
theorem Qz:ZF Om 172=true:=Oc
theorem Zk6{x:Int}(w0:World):
   Calls Om 244 [.int Oi x].toArray w0 fun e w=>∃v,e= .returned v/\v=B (¬(-1073741824<=x/\x<=1073741824))/\Sat w0 w []:=by
 refine iE Tryz.func244 Tryz.ntmps244 fun w h=> ?_
 refine fQ<|(zP)<|iT<|(Oo)<|lX 5 ?_ ?_<;>intro hc
 {
 refine(zO)<|(zO)<|(On)<|jk<|Oj ?_
 exact⟨Yk Oa,h⟩}
 refine qE ?_
 refine jk<|Oj ?_
 exact⟨Zm Oa,h⟩
theorem Zk2{n:Int}(w0:World)(F:Row w0 v 1 n (ints f)):
   Calls Om 147 [v,.func (.func 244) #[] #[]].toArray w0 fun e w=>∃v,e= .returned v/\∃r:Int,v= .int Oi r/\((r= -1/\∀k,0<=k->k<n->¬(¬(-1073741824<=f k/\f k<=1073741824)))\/(0<=r/\r<n/\(¬(-1073741824<=f r/\f r<=1073741824))))/\Sat w0 w []:=by
 have hn:=F.fP.n0;have W:=F.fP.n1
 refine iE Tryz.func147 Tryz.ntmps147 fun w h=> ?_
 refine fQ<|(zP)<|l9<|(zP)<|(zV (iW Zb F.fP))<|(zP)<|nI<|ny (fun U M w=>∃(i:Int),U=((n-i).toNat)/\(0<=i)/\(i<=n)/\(∀k,0<=k->k<i->¬(¬(-1073741824<=f k/\f k<=1073741824)))/\M= [(0,v),(1,.func (.func 244) #[] #[]),(7,.int Oi n),(8,.int Oi i)]/\Sat w0 w []) ⟨0,rfl,Oa,Oa,?_,rfl,h⟩ ?_
 {
 intro k N h1;omega}
 clear h w
 rintro U M w ⟨i,rfl,N,h1,O,rfl,h⟩
 refine fQ<|(zP)<|nG<|Zf ?_ ?_<;>intro hc
 {
 refine oC<|(On)<|iT<|(Oo)<|(zV (iy (kk:=i) Zb F.fP))<|(zV (iR (u:= .int Oi (f i)) dw (F.below h.below)))<|iJ (xc0 Znz) (Zk6 (x:=(f i)) w) ?_;rintro _ w ⟨rfl,D⟩
 replace h:=h.cmp D;clear D
 refine ig<|Zf ?_ ?_<;>intro hc
 {
 refine fQ<|(On)<|sG<|Oj ?_
 exact⟨i,rfl,.inr ⟨by omega,Oa,‹¬(-1073741824<=f i/\f i<=1073741824)›⟩,h⟩}
 refine rU<|(zV (Zg (r:=i+1)))<|(zP)<|iq<|jm ⟨i+1,rfl,Oa,Oa,?_,rfl,h⟩
 {
 intro k J Y;rcases Int.lt_or_eq_of_le (show k<=i by omega) with I|I;exact O k J I;rw [I];assumption}}
 refine oM<|(zP)<|jk<|Oj ?_
 exact⟨-1,rfl,.inl ⟨rfl,fun k N h1=>O k N Oa⟩,h⟩
theorem Zlc{n:Int}(w0:World)(J:Row w0 v 1 n (ints f)):
   Calls Om 90 [v,.func (.func 244) #[] #[]].toArray w0 fun e w=>∃v,e= .returned v/\v=B (∃k,0<=k/\k<n/\(¬(-1073741824<=f k/\f k<=1073741824)))/\Sat w0 w []:=by
 refine iE Tryz.func90 Tryz.ntmps90 fun w F=> ?_
 refine fQ<|(zP)<|iT<|(On)<|iJ (xc0 WP) (Zk2 w (J.below F.below)) ?_;rintro _ w ⟨W,rfl,I,D⟩
 replace F:=F.cmp D;clear D
 refine(On)<|jk<|Oj ?_
 exact⟨Zm (by
  rcases I with⟨h1,h2⟩|⟨h1,h2,h3⟩
  · exact⟨fun h=>Oa,fun⟨k,U,O,N⟩=>absurd N (h2 k U O)⟩
  · exact⟨fun _=>⟨_,h1,h2,h3⟩,fun _=>h1⟩),F⟩
theorem ZqG{n q:Int}{W a2:Addr}(w0:World)(U:Row w0 v 1 n (ints f))(O:w0.cell? W=some (.int Oi q))(hq:0<=q/\q<=100)(N:w0.cell? a2=some (.func (.func 244) #[] #[])):
   Calls Om 245 [v,.pointer (some W),.pointer (some a2)].toArray w0 fun e w=>∃v,e= .returned v/\v=B (¬(n=q+1/\wo f n 1073741824))/\Sat w0 w []:=by
 have Z:=U.fP.n1
 refine iE Tryz.func245 Tryz.ntmps245 fun w D=> ?_
 refine fQ<|(zP)<|iT<|(zP)<|(zV (iW Zb U.fP))<|(zV (wR dw O D))<|(zV (Zg (r:=q+1)))<|(On)<|lX 10 ?_ ?_<;>intro hc
 {
 iterate 3 refine oq ?_
 refine(On)<|jk<|Oj ?_
 exact⟨Yk Oa,D⟩}
 refine(zP)<|(zV (wR Qz N D))<|iJ (xc0 Ux) (Zlc (n:=n) (f:=f) w (U.below D.below)) ?_;rintro _ w ⟨rfl,F⟩
 replace D:=D.cmp F;clear F
 refine(On)<|jk<|Oj ?_
 exact⟨Zm ⟨fun⟨k,J,I,h⟩ hh=>h (hh.2 k J I),fun h=>Od fun Y=>h ⟨by omega,fun k J I=>Od fun hk=>Y ⟨k,J,I,hk⟩⟩⟩,D⟩
theorem ZoL{n q:Int}{ln:Of}{f:Og}{U a2:Addr}(w0:World)(hM:sO w0 v n vv ln f)(I:w0.cell? U=some (.int Oi q))(Z:0<=q/\q<=100)(F:w0.cell? a2=some (.func (.func 244) #[] #[])):
   Calls Om 230 [v,.func (.func 245) #[] #[.pointer (some U),.pointer (some a2)]].toArray w0 fun e w=>∃v,e= .returned v/\∃r:Int,v= .int Oi r/\((r= -1/\∀k,0<=k->k<n->¬(¬((ln k)=q+1/\wo (f k) (ln k) 1073741824)))\/(0<=r/\r<n/\(¬((ln r)=q+1/\wo (f r) (ln r) 1073741824))))/\Sat w0 w []:=by
 have hn:=hM.row.fP.n0;have aa:=hM.row.fP.n1
 refine iE Tryz.func230 Tryz.ntmps230 fun w h=> ?_
 refine fQ<|(zP)<|l9<|(zP)<|(zV (iW Zk hM.row.fP))<|(zP)<|nI<|ny (fun Y M w=>∃(i:Int),Y=((n-i).toNat)/\(0<=i)/\(i<=n)/\(∀k,0<=k->k<i->¬(¬((ln k)=q+1/\wo (f k) (ln k) 1073741824)))/\M= [(0,v),(1,.func (.func 245) #[] #[.pointer (some U),.pointer (some a2)]),(7,.int Oi n),(8,.int Oi i)]/\Sat w0 w []) ⟨0,rfl,Oa,Oa,?_,rfl,h⟩ ?_
 {
 intro k O h1;omega}
 clear h w
 rintro Y M w ⟨i,rfl,O,h1,W,rfl,h⟩
 refine fQ<|(zP)<|nG<|Zf ?_ ?_<;>intro hc
 {
 refine oC<|(On)<|iT<|(Oo)<|(zV (iy (kk:=i) Zk hM.row.fP))<|(zV (iR (u:=(vv i)) dV (hM.row.below h.below)))<|iJ (uU (vs:= [_]) Zny) (ZqG (n:=(ln i)) (q:=q) (f:=(f i)) w ((hM.p i Oa Oa).below h.below) (h.ref I) Z (h.ref F)) ?_;rintro _ w ⟨rfl,D⟩
 replace h:=h.cmp D;clear D
 refine ig<|Zf ?_ ?_<;>intro hc
 {
 refine fQ<|(On)<|sG<|Oj ?_
 exact⟨i,rfl,.inr ⟨by omega,Oa,‹¬((ln i)=q+1/\wo (f i) (ln i) 1073741824)›⟩,h⟩}
 refine rU<|(zV (Zg (r:=i+1)))<|(zP)<|iq<|jm ⟨i+1,rfl,Oa,Oa,?_,rfl,h⟩
 {
 intro k N ab;rcases Int.lt_or_eq_of_le (show k<=i by omega) with J|J;exact W k N J;rw [J];assumption}}
 refine oM<|(zP)<|jk<|Oj ?_
 exact⟨-1,rfl,.inl ⟨rfl,fun k O h1=>W k O Oa⟩,h⟩
theorem ZoZ{n q:Int}{ln:Of}{f:Og}{O a2:Addr}(w0:World)(hM:sO w0 v n vv ln f)(N:w0.cell? O=some (.int Oi q))(U:0<=q/\q<=100)(J:w0.cell? a2=some (.func (.func 244) #[] #[])):
   Calls Om 159 [v,.func (.func 245) #[] #[.pointer (some O),.pointer (some a2)]].toArray w0 fun e w=>∃v,e= .returned v/\v=B (∃k,0<=k/\k<n/\(¬((ln k)=q+1/\wo (f k) (ln k) 1073741824)))/\Sat w0 w []:=by
 refine iE Tryz.func159 Tryz.ntmps159 fun w D=> ?_
 refine fQ<|(zP)<|iT<|(On)<|iJ (xc0 IX) (ZoL w (hM.below D.below) (D.ref N) U (D.ref J)) ?_;rintro _ w ⟨r1,rfl,I,F⟩
 replace D:=D.cmp F;clear F
 refine(On)<|jk<|Oj ?_
 exact⟨Zm (by
  rcases I with⟨h1,h2⟩|⟨h1,h2,h3⟩
  · exact⟨fun h=>Oa,fun⟨k,Z,Y,W⟩=>absurd W (h2 k Z Y)⟩
  · exact⟨fun _=>⟨_,h1,h2,h3⟩,fun _=>h1⟩),D⟩
theorem Zaf{vB O vC:Value}{t:Tb}(w0:World)(N:uI w0 vB O vC vv t):
   Calls Om 171 [.agg #[.int Oi t.vars,.int Oi t.den,vB,O,vC]].toArray w0 fun e w=>∃v,e= .returned v/\v=B (lK t)/\Sat w0 w []:=by
 have hn:=N.F.fP.n0;have af:=N.F.fP.n1;have hb:=N.B.fP.n0;have ai:=N.B.fP.n1;have ah:=N.C.row.fP.n0;have ag:=N.C.row.fP.n1
 refine iE Tryz.func171 Tryz.ntmps171 fun w D=> ?_
 refine fQ<|iG (nS (cs:= [_,_,_,_,_]) D) ?_;rintro _ w ⟨g1,rfl,D⟩
 refine(zP)<|nG<|lg [0] [0] 7 nP D ?_;clear D;intro w D
 refine(b_ 0 (h_ 3 nK))<|(iQ 1 (fun w D=>(g_ 0 dV D)))<|(b_ 2 (iW Zb N.F.fP))<|(b_ 3 (h_ 2 lQ))<|(iQ 4 (fun w D=>(g_ 0 dV D)))<|(b_ 5 (iW Zb N.B.fP))<|oZ 6 (oh (cs:= [_]) Zq D) ?_;rintro _ w ⟨g2,rfl,D⟩
 refine⟨⟨fun _=>D.pk [0],D.pk [0]⟩,?_⟩
 refine nR 7 (xsb 1 dw D) ?_;clear D;rintro w D
 refine⟨⟨fun h=>absurd h (by decide),D.pk [0]⟩,?_⟩
 refine(b_ 8 nU)<|lS<|iP<|lW<|fQ ?_
 refine(zV (g_ 1 dw D))<|(On)<|lX 16 ?_ ?_<;>intro hc;rotate_left
 refine(zV (g_ 1 dw D))<|(Oo)<|lX 20 ?_ ?_<;>intro hc;rotate_left
 refine qE ?_
 refine lX 24 ?_ ?_<;>intro hc;rotate_left
 refine(zV (h_ 0 oU))<|(zV (g_ 0 dw D))<|(zV (g_ 1 dw D))<|(Oo)<|lX 30 ?_ ?_<;>intro hc;rotate_left
 refine(zV (h_ 1 oK))<|(zV (g_ 0 dw D))<|(Oo)<|lX 35 ?_ ?_<;>intro hc;rotate_left
 refine(zV (h_ 1 oK))<|(zV (g_ 0 dw D))<|(Oo)<|lX 40 ?_ ?_<;>intro hc;rotate_left
 refine(zV (h_ 4 iY))<|(zV (g_ 0 Zz D))<|(zV (iW Zk N.C.row.fP))<|(zP)<|(zV (Zg (r:=t.nb+1)))<|(On)<|ig<|Zf ?_ ?_<;>intro hc
 {
 refine fQ<|(zP)<|j_<|Oj ?_
 exact⟨Zi (by intro F;have b1:=F.n1;have b2:=F.n2;have b3:=F.m2;have b4:=F.v;have b5:=F.d1;have b6:=F.d2;have b7:=F.c;first|omega|(have Z:=(Yp Oa qL).2 ((Vt Oa Oa F.perm).congr fun k J U=>(Gw.VJ t.nb t.nf t.B t.F J).symm) i Oa Oa;omega)),D.nl⟩}
 refine XJ<|(zV (h_ 2 lQ))<|(zV (g_ 0 dV D))<|(zV (h_ 3 nK))<|(zV (g_ 0 dV D))<|iG (pO (n:=2) (len:=2) (pv:= [(0,vB),(1,O)]) (cs:= [vB,O]) (c:=(ZK vB O)) Zk ZQ D (hf:=by obtain⟨_,_,_,_,rfl,_⟩:=N.B.fP;obtain⟨_,_,_,_,rfl,_⟩:=N.F.fP;kernel_rfl)) ?_;rintro v1 w ⟨D,ae⟩
 have ab:=N9 (w:=w) (a:=vB) (b:=O) (n:=t.nb) (m:=t.nf) (f:=t.B) (g:=t.F) (D.f_ 2 rfl) (N.B.below D.below) (N.F.below D.below)
 have aa:∀k:Int,0<=k->k<=2->tot (ZK t.nb t.nf) k.toNat<=100000:=fun k J U=>by
   have:k=0\/k=1\/k=2:=Oa
   rcases this with rfl|rfl|rfl
   · simp [tot]
   · simp [tot,ZK];omega
   · have e2:=Fz t.nb t.nf;rw [show(2:Int).toNat=2 from rfl,e2];omega
 refine iJ (xc0 PD) (Zc3 w ab aa) ?_;rintro W w ⟨_,rfl,qb,I⟩
 rw [show(2:Int).toNat=2 from rfl,Fz] at qb I
 replace D:Sat w0 w [.blk g1 [.int Oi t.vars,.int Oi t.den,vB,O,vC],.blk g2 [.int Oi t.nf],.own v1 1 22 2 (ZK vB O),.own W 1 3 (t.nb+t.nf) (ints (WQ (ZK t.nb t.nf) (ZK t.B t.F) 2))]:=D.comp I
 clear I
 refine iJ (xc0 Pz) (_Y (n:=(t.nb+t.nf)) w qb) ?_;rintro _ w ⟨ad,rfl,I⟩
 replace D:=(D.comp I).n5;clear I
 refine iJ (xc0 Py) (Zc0 (n:=(t.nb+t.nf)) (f:=(WQ (ZK t.nb t.nf) (ZK t.B t.F) 2)) w (D.lM 4 rfl rfl) (D.holds _ (List.mem_of_getElem? (i:=3) rfl)) Oa) ?_;rintro Y w ⟨_,zA,rfl,qd,qL,I⟩
 replace D:=(D.comp I).n6;clear I
 refine(zV (iW Zb qd))<|(zP)<|nI<|ny (fun mm M w=>∃(i:Int),mm=((t.nb+t.nf-i).toNat)/\(0<=i)/\(i<=t.nb+t.nf)/\(∀k,0<=k->k<i->zA k=k)/\M= [(1,Or g1),(3,Or g2),(55,Y),(56,.int Oi (t.nb+t.nf)),(57,.int Oi i)]/\Sat w0 w [.blk g1 [.int Oi t.vars,.int Oi t.den,vB,O,vC],.blk g2 [.int Oi t.nf],.own v1 1 22 2 (ZK vB O),.own W 1 3 (t.nb+t.nf) (ints (WQ (ZK t.nb t.nf) (ZK t.B t.F) 2)),.blk ad [W],.own Y 1 3 (t.nb+t.nf) (ints zA)]) ⟨0,rfl,Oa,Oa,?_,rfl,D⟩ ?_
 {
 intro k h0 h1;omega}
 clear D w
 rintro mm M w ⟨i,rfl,h0,h1,qa,rfl,D⟩
 refine fQ<|(zP)<|nG<|Zf ?_ ?_<;>intro hc
 {
 refine oC<|(zP)<|(zV (iy (kk:=i) Zb qd))<|(zV (iR (u:= .int Oi (zA i)) dw (D.f_ 5 rfl)))<|(On)<|iT<|(Oo)<|ig<|Zf ?_ ?_<;>intro hc
 {
 refine fQ<|(zP)<|sG<|Oj ?_
 exact⟨Zi (by intro F;have b1:=F.n1;have b2:=F.n2;have b3:=F.m2;have b4:=F.v;have b5:=F.d1;have b6:=F.d2;have b7:=F.c;first|omega|(have Z:=(Yp Oa qL).2 ((Vt Oa Oa F.perm).congr fun k J U=>(Gw.VJ t.nb t.nf t.B t.F J).symm) i Oa Oa;omega)),D.nl⟩}
 refine rU<|(zV (Zg (r:=i+1)))<|(zP)<|iq<|jm ⟨i+1,rfl,Oa,Oa,?_,rfl,D⟩
 {
 intro k ac aj;rcases Int.lt_or_eq_of_le (show k<=i by omega) with hk|hk;exact qa k ac hk;rw [hk];omega}}
 refine oM<|iG (oh (cs:= [_]) Zm2 D) ?_;rintro _ w ⟨g3,rfl,D⟩
 refine lJ (xsb 6 Qz D) ?_;clear D;rintro w D
 refine iT<|(zV (h_ 4 iY))<|(zV (g_ 0 Zz D))<|(zV wX)<|iJ (xc0 IV) (ZoZ (n:=t.nc) (q:=t.nf) (vv:=vv) (ln:=t.ln) (f:=t.C) w (N.C.below D.below) (D.lM 1 rfl rfl) Oa (D.lM 6 rfl rfl)) ?_;rintro _ w ⟨rfl,I⟩
 replace D:=D.cmp I;clear I
 refine(On)<|jk<|Oj ?_
 refine⟨Zm ⟨fun hx=> ?_,fun F hx=> ?_⟩,D.nl⟩
 {
 refine⟨by omega,Oa,Oa,Oa,Oa,Oa,Oa,Vt Oa Oa (((Yp Oa qL).1 fun k J U=>qa k J Oa).congr fun k J U=>Gw.VJ t.nb t.nf t.B t.F J),fun k J U=> ?_⟩
 have hy:=Od fun hh=>hx ⟨k,J,U,hh⟩
 exact⟨hy.1,hy.2⟩}
 {
 obtain⟨k,J,U,hh⟩:=hx
 have hr:=F.rows k J U
 exact hh ⟨hr.1,hr.2⟩}
 all_goals
  refine pR ?_
  refine ig<|rW<|fQ ?_
  refine pR ?_
  refine j_<|Oj ?_
  exact⟨Zi (by intro F;have b1:=F.n1;have b2:=F.n2;have b3:=F.m2;have b4:=F.v;have b5:=F.d1;have b6:=F.d2;have b7:=F.c;first|omega|(have Z:=(Yp Oa qL).2 ((Vt Oa Oa F.perm).congr fun k J U=>(Gw.VJ t.nb t.nf t.B t.F J).symm) i Oa Oa;omega)),D.nl⟩
theorem ZoQ{vB N O:Value}{t:Tb}(w0:World)(D:uI w0 vB N O vv t):
   Calls Om 96 [.agg #[.int Oi t.vars,.int Oi t.den,vB,N,O]].toArray w0 fun e w=>∃v,e= .returned v/\∃(r:Int) (ok:Prop) (e:Int),v= .tuple #[.int Oi r,B ok,.int Oi e]/\Gw.BI t r ok e/\Sat w0 w []:=by
 have hn:=D.F.fP.n0;have Z:=D.F.fP.n1;have hb:=D.B.fP.n0;have ac:=D.B.fP.n1;have ab:=D.C.row.fP.n0;have aa:=D.C.row.fP.n1
 refine iE Tryz.func96 Tryz.ntmps96 fun w h=> ?_
 refine fQ<|iG (nS (cs:= [_,_,_,_,_]) h) ?_;rintro _ w ⟨Y,rfl,h⟩
 refine(Oo)<|l9<|(zV (lH 0 iC h))<|iJ (xc0 Pq) (Zaf (t:=t) w (D.below h.below)) ?_;rintro _ w ⟨rfl,I⟩
 replace h:=h.cmp I;clear I
 refine(zP)<|ig<|Zf ?_ ?_<;>intro hc
 {
 refine fQ<|(Oo)<|j_<|Eo ⟨_,rfl,?_⟩
 exact⟨0,False,1,by rw [ZB not_false],.inl ⟨by assumption,rfl,not_false,rfl⟩,h.nl⟩}
 refine ZX<|(zP)<|l9<|iI (h_ 2 lQ) ?_
 have F:lK t:=by first|assumption|exact Od ‹¬¬(lK t)›
 have b1:=F.n1
 have b2:=F.n2
 have b3:=F.m2
 have b4:=F.v
 have b5:=F.d1
 have b6:=F.d2
 have b7:=F.c
 refine(zV (g_ 0 dV h))<|(zV (iW Zb D.B.fP))<|(zP)<|nI<|ny (fun W M w=>∃(r:Int) (i:Int),W=((t.nb-i).toNat)/\(0<=i)/\(i<=t.nb)/\(r=sN t i.toNat)/\M= [(1,Or Y),(2,.int Oi r),(3,.bool false),(4,.int Oi 0),(11,vB),(12,.int Oi t.nb),(13,.int Oi i)]/\Sat w0 w [.blk Y [.int Oi t.vars,.int Oi t.den,vB,N,O]]) ⟨(-1),0,rfl,Oa,Oa,?_,rfl,h⟩ ?_
 {
 rfl}
 clear h w
 rintro W M w ⟨r,i,rfl,J,h1,hr,rfl,h⟩
 have U:=Yz t i.toNat;rw [<-hr] at U
 refine fQ<|(zP)<|nG<|Zf ?_ ?_<;>intro hc
 {
 refine oC<|(zP)<|(zV (iy (kk:=i) Zb D.B.fP))<|(zV (iR (u:= .int Oi (t.B i)) dw (D.B.below h.below)))<|(On)<|nG<|lg [0] [0] 1000 nP h ?_;clear h;intro w h
 refine(b_ 0 gu)<|(b_ 1 (h_ 0 oU))<|(iQ 2 (fun w h=>(g_ 0 dw h)))<|(b_ 3 Z6)<|(b_ 4 gu)<|AO 22 ?_ ?_<;>intro hc
 {
 refine(b_ 5 (h_ 4 iY))<|oH 6 (fun w h=>(g_ 0 Zz h)) ?_
 have xd:=F.len (i:=i+1) Oa Oa
 refine(b_ 7 gu)<|(b_ 8 (Zg (r:=i+1)))<|(b_ 9 (iy (kk:=i+1) Zk D.C.row.fP))<|(iQ 10 (fun w h=>(iR (u:=(vv (i+1))) dV (D.C.row.below h.below))))<|(b_ 11 (iy (kk:=0) Zb (D.C.p (i+1) Oa Oa).fP))<|(iQ 12 (fun w h=>(iR (u:= .int Oi ((t.C (i+1)) 0)) dw ((D.C.p (i+1) Oa Oa).below h.below))))<|(b_ 13 (h_ 1 oK))<|(iQ 14 (fun w h=>(g_ 0 dw h)))<|(b_ 15 (DW (r:=(Int.tmod ((t.C (i+1)) 0) t.den))))<|(b_ 16 Xf)<|(b_ 17 qj)<|(b_ 18 gu)<|AO 36 ?_ ?_<;>intro hc
 {
 refine(b_ 19 gu)<|(b_ 20 Z6)<|(b_ 21 gu)<|AO 39 ?_ ?_<;>intro hc
 {
 refine(iV 22)<|(iV 23)<|(iV 24)<|(iV 25)<|(iV 26)<|(iV 27)<|(iV 28)<|(b_ 29 qj)<|(b_ 30 qj)<|lS<|iP<|rW<|lG ?_
 refine(On)<|nT<|(zV (Zg (r:=i+1)))<|(zP)<|iq<|jm ⟨i,i+1,rfl,Oa,Oa,?_,rfl,h⟩
 {
 rw [Ve t J,<-hr];split<;>omega}}
 refine(b_ 22 gu)<|(b_ 23 (h_ 2 lQ))<|(iQ 24 (fun w h=>(g_ 0 dV h)))<|(b_ 25 gu)<|(b_ 26 (iy (kk:=r) Zb D.B.fP))<|(iQ 27 (fun w h=>(iR (u:= .int Oi (t.B r)) dw (D.B.below h.below))))<|(b_ 28 Z6)<|(b_ 29 pY)<|(b_ 30 qj)<|lS<|iP ?_
 refine Zf ?_ ?_<;>intro hc
 {
 refine lG<|(On)<|nT<|(zV (Zg (r:=i+1)))<|(zP)<|iq<|jm ⟨i,i+1,rfl,Oa,Oa,?_,rfl,h⟩
 {
 rw [Ve t J,<-hr];split<;>omega}}
 refine rU<|(zV (Zg (r:=i+1)))<|(zP)<|iq<|jm ⟨r,i+1,rfl,Oa,Oa,?_,rfl,h⟩
 {
 rw [Ve t J,<-hr];split<;>omega}}
 refine(iV 19)<|(iV 20)<|(iV 21)<|(iV 22)<|(iV 23)<|(iV 24)<|(iV 25)<|(iV 26)<|(iV 27)<|(iV 28)<|(iV 29)<|(b_ 30 pY)<|lS<|iP<|uD<|nX<|ng<|iP<|lG ?_
 refine(zV (Zg (r:=i+1)))<|(zP)<|iq<|jm ⟨r,i+1,rfl,Oa,Oa,?_,rfl,h⟩
 {
 rw [Ve t J,<-hr];split<;>omega}}
 refine(iV 5)<|(iV 6)<|(iV 7)<|(iV 8)<|(iV 9)<|(iV 10)<|(iV 11)<|(iV 12)<|(iV 13)<|(iV 14)<|(iV 15)<|(iV 16)<|(b_ 17 pY)<|(b_ 18 gu)<|EU 19 ?_
 refine(iV 20)<|(iV 21)<|(iV 22)<|(iV 23)<|(iV 24)<|(iV 25)<|(iV 26)<|(iV 27)<|(iV 28)<|(iV 29)<|(b_ 30 pY)<|lS<|iP<|uD<|nX<|ng<|iP<|lG ?_
 refine(zV (Zg (r:=i+1)))<|(zP)<|iq<|jm ⟨r,i+1,rfl,Oa,Oa,?_,rfl,h⟩
 {
 rw [Ve t J,<-hr];split<;>omega}}
 refine oM<|(zP)<|(zV (FB (r:=(max r 0))))<|uK ?_
 refine jk<|Eo ⟨_,rfl,?_⟩
 obtain rfl:i=t.nb:=Oa
 exact⟨_,_,_,rfl,.inr ⟨F,by rw [<-hr],by rw [<-hr],rfl⟩,h.nl⟩
theorem OA{a d:Int}(w0:World)(h1:1<=d)(I:d<=1073741824):
   Calls Om 246 [.int Oi a,.int Oi d].toArray w0 fun e w=>∃v,e= .returned v/\v= .int Oi (AP a d)/\Sat w0 w []:=by
 have D:=Gw.Wj (a:=a) h1;have h:=Gw.Wj (a:=a.tmod d+d) h1
 refine iE Tryz.func246 Tryz.ntmps246 fun w F=> ?_
 refine fQ<|(zP)<|iT<|(On)<|(zV (DW (r:=(Int.tmod a d))))<|(zP)<|(zV (Zg (r:=(Int.tmod a d)+d)))<|(zP)<|(zV (DW (r:=(Int.tmod ((Int.tmod a d)+d) d))))<|(zP)<|jk<|Oj ?_
 exact⟨rfl,F⟩
end Go.Proofs.YtpnamgfdakfccaaGreat
namespace Go.Proofs.YtpnamgfdakfccaaGreat
open Go Go.RowKit Go.Proofs.Gw
theorem PE:Zc Om 246=true:=Oc
theorem ZqK{vB J N:Value}{vv:Ov}{t:Tb}{row:Int}(w0:World)(D:uI w0 vB J N vv t)(cA: -9223372036854775808<=row/\row<=9223372036854775807):
   Calls Om 172 [.agg #[.int Oi t.vars,.int Oi t.den,vB,J,N],.int Oi row].toArray w0 fun e w=>∃v,e= .returned v/\∃r n f e,v= .tuple #[r,.int Oi e]/\CY t row n f e/\iK r n/\Sat w0 w [.own r 1 3 n (ints f)]:=by
 have hn:=D.F.fP.n0;have ac:=D.F.fP.n1;have hb:=D.B.fP.n0;have ah:=D.B.fP.n1;have ag:=D.C.row.fP.n0;have af:=D.C.row.fP.n1
 refine iE Tryz.func172 Tryz.ntmps172 fun w h=> ?_
 refine fQ<|iG (nS (cs:= [_,_,_,_,_]) h) ?_;rintro _ w ⟨g1,rfl,h⟩
 refine(On)<|ig<|lW<|o7<|fQ<|(zV (lH 0 iC h))<|iJ (xc0 Pq) (Zaf (t:=t) w (D.below h.below)) ?_;rintro _ w ⟨rfl,F⟩
 replace h:=h.cmp F;clear F
 refine(On)<|ig<|Zf ?_ ?_<;>intro hc
 {
 refine fQ<|(On)<|XI<|rD ⟨_,rfl,?_⟩
 exact⟨_,0,fun _=>0,1,rfl,.inl ⟨by assumption,rfl,rfl⟩,d_,(h.fU 1 3 (ints fun _=>0)).sub (.cons _ (.cons_cons _ .slnil))⟩}
 refine fQ<|iI gu ?_
 have I:lK t:=by first|assumption|exact Od ‹¬¬(lK t)›
 have b1:=I.n1
 have b2:=I.n2
 have b3:=I.m2
 have b4:=I.v
 have b5:=I.d1
 have b6:=I.d2
 have b7:=I.c
 refine(On)<|lX 17 ?_ ?_<;>intro hc
 {
 iterate 5 refine oq ?_
 refine(On)<|ig<|rW<|fQ ?_
 refine(On)<|XI<|rD ⟨_,rfl,?_⟩
 exact⟨_,0,fun _=>0,2,rfl,.inr (.inl ⟨I,Oa,rfl,rfl⟩),d_,(h.fU 1 3 (ints fun _=>0)).sub (.cons _ (.cons_cons _ .slnil))⟩}
 refine(zP)<|(zV (h_ 2 lQ))<|(zV (g_ 0 dV h))<|(zV (iW Zb D.B.fP))<|(Oo)<|ig<|Zf ?_ ?_<;>intro hc
 {
 refine fQ<|(On)<|XI<|rD ⟨_,rfl,?_⟩
 exact⟨_,0,fun _=>0,2,rfl,.inr (.inl ⟨I,Oa,rfl,rfl⟩),d_,(h.fU 1 3 (ints fun _=>0)).sub (.cons _ (.cons_cons _ .slnil))⟩}
 refine lW<|lg [0] [0] 1000 nP h ?_;clear h;intro w h
 refine ou 0 (h_ 4 iY) ?_
 have ad:=I.len (i:=row+1) Oa Oa
 refine(iQ 1 (fun w h=>(g_ 0 Zz h)))<|(b_ 2 gu)<|(b_ 3 (Zg (r:=row+1)))<|(b_ 4 (iy (kk:=row+1) Zk D.C.row.fP))<|(iQ 5 (fun w h=>(iR (u:=(vv (row+1))) dV (D.C.row.below h.below))))<|(b_ 6 (iy (kk:=0) Zb (D.C.p (row+1) Oa Oa).fP))<|(iQ 7 (fun w h=>(iR (u:= .int Oi ((t.C (row+1)) 0)) dw ((D.C.p (row+1) Oa Oa).below h.below))))<|(b_ 8 (h_ 1 oK))<|(iQ 9 (fun w h=>(g_ 0 dw h)))<|(b_ 10 (DW (r:=(Int.tmod ((t.C (row+1)) 0) t.den))))<|(b_ 11 Y1)<|(b_ 12 nU)<|lS<|iP ?_
 refine Zf ?_ ?_<;>intro hc
 {
 refine fQ<|(On)<|XI<|rD ⟨_,rfl,?_⟩
 exact⟨_,0,fun _=>0,8,rfl,.inr (.inr (.inl ⟨I,Oa,Oa,Oa,rfl,rfl⟩)),d_,(h.fU 1 3 (ints fun _=>0)).sub (.cons _ (.cons_cons _ .slnil))⟩}
 refine nX<|ng<|iP<|fQ<|(zV (h_ 4 iY))<|(zV (g_ 0 Zz h))<|(zP)<|(zV (Zg (r:=row+1)))<|(zV (iy (kk:=row+1) Zk D.C.row.fP))<|(zV (iR (u:=(vv (row+1))) dV (D.C.row.below h.below)))<|(zP)<|nG<|lg [0] [0] 1000 nP h ?_;clear h;intro w h
 refine(b_ 0 gu)<|(b_ 1 (iy (kk:=0) Zb (D.C.p (row+1) Oa Oa).fP))<|(iQ 2 (fun w h=>(iR (u:= .int Oi ((t.C (row+1)) 0)) dw ((D.C.p (row+1) Oa Oa).below h.below))))<|(b_ 3 (h_ 1 oK))<|oH 4 (fun w h=>(g_ 0 dw h)) ?_
 have ab:=Ud (a:=t.C (row+1) 0) (d:=t.den) Oa
 refine pK 5 (xc0 PE) (OA (a:=((t.C (row+1)) 0)) (d:=t.den) w Oa Oa) ?_;rintro _ w ⟨rfl,F⟩
 replace h:=h.cmp F;clear F
 refine⟨⟨fun _=>h,h⟩,?_⟩
 refine(b_ 6 (ET (r:= -((AP ((t.C (row+1)) 0) t.den)))))<|oZ 7 (pO (n:=1) (len:=1) (pv:= [(0,.int Oi (-((AP ((t.C (row+1)) 0) t.den))))]) (cs:= [.int Oi (-((AP ((t.C (row+1)) 0) t.den)))]) (c:=ints (fun _=> -((AP ((t.C (row+1)) 0) t.den)))) Zb Zq h) ?_;rintro v1 w ⟨h,W⟩
 refine⟨⟨fun _=>h.pk [0],h.pk [0]⟩,?_⟩
 refine(b_ 8 nU)<|lS<|iP<|lW<|fQ ?_
 refine(zP)<|RU rfl rfl rfl (Y0 (q:=1) rfl Zb rfl rfl rfl (D.C.p (row+1) Oa Oa).fP rfl Oa Oa) ?_
 refine(zV (iW Zb (YR (q:=1) (D.C.p (row+1) Oa Oa).fP (D.C.room (row+1) Oa Oa) Oa).fP))<|(zP)<|nI<|ny (fun Y M w=>∃(m:Int) (k:Int) (vb:Value) (g:Of),Y=((t.nf-k).toNat)/\(0<=k)/\(k<=t.nf)/\(m=k+1)/\(∀j,0<=j->j<m->g j=YK t row j)/\(iK vb m)/\M= [(2,Or g1),(4,Oh),(5,.int Oi 0),(7,vb),(52,(XB (vv (row+1)) 1)),(53,.int Oi ((t.ln (row+1))-1)),(54,.int Oi k)]/\Sat w0 w [.blk g1 [.int Oi t.vars,.int Oi t.den,vB,J,N],.own vb 1 3 m (ints g)]) ⟨1,0,v1,(fun _=> -((AP ((t.C (row+1)) 0) t.den))),rfl,Oa,Oa,Oa,?_,?_,rfl,h⟩ ?_
 {
 intro j Z j1;obtain rfl:j=0:=Oa
 rfl}
 {
 exact W}
 clear h w
 rintro Y M w ⟨m,k,vb,g,rfl,h0,h1,hm,hg,O,rfl,h⟩
 refine fQ<|(zP)<|nG<|Zf ?_ ?_<;>intro hc
 {
 refine oC<|(zV (iy (kk:=k) Zb (YR (q:=1) (D.C.p (row+1) Oa Oa).fP (D.C.room (row+1) Oa Oa) Oa).fP))<|iI (iR (u:= .int Oi ((t.C (row+1)) (k+1))) dw ((YR (q:=1) (D.C.p (row+1) Oa Oa).fP (D.C.room (row+1) Oa Oa) Oa).row Oa ((D.C.p (row+1) Oa Oa).below h.below))) ?_
 have ae:=I.cell (i:=row+1) (j:=k+1) Oa Oa Oa Oa
 refine(zP)<|ig<|lG<|(On)<|(zV (ET (r:= -(((t.C (row+1)) (k+1))))))<|(zV (h_ 1 oK))<|(zV (g_ 0 dw h))<|iJ (xc0 PE) (OA (a:=(-(((t.C (row+1)) (k+1))))) (d:=t.den) w Oa Oa) ?_;rintro _ w ⟨rfl,F⟩
 replace h:=h.cmp F;clear F
 refine iG (pO (n:=1) (len:=1) (pv:= [(0,.int Oi (AP (-(((t.C (row+1)) (k+1)))) t.den))]) (cs:= [.int Oi (AP (-(((t.C (row+1)) (k+1)))) t.den)]) (c:=ints (fun _=>(AP (-(((t.C (row+1)) (k+1)))) t.den))) Zb Zq h) ?_;rintro v2 w ⟨h,aa⟩
 refine iG (pz 1 (r:=m+1) Zb Zq h (h.f_ 2 rfl) (ZR _ _ _)) ?_;rintro v3 w ⟨h,U⟩
 refine(zP)<|nT<|(zV (Zg (r:=k+1)))<|(zP)<|iq<|jm ⟨m+1,k+1,v3,(snoc g m (AP (-(((t.C (row+1)) (k+1)))) t.den)),rfl,Oa,Oa,Oa,?_,?_,rfl,h.pk [0,1]⟩
 {
 intro j Z j1;by_cases e:j<m
 · rw [Zt e];exact hg j Z e
 · rw [Zu e];unfold YK;rw [if_neg Oa,show j=k+1 by omega]}
 {
 exact U}}
 refine oM<|(Oo)<|jk<|rD ⟨_,rfl,?_⟩
 exact⟨_,m,g,0,rfl,.inr (.inr (.inr ⟨I,Oa,Oa,Oa,Oa,hg,rfl⟩)),O,h.pk [1]⟩
theorem ZnT:Zc Om 172=true:=Oc
theorem ZqN{vB Y vC:Value}{vv:Ov}{t:Tb}{row:Int}(w0:World)(O:uI w0 vB Y vC vv t)(cA: -9223372036854775808<=row/\row<=9223372036854775807):
   Calls Om 97 [.agg #[.int Oi t.vars,.int Oi t.den,vB,Y,vC],.int Oi row].toArray w0 fun e w=>∃v,e= .returned v/\∃vB Y vC vv t' e,v= .tuple #[.agg #[.int Oi t'.vars,.int Oi t'.den,vB,Y,vC],.int Oi e]/\Ad t row t' e/\iK vB t'.nb/\iK Y t'.nf/\iK vC t'.nc/\Sat w0 w [.own vB 1 3 t'.nb (ints t'.B),.own Y 1 3 t'.nf (ints t'.F),.own vC 1 22 t'.nc vv,.sem (Frame.rows 3 t'.nc vv t'.ln t'.C)]:=by
 have hn:=O.F.fP.n0;have aq:=O.F.fP.n1;have hb:=O.B.fP.n0;have aw:=O.B.fP.n1;have av:=O.C.row.fP.n0;have au:=O.C.row.fP.n1
 refine iE Tryz.func97 Tryz.ntmps97 fun w D=> ?_
 refine fQ<|iG (nS (cs:= [_,_,_,_,_]) D) ?_;rintro _ w ⟨Z,rfl,D⟩
 refine iG (oh (cs:= [_,_,_,_,_]) Yt D) ?_;rintro _ w ⟨g2,rfl,D⟩
 refine(zP)<|iT<|(zV (lH 0 iC D))<|(zP)<|iJ (xc0 ZnT) (ZqK (t:=t) (row:=row) w (O.below D.below) Oa) ?_;rintro _ w ⟨J,ae,af,N,rfl,cM,cr,I⟩
 replace D:=(D.comp I).n3;clear I
 refine uK ?_
 refine ig<|lW<|o7<|fQ<|(Oo)<|ig<|Zf ?_ ?_<;>intro hc
 {
 refine fQ<|(zV (lF (v:= .agg #[.int Oi 0,.int Oi 0,Oh,Oh,Oh])))<|(zP)<|lJ (nD 1 iC D) ?_;clear D;rintro w D
 refine(zP)<|XI<|Ye 1 iC D ⟨_,rfl,?_⟩
 exact⟨_,_,_,fun _=>undef,Tb.zero,_,rfl,cM.bad Oa,d_,d_,d_,((((D.sub (.cons _ (.cons _ (.cons _ .slnil)))).fU 1 3 (ints Tb.zero.B)).fU 1 3 (ints Tb.zero.F)).fU 1 22 (fun _=>undef)).iF 3 (fun _=>undef) Tb.zero.ln Tb.zero.C⟩}
 refine fQ<|iI (h_ 2 lQ) ?_
 obtain⟨hp,hr0,ah,ai,al,hcf⟩:=cM.full Oa
 have b1:=hp.n1
 have b2:=hp.n2
 have b3:=hp.m2
 have b4:=hp.v
 have b5:=hp.d1
 have b6:=hp.d2
 have b7:=hp.c
 refine(zV (g_ 0 dV D))<|(zV (iW Zb O.B.fP))<|(On)<|ig<|Zf ?_ ?_<;>intro hc
 {
 refine fQ<|(zV (lF (v:= .agg #[.int Oi 0,.int Oi 0,Oh,Oh,Oh])))<|lJ (nD 1 iC D) ?_;clear D;rintro w D
 refine(zP)<|XI<|Ye 1 iC D ⟨_,rfl,?_⟩
 exact⟨_,_,_,fun _=>undef,Tb.zero,9,rfl,.inr (.inr (.inr (.inl ⟨hp,hr0,ah,ai,Oa,rfl,rfl⟩))),d_,d_,d_,((((D.sub (.cons _ (.cons _ (.cons _ .slnil)))).fU 1 3 (ints Tb.zero.B)).fU 1 3 (ints Tb.zero.F)).fU 1 22 (fun _=>undef)).iF 3 (fun _=>undef) Tb.zero.ln Tb.zero.C⟩}
 refine nX<|ng<|iP<|lW<| ?_
 refine WT (fun M w=>∃(g3:Nat) (F:Value),(iK F t.nf)/\M= [(0,.agg #[.int Oi t.vars,.int Oi t.den,vB,Y,vC]),(1,.int Oi row),(2,Or Z),(4,Or g2),(5,.int Oi 0),(12,.agg #[.int Oi t.vars,.int Oi t.den,vB,Y,vC]),(13,.int Oi row),(14,.tuple #[J,.int Oi N]),(11,.tuple #[J,.int Oi N]),(15,J),(16,.int Oi N),(6,J),(7,.int Oi N),(18,.int Oi N),(19,B (N≠0)),(17,B (N≠0)),(23,.pointer (some ⟨Z,2,none⟩)),(24,vB),(25,.int Oi t.nb),(26,B (t.nb=16)),(22,B (t.nb=16)),(28,Or Z),(29,.int Oi t.vars),(30,.pointer (some ⟨Z,1,none⟩)),(31,.int Oi t.den),(32,.pointer (some ⟨Z,3,none⟩)),(33,Y),(34,F),(35,.agg #[.int Oi t.vars,.int Oi t.den,Oh,F,Oh]),(8,Or g3)]/\Sat w0 w [.blk Z [.int Oi t.vars,.int Oi t.den,vB,Y,vC],.blk g2 [.int Oi 0,.int Oi 0,Oh,Oh,Oh],.own J 1 3 ae (ints af),.own F 1 3 t.nf (ints t.F),.blk g3 [.int Oi t.vars,.int Oi t.den,Oh,F,Oh]]) ?_ ?_
 {
 refine lg [0,1,2] [0,1,2] 9 nP D ?_;clear D;intro w D
 refine(b_ 0 (h_ 0 oU))<|(iQ 1 (fun w D=>(g_ 0 dw D)))<|(b_ 2 (h_ 1 oK))<|(iQ 3 (fun w D=>(g_ 0 dw D)))<|(b_ 4 (h_ 3 nK))<|(iQ 5 (fun w D=>(g_ 0 dV D)))<|Xw (r:= [6,8]) ((ZY ?_ (ZY ?_ Xv)))
 {
 refine Fb (xc0 oD) (lU (n:=t.nf) (f:=t.F) w (O.F.below D.below) Oa) ?_;rintro F w ⟨_,rfl,qb,I⟩
 replace D:=(D.comp I).n4;clear I
 refine⟨⟨fun _=>D.pk [0,1,2],D.pk [0,1,2]⟩,?_⟩
 refine ou 7 (lF (v:= .agg #[.int Oi t.vars,.int Oi t.den,Oh,F,Oh]) (hr:=by obtain⟨_,_,_,_,rfl,_⟩:=qb;kernel_rfl)) ?_
 refine oZ 8 (oh (cs:= [_,_,_,_,_]) Yt D) ?_;rintro _ w ⟨g3,rfl,D⟩
 refine⟨⟨fun _=>D.pk [0,1,2],D.pk [0,1,2]⟩,?_⟩
 refine nR 9 (nD 4 iC D (hd:=(Za rfl (Za rfl (Za rfl (Za qb.one (Za rfl Zj))))))) ?_;clear D;rintro w D
 refine⟨⟨fun h=>absurd h (by decide),D.pk [0,1,2]⟩,?_⟩
 refine lS<|tK ⟨g3,F,qb,rfl,D⟩}
 refine tC (oh (cs:= [_,_,_,_,_]) Yt D) ?_;rintro _ w ⟨g3,rfl,D⟩
 refine⟨⟨fun _=>D.pk [0,1,2],D.pk [0,1,2]⟩,?_⟩
 refine pK 6 (xc0 oD) (lU (n:=t.nf) (f:=t.F) w (O.F.below D.below) Oa) ?_;rintro F w ⟨_,rfl,qb,I⟩
 replace D:=(D.comp I).n5;clear I
 refine⟨⟨fun _=>D.pk [0,1,2],D.pk [0,1,2]⟩,?_⟩
 refine ou 7 (lF (v:= .agg #[.int Oi t.vars,.int Oi t.den,Oh,F,Oh]) (hr:=by obtain⟨_,_,_,_,rfl,_⟩:=qb;kernel_rfl)) ?_
 refine nR 9 (nD 3 iC D (hd:=(Za rfl (Za rfl (Za rfl (Za qb.one (Za rfl Zj))))))) ?_;clear D;rintro w D
 refine⟨⟨fun h=>absurd h (by decide),D.pk [0,1,2]⟩,?_⟩
 refine lS<|tK ⟨g3,F,qb,rfl,D.pk [0,1,2,4,3]⟩}
 clear D w;rintro M w ⟨g3,F,qb,rfl,D⟩
 refine iP<|lW<| ?_
 refine WT (fun M w=>∃(aa:Value) (v1:Value) (v2:Value),(iK aa t.nb)/\(iK v1 1)/\(iK v2 (t.nb+1))/\M= [(0,.agg #[.int Oi t.vars,.int Oi t.den,vB,Y,vC]),(1,.int Oi row),(2,Or Z),(4,Or g2),(5,.int Oi 0),(12,.agg #[.int Oi t.vars,.int Oi t.den,vB,Y,vC]),(13,.int Oi row),(14,.tuple #[J,.int Oi N]),(11,.tuple #[J,.int Oi N]),(15,J),(16,.int Oi N),(6,J),(7,.int Oi N),(18,.int Oi N),(19,B (N≠0)),(17,B (N≠0)),(23,.pointer (some ⟨Z,2,none⟩)),(24,vB),(25,.int Oi t.nb),(26,B (t.nb=16)),(22,B (t.nb=16)),(28,Or Z),(29,.int Oi t.vars),(30,.pointer (some ⟨Z,1,none⟩)),(31,.int Oi t.den),(32,.pointer (some ⟨Z,3,none⟩)),(33,Y),(34,F),(35,.agg #[.int Oi t.vars,.int Oi t.den,Oh,F,Oh]),(8,Or g3),(36,.pointer (some ⟨Z,2,none⟩)),(37,vB),(39,.pointer (some ⟨Z,2,none⟩)),(40,vB),(41,.int Oi t.nb),(42,.pointer (some ⟨Z,3,none⟩)),(43,Y),(44,.int Oi t.nf),(45,.int Oi (t.nb+t.nf)),(38,aa),(46,v1),(47,v2),(48,.pointer (some ⟨g3,2,none⟩))]/\Sat w0 w [.blk Z [.int Oi t.vars,.int Oi t.den,vB,Y,vC],.blk g2 [.int Oi 0,.int Oi 0,Oh,Oh,Oh],.own J 1 3 ae (ints af),.own F 1 3 t.nf (ints t.F),.blk g3 [.int Oi t.vars,.int Oi t.den,v2,F,Oh],.own v2 1 3 (t.nb+1) (ints (snoc t.B t.nb (t.nb+t.nf))),.own v1 1 3 1 (ints (fun _=>t.nb+t.nf))]) ?_ ?_
 {
 refine lg [0,1,4] [0,1] 13 nP D ?_;clear D;intro w D
 refine(b_ 0 (h_ 2 lQ))<|(iQ 1 (fun w D=>(g_ 0 dV D)))<|(b_ 3 (h_ 2 lQ))<|(iQ 4 (fun w D=>(g_ 0 dV D)))<|(b_ 5 (iW Zb O.B.fP))<|(b_ 6 (h_ 3 nK))<|(iQ 7 (fun w D=>(g_ 0 dV D)))<|(b_ 8 (iW Zb O.F.fP))<|(b_ 9 (Zg (r:=t.nb+t.nf)))<|Xw (r:= [2,10]) ((ZY ?_ (ZY ?_ Xv)))
 {
 refine Fb (xc0 oD) (lU (n:=t.nb) (f:=t.B) w (O.B.below D.below) Oa) ?_;rintro aa w ⟨_,rfl,qd,I⟩
 replace D:=(D.comp I).n6;clear I
 refine⟨⟨fun _=>D.pk [0,1,4],D.pk [0,1]⟩,?_⟩
 refine oZ 10 (pO (n:=1) (len:=1) (pv:= [(0,.int Oi (t.nb+t.nf))]) (cs:= [.int Oi (t.nb+t.nf)]) (c:=ints (fun _=>t.nb+t.nf)) Zb Zq D) ?_;rintro v1 w ⟨D,ad⟩
 refine⟨⟨fun _=>D.pk [0,1,4],D.pk [0,1]⟩,?_⟩
 refine oZ 11 (pz 5 (r:=t.nb+1) Zb Zq D (D.f_ 6 rfl) (ZR _ _ _)) ?_;rintro v2 w ⟨D,W⟩
 refine⟨⟨fun _=>D.pk [0,1,4],D.pk [0,1]⟩,?_⟩
 refine(b_ 12 (h_ 2 lQ))<|nR 13 (xsb 4 dV D (hv:=W.one)) ?_;clear D;rintro w D
 refine⟨⟨fun h=>absurd h (by decide),D.pk [0,1]⟩,?_⟩
 refine lS<|tK ⟨aa,v1,v2,qd,ad,W,rfl,D⟩}
 refine tC (pO (n:=1) (len:=1) (pv:= [(0,.int Oi (t.nb+t.nf))]) (cs:= [.int Oi (t.nb+t.nf)]) (c:=ints (fun _=>t.nb+t.nf)) Zb Zq D) ?_;rintro v1 w ⟨D,ad⟩
 refine⟨⟨fun _=>D.pk [0,1,4],D.pk [0,1]⟩,?_⟩
 refine pK 2 (xc0 oD) (lU (n:=t.nb) (f:=t.B) w (O.B.below D.below) Oa) ?_;rintro aa w ⟨_,rfl,qd,I⟩
 replace D:=(D.comp I).n7;clear I
 refine⟨⟨fun _=>D.pk [0,1,4],D.pk [0,1]⟩,?_⟩
 refine oZ 11 (pz 6 (r:=t.nb+1) Zb Zq D (D.f_ 5 rfl) (ZR _ _ _)) ?_;rintro v2 w ⟨D,W⟩
 refine⟨⟨fun _=>D.pk [0,1,4],D.pk [0,1]⟩,?_⟩
 refine(b_ 12 (h_ 2 lQ))<|nR 13 (xsb 4 dV D (hv:=W.one)) ?_;clear D;rintro w D
 refine⟨⟨fun h=>absurd h (by decide),D.pk [0,1]⟩,?_⟩
 refine lS<|tK ⟨aa,v1,v2,qd,ad,W,rfl,D.pk [0,1,2,3,4,6,5]⟩}
 clear D w;rintro M w ⟨aa,v1,v2,qd,ad,W,rfl,D⟩
 refine iP<|lW<|fQ<|(zV (h_ 4 iY))<|(zV (g_ 0 Zz D))<|(zV (iW Zk O.C.row.fP))<|(zP)<|nI ?_
 replace D:=D.fU 1 22 (fun _=>Oh)
 replace D:=D.iF 3 (fun _=>Oh) t.ln t.C
 have zL:=fun k (k0:0<=k) (k1:k<0)=>D.iw 8 rfl k0 k1
 refine ny (fun mm M w=>∃(U:Int) (wv:Ov) (i:Int) (wC:Value),mm=((t.nc-i).toNat)/\(0<=i)/\(i<=t.nc)/\(U=i)/\(iK wC U)/\M= [(4,Or g2),(5,.int Oi 0),(6,J),(8,Or g3),(50,vC),(51,.int Oi t.nc),(52,.int Oi i)]/\Sat w0 w [.blk Z [.int Oi t.vars,.int Oi t.den,vB,Y,vC],.blk g2 [.int Oi 0,.int Oi 0,Oh,Oh,Oh],.own J 1 3 ae (ints af),.own F 1 3 t.nf (ints t.F),.blk g3 [.int Oi t.vars,.int Oi t.den,v2,F,wC],.own v2 1 3 (t.nb+1) (ints (snoc t.B t.nb (t.nb+t.nf))),.own v1 1 3 1 (ints (fun _=>t.nb+t.nf)),.own wC 1 22 U wv,.sem (Frame.rows 3 U wv t.ln t.C)]) ⟨0,(fun _=>Oh),0,Oh,rfl,Oa,Oa,Oa,?_,rfl,D⟩ ?_
 {
 exact d_}
 clear D w
 rintro mm M w ⟨U,wv,i,wC,rfl,h0,h1,ap,am,rfl,D⟩
 have q9:=fun k (k0:0<=k) (k1:k<U)=>D.iw 8 rfl k0 k1
 refine fQ<|(zP)<|nG<|Zf ?_ ?_<;>intro hc
 {
 refine oC<|(zV (iy (kk:=i) Zk O.C.row.fP))<|iI (iR (u:=(vv i)) dV (O.C.row.below D.below)) ?_
 have ar:=hp.len (i:=i) Oa Oa
 refine(zP)<|ig<|lg [0,1,4] [0,1] 7 nP D ?_;clear D;intro w D
 refine(b_ 0 (h_ 4 iY))<|sQ 1 (fun w D=>(g_ 2 Zz D)) ?_
 refine(b_ 2 gu)<|pK 3 (xc0 oD) (lU (n:=(t.ln i)) (f:=(t.C i)) w ((O.C.p i Oa Oa).below D.below) Oa) ?_;rintro ab w ⟨_,rfl,qf,I⟩
 replace D:=(D.comp I).n10;clear I
 refine⟨⟨fun _=>D.pk [0,1,4],D.pk [0,1]⟩,?_⟩
 refine oZ 4 (pO (n:=1) (len:=1) (pv:= [(0,ab)]) (cs:= [ab]) (c:=(fun _=>ab)) Zk ZQ D (hf:=by obtain⟨_,_,_,_,rfl,_⟩:=qf;kernel_rfl)) ?_;rintro v3 w ⟨D,ao⟩
 refine⟨⟨fun _=>D.pk [0,1,4],D.pk [0,1]⟩,?_⟩
 refine oZ 5 (pz 7 (r:=U+1) Zk ZQ D (D.f_ 10 rfl) (YA _ _ _) (h1:=fun _ _ _=>qf.one)) ?_;rintro v4 w ⟨D,ag⟩
 replace D:=Sat.merge (l1:= [_,_,_,_,_,_,_,_]) (l2:= []) (l3:= [_]) D Oa
 have xV:=fun k (k0:0<=k) (k1:k<U+1)=>D.iw 8 rfl k0 k1
 refine⟨⟨fun _=>D.pk [0,1,4],D.pk [0,1]⟩,?_⟩
 refine(b_ 6 (h_ 4 iY))<|nR 7 (xsb 4 Zz D (hv:=ag.one)) ?_;clear D;rintro w D
 refine⟨⟨fun h=>absurd h (by decide),D.pk [0,1]⟩,?_⟩
 refine lS<|ng<|iP<|lG ?_
 refine iI (Zg (r:=i+1)) ?_
 replace D:=D.oP (xk:=lD wv U ab) (vT:=t.ln) (f':=t.C) 8 rfl (fun k k0 k1=>by
   by_cases e:k<i
   · exact⟨rfl,Zl Oa,fun j _ _=>by rw [Zl Oa]⟩
   {
   have aj:k=i:=Oa
   refine⟨rfl,?_,fun b b0 b1=> ?_⟩
   · rw [Zo Oa,aj]
   · rw [Zo Oa,aj]}
   )
 have mA:=fun k (k0:0<=k) (k1:k<U+1)=>D.iw 8 rfl k0 k1
 refine(zP)<|iq<|jm ⟨U+1,lD wv U ab,i+1,v4,rfl,Oa,Oa,Oa,?_,rfl,D.pk [0,1,2,3,4,5,6,7,8]⟩
 {
 exact ag}}
 refine oM<|iI (h_ 4 iY) ?_
 have ak:U=t.nc:=Oa
 refine(zV (g_ 4 Zz D))<|(zP)<|iG (pO (n:=1) (len:=1) (pv:= [(0,J)]) (cs:= [J]) (c:=(fun _=>J)) Zk ZQ D (hf:=by obtain⟨_,_,_,_,rfl,_⟩:=cr;kernel_rfl)) ?_;rintro v5 w ⟨D,an⟩
 refine iG (pz 7 (r:=U+1) Zk ZQ D (D.f_ 9 rfl) (YA _ _ _) (h1:=fun _ _ _=>cr.one)) ?_;rintro v6 w ⟨D,ac⟩
 replace D:=Sat.Bd (l1:= [_,_]) (l2:= [_,_,_,_,_]) (l3:= [_]) D Oa
 have jh:=fun k (k0:0<=k) (k1:k<U+1)=>D.iw 7 rfl k0 k1
 refine(zV (h_ 4 iY))<|lJ (xsb 3 Zz D (hv:=ac.one)) ?_;clear D;rintro w D
 refine iT<|iI (lH 3 iC D) ?_
 replace D:=D.oP (xk:=lD wv U J) (vT:=(Wf t row).ln) (f':=(Wf t row).C) 7 rfl (fun k k0 k1=>by
   dsimp only [Wf]
   by_cases e:k<t.nc
   {
   refine⟨rfl,?_,fun j _ _=> ?_⟩
   · rw [Zl Oa,Zl e]
   · rw [Zl Oa,Zl e]}
   {
   refine⟨rfl,?_,fun b b0 b1=> ?_⟩
   · rw [Zo Oa,Zo e];exact al
   · rw [Zo Oa,Zo e];exact hcf b b0 (by rw [Zo Oa] at b1;exact b1)}
   )
 have mz:=fun k (k0:0<=k) (k1:k<U+1)=>D.iw 7 rfl k0 k1
 refine lJ (nD 1 iC D (hd:=(Za rfl (Za rfl (Za W.one (Za qb.one (Za ac.one Zj))))))) ?_;clear D;rintro w D
 refine(zP)<|jk<|Ye 1 iC D ⟨_,rfl,?_⟩
 rw [ak] at D ac
 exact⟨_,_,_,_,Wf t row,0,rfl,.inr (.inr (.inr (.inr ⟨hp,hr0,ah,ai,Oa,rfl,rfl⟩))),W,qb,ac,D.pk [4,2,6,7]⟩
theorem Gv:Zc Om 95=true:=Oc
theorem ZpZ:Zc Om 96=true:=Oc
theorem ZpY:Zc Om 97=true:=Oc
structure GX where
  t:Tb
  vB:Value
  vF:Value
  vC:Value
  vv:Ov
  fr:Prop
  e:Int
inductive Rn (p:Lp):List Tb->Tb->Int->Prop
  |start {t:Tb} {e:Int} (h:vW p t e):Rn p [] t e
  |cut {us:List Tb} {t u t':Tb} {e':Int} (h:Rn p us t 0) (ho:rX t u 0) (hp:lK u) (hf:0<=sN u u.nb.toNat) (ha:Ad u (sN u u.nb.toNat) t' e'):Rn p (us++ [u]) t' e'
def Nq(s:List GX):Prop:=∀y∈s,y.fr/\y.e=0
def vG(p:Lp)(s:List GX)(x:GX)(rest:Gw.Frame):Prop:=∃t e,Rn p (s.map GX.t) t e/\Nq s/\iK x.vB x.t.nb/\iK x.vF x.t.nf/\iK x.vC x.t.nc/\
  ((x.e≠0/\¬x.fr/\((e=x.e/\e≠0)\/(e=0/\∃u,rX t u x.e)))\/
   (x.e=0/\e=0/\rX t x.t 0/\lK x.t/\(x.fr↔0<=sN x.t x.t.nb.toNat)/\∀w,rest.holds w->uI w x.vB x.vF x.vC x.vv x.t))
def Zrk(p:Lp)(Kx:GX->Prop)(s:List GX)(rest:Gw.Frame):Prop:=∃s' x,s=s'++ [x]/\Kx x/\vG p s' x rest/\¬x.fr
theorem rX.Am{t u:Tb}(h:rX t u 0):lK u/\u.nb=t.nb:=by
 obtain⟨F,f,hr,⟨hf,_,rfl⟩|⟨hf,D,_⟩⟩:=h
 · subst hf;exact⟨(hr.fin (.inl rfl)).1,hr.uP.1⟩
 · exact absurd D.symm hf
theorem Zl4{w:World}{l:List iO}{vB I J:Value}{vv:Ov}{t:Tb}{E1 E2 Z Y:TypeId}(h:(Frame.rG l).holds w)(h1:iO.own vB 1 E1 t.nb (ints t.B)∈l)(W:iO.own I 1 E2 t.nf (ints t.F)∈l)(U:iO.own J 1 Z t.nc vv∈l)(O:iO.sem (Frame.rows Y t.nc vv t.ln t.C)∈l):uI w vB I J vv t:=
 have N:=h.1 _ O
 ⟨(h.1 _ h1).row,(h.1 _ W).row,(h.1 _ U).row,fun k F D=>(N.1 k F D).row,fun k F D=>(N.1 k F D).roomy⟩
theorem Zf7{vc vA vb:Value}{vq:Ov}{p:Lp}{gp:Nat}{St Tt:Type}(Y:St->List GX)(s0:St)(ag:Y s0= [])(Kx:GX->Prop)(Sx:St->GX->Tt->Prop)(w0:World)(hL:BQ w0 vc vA vb vq p):Hg (St:=St) (X:=GX) (Tt:=Tt) Om w0 93 [Or gp] [.blk gp [vc,vA,vb]] (fun x=> [.agg #[.int Oi x.t.vars,.int Oi x.t.den,x.vB,x.vF,x.vC,B x.fr,.int Oi x.e]]) (fun s x rest=>vG p (Y s) x rest) (fun s x s1=>Y s1=Y s++ [x]/\Kx x) (Sx) (s0) (fun s rest=>Zrk p Kx (Y s) rest) (fun t rest=>∃s x,Sx s x t/\vG p (Y s) x rest):=by
 intro l C D w I hY
 have hn:=hL.c.fP.n0;have aw:=hL.c.fP.n1;have hm:=hL.A.row.fP.n0;have ax:=hL.A.row.fP.n1;have hk:=hL.b.fP.n0;have az:=hL.b.fP.n1
 refine FI Tryz.func93 Tryz.ntmps93 ?_
 refine jw<|hrz ?_
 refine iI (lH 1 G7 I) ?_
 refine iJ (xc0 OU) (Sm (p:=p) w (hL.below I.below)) ?_;rintro _ w ⟨qy,qx,qn,qp,O,an,rfl,yP,yb,x9,ya,J⟩
 replace I:Sat w0 w [.sem (C s0),.blk gp [vc,vA,vb],.own qy 1 3 O.nb (ints O.B),.own qx 1 3 O.nf (ints O.F),.own qn 1 22 O.nc qp,.sem (Frame.rows 3 O.nc qp O.ln O.C)]:=I.comp J;clear J
 have cz:=fun k (W:0<=k) (U:k<O.nc)=>I.iw 5 rfl W U
 refine C9 ?_
 refine iG (oh (cs:= [_,_,_,_,_]) Yt I) ?_;rintro _ w ⟨g1,rfl,I⟩
 replace I:=I.n7
 refine lJ (nD 6 iC I (hd:=(Za rfl (Za rfl (Za yb.one (Za x9.one (Za ya.one Zj))))))) ?_;clear I;rintro w I
 replace I:=I.n7
 refine iI nU ?_
 refine iq<|zh<|htn<|hbk<|hlp (fun mm M w=>∃(s:St) (t:Tb) (vB:Value) (vF:Value) (vC:Value) (vv:Ov) (e:Int),mm=(if e=0 then(20-t.nb).toNat else 0)/\(Rn p ((Y s).map GX.t) t e)/\(Nq (Y s))/\(iK vB t.nb)/\(iK vF t.nf)/\(iK vC t.nc)/\M= [(0,.func (.yield l) #[] #[]),(3,Or g1),(4,.int Oi e)]/\Sat w0 w [.sem (C s),.blk gp [vc,vA,vb],.blk g1 [.int Oi t.vars,.int Oi t.den,vB,vF,vC],.own vB 1 3 t.nb (ints t.B),.own vF 1 3 t.nf (ints t.F),.own vC 1 22 t.nc vv,.sem (Frame.rows 3 t.nc vv t.ln t.C)]) ⟨s0,O,qy,qx,qn,qp,an,rfl,?_,?_,?_,?_,?_,rfl,I.pk [0,1,6,2,3,4,5]⟩ ?_
 {
 rw [ag];exact .start yP}
 {
 rw [ag];intro y hy;cases hy}
 {
 exact yb}
 {
 exact x9}
 {
 exact ya}
 clear I w
 rintro mm M w ⟨s,t,vB,vF,vC,vv,e,rfl,ac,ab,ar,ap,aq,rfl,I⟩
 have au:=fun k (W:0<=k) (U:k<t.nc)=>I.iw 6 rfl W U
 refine hbk<|jw<|jw<|hrz ?_
 refine zs2 ?_
 refine iq<|zh<|htn ?_
 refine Yv ?_ ?_<;>intro hc
 {
 refine hrz ?_
 refine iI (lH 2 iC I) ?_
 refine iJ (xc0 Gv) (Bj (t:=t) w (⟨(I.f_ 3 rfl),(I.f_ 4 rfl),(⟨(I.f_ 5 rfl),fun k W U=>I.lI 6 rfl W U,fun k W U=>I.lV 6 rfl W U⟩:sO _ vC t.nc vv t.ln t.C)⟩:uI _ vB vF vC vv t)) ?_;rintro _ w ⟨yr,yq,Z,xP,F,ad,rfl,cD,bc,aZ,ba,J⟩
 replace I:Sat w0 w [.sem (C s),.blk gp [vc,vA,vb],.blk g1 [.int Oi t.vars,.int Oi t.den,vB,vF,vC],.own vB 1 3 t.nb (ints t.B),.own vF 1 3 t.nf (ints t.F),.own vC 1 22 t.nc vv,.sem (Frame.rows 3 t.nc vv t.ln t.C),.own yr 1 3 F.nb (ints F.B),.own yq 1 3 F.nf (ints F.F),.own Z 1 22 F.nc xP,.sem (Frame.rows 3 F.nc xP F.ln F.C)]:=I.comp J;clear J
 have kF:=fun k (W:0<=k) (U:k<F.nc)=>I.iw 10 rfl W U
 refine C9 ?_
 refine lJ (nD 2 iC I (hd:=(Za rfl (Za rfl (Za bc.one (Za aZ.one (Za ba.one Zj))))))) ?_;clear I;rintro w I
 replace I:=I.n11
 refine iI nU ?_
 refine iq<|zh<|htn<|jw<|jw<|hrz ?_
 refine zs2 ?_
 refine iq<|zh<|htn ?_
 refine Yv ?_ ?_<;>intro hc
 {
 refine jw<|hrg ?_
 iterate 2 refine hlv gu ?_
 refine hlv (lF (v:= .agg #[.int Oi 0,.int Oi 0,Oh,Oh,Oh,.bool false,.int Oi ad])) ?_
 refine NY 24 (u:= .agg #[.int Oi 0,.int Oi 0,Oh,Oh,Oh,B (False),.int Oi ad]) (by rw [ZB not_false]) ?_
 obtain rfl:e=0:=Oa
 have qv:vG p (Y s) ⟨Tb.zero,Oh,Oh,Oh,fun _=>undef,False,ad⟩ (Frame.rG [.blk g1 [.int Oi F.vars,.int Oi F.den,yr,yq,Z],.own vB 1 3 t.nb (ints t.B),.own vF 1 3 t.nf (ints t.F),.own vC 1 22 t.nc vv,.sem (Frame.rows 3 t.nc vv t.ln t.C),.own yr 1 3 F.nb (ints F.B),.own yq 1 3 F.nf (ints F.F),.own Z 1 22 F.nc xP,.sem (Frame.rows 3 F.nc xP F.ln F.C)]):=⟨t,0,ac,ab,d_,d_,d_,.inl ⟨by omega,not_false,.inr ⟨rfl,_,cD⟩⟩⟩
 refine EG (hY s _ _ w qv (Sat.bundle (l1:= [_,_]) I)) ?_;rintro _ w (⟨rfl,al,qs,I⟩|⟨rfl,aj,xe,I⟩)
 {
 replace I:=Sat.unbundle (l1:= [_,_]) (l3:= []) I
 replace I:=I.n11
 refine hln<|htn<|hrt<|m_<|og<|m_<|og<|Ae ⟨_,rfl,?_⟩
 exact .inl ⟨al,_,⟨Y s,_,qs.1,qs.2,qv,by first|exact not_false|assumption⟩,Sat.bundle (l1:= [_,_]) I⟩}
 {
 replace I:=Sat.unbundle (l1:= [_,_]) (l3:= []) I
 replace I:=I.n11
 refine hln<|htn<|hrt<|m_<|og<|m_<|og<|Ae ⟨_,rfl,?_⟩
 exact .inr ⟨aj,_,⟨s,_,xe,qv⟩,Sat.bundle (l1:= [_,_]) I⟩}}
 refine hsk<|htn<|jw<|hrz ?_
 refine iI (lH 2 iC I) ?_
 refine iJ (xc0 ZpZ) (ZoQ (t:=F) w (⟨(I.f_ 7 rfl),(I.f_ 8 rfl),(⟨(I.f_ 9 rfl),fun k W U=>I.lI 10 rfl W U,fun k W U=>I.lV 10 rfl W U⟩:sO _ Z F.nc xP F.ln F.C)⟩:uI _ yr yq Z xP F)) ?_;rintro _ w ⟨af,c7,ao,rfl,cI,J⟩
 replace I:=I.cmp J;clear J
 refine En ?_
 refine iI nU ?_
 refine iq<|zh<|htn<|jw<|jw<|hrg ?_
 refine hlv gu ?_
 refine hlv (lH 2 iC I) ?_
 refine hlv gu ?_
 refine hlv (lF (v:= .agg #[.int Oi F.vars,.int Oi F.den,yr,yq,Z,B (c7),.int Oi 0]) (hr:=by obtain⟨_,_,_,_,rfl,_⟩:=bc;obtain⟨_,_,_,_,rfl,_⟩:=aZ;obtain⟨_,_,_,_,rfl,_⟩:=ba;kernel_rfl)) ?_
 obtain rfl:e=0:=Oa
 have dD:rX t F 0:=by have:=cD;rwa [show ad=0 by omega] at this
 have aa:=dD.Am
 obtain⟨_,mS,dP,mR⟩:lK F/\af=max (sN F F.nb.toNat) 0/\(c7↔0<=sN F F.nb.toNat)/\ao=0:=cI.resolve_left (fun h=>h.1 aa.1)
 have xb:vG p (Y s) ⟨F,yr,yq,Z,xP,c7,0⟩ (Frame.rG [.blk g1 [.int Oi F.vars,.int Oi F.den,yr,yq,Z],.own vB 1 3 t.nb (ints t.B),.own vF 1 3 t.nf (ints t.F),.own vC 1 22 t.nc vv,.sem (Frame.rows 3 t.nc vv t.ln t.C),.own yr 1 3 F.nb (ints F.B),.own yq 1 3 F.nf (ints F.F),.own Z 1 22 F.nc xP,.sem (Frame.rows 3 F.nc xP F.ln F.C)]):=⟨t,0,ac,ab,bc,aZ,ba,.inr ⟨rfl,rfl,dD,aa.1,dP,fun w h=>Zl4 h (List.mem_of_getElem? (i:=5) rfl) (List.mem_of_getElem? (i:=6) rfl) (List.mem_of_getElem? (i:=7) rfl) (List.mem_of_getElem? (i:=8) rfl)⟩⟩
 refine EG (hY s _ _ w xb (Sat.bundle (l1:= [_,_]) I)) ?_;rintro _ w (⟨rfl,ae,ay,I⟩|⟨rfl,ai,dT,I⟩)
 {
 replace I:=Sat.unbundle (l1:= [_,_]) (l3:= []) I
 replace I:=I.n11
 refine hlv tH ?_
 iterate 2 refine hlv gu ?_
 refine hlv YL ?_
 refine hlv pY ?_
 refine hln<|htn ?_
 refine Yv ?_ ?_<;>intro hc
 {
 refine hrt<|m_<|og<|m_<|og<|Ae ⟨_,rfl,?_⟩
 exact .inl ⟨ae,_,⟨Y s,_,ay.1,ay.2,xb,by first|exact not_false|assumption⟩,Sat.bundle (l1:= [_,_]) I⟩}
 refine hsk<|htn<|hrz ?_
 refine iI (lH 2 iC I) ?_
 refine iI gu ?_
 have av:=cI.rng;have a0:=aa.1.m2
 refine iJ (xc0 ZpY) (ZqN (t:=F) (row:=af) w (⟨(I.f_ 7 rfl),(I.f_ 8 rfl),(⟨(I.f_ 9 rfl),fun k W U=>I.lI 10 rfl W U,fun k W U=>I.lV 10 rfl W U⟩:sO _ Z F.nc xP F.ln F.C)⟩:uI _ yr yq Z xP F) Oa) ?_;rintro _ w ⟨ez,ev,ew,cW,N,am,rfl,cQ,cy,cw,cx,J⟩
 replace I:Sat w0 w [.sem (C ae),.blk gp [vc,vA,vb],.blk g1 [.int Oi F.vars,.int Oi F.den,yr,yq,Z],.own vB 1 3 t.nb (ints t.B),.own vF 1 3 t.nf (ints t.F),.own vC 1 22 t.nc vv,.sem (Frame.rows 3 t.nc vv t.ln t.C),.own yr 1 3 F.nb (ints F.B),.own yq 1 3 F.nf (ints F.F),.own Z 1 22 F.nc xP,.sem (Frame.rows 3 F.nc xP F.ln F.C),.own ez 1 3 N.nb (ints N.B),.own ev 1 3 N.nf (ints N.F),.own ew 1 22 N.nc cW,.sem (Frame.rows 3 N.nc cW N.ln N.C)]:=I.comp J;clear J
 have kE:=fun k (W:0<=k) (U:k<N.nc)=>I.iw 14 rfl W U
 refine C9 ?_
 refine lJ (nD 2 iC I (hd:=(Za rfl (Za rfl (Za cy.one (Za cw.one (Za cx.one Zj))))))) ?_;clear I;rintro w I
 replace I:=I.n15
 refine iI nU ?_
 refine iq<|zh<|ng<|hlq ⟨ae,N,ez,ev,ew,cW,am,rfl,?_,?_,?_,?_,?_,rfl,I.pk [0,1,2,11,12,13,14]⟩ (hlt:=(by rw [if_pos rfl];have hd1:=aa.2;have hd2:=aa.1.m2;split<;>rename_i hz;(have hq:=cQ.nb hz;omega);omega))
 {
 rw [ay.1,List.map_append]
 exact .cut ac dD aa.1 (dP.1 Oe) (by have hq:=cQ;rwa [show af=sN F F.nb.toNat by have:=dP.1 Oe;omega] at hq)}
 {
 rw [ay.1];intro y hy;rcases List.mem_append.1 hy with hy|hy
 · exact ab y hy
 · obtain rfl:=List.mem_singleton.1 hy;exact⟨Oe,rfl⟩}
 {
 exact cy}
 {
 exact cw}
 {
 exact cx}}
 {
 replace I:=Sat.unbundle (l1:= [_,_]) (l3:= []) I
 replace I:=I.n11
 refine hlv tJ ?_
 refine hlv gu ?_
 iterate 2 refine hlo ?_
 refine hlv qj ?_
 refine hln<|htn<|hct<|hrt<|m_<|og<|m_<|og<|Ae ⟨_,rfl,?_⟩
 exact .inr ⟨ai,_,⟨s,_,dT,xb⟩,Sat.bundle (l1:= [_,_]) I⟩}}
 refine hsk<|htn<|jw<|jw<|hrz ?_
 refine zs2 ?_
 refine iq<|zh<|htn ?_
 refine Yv ?_ ?_<;>intro hc
 {
 refine jw<|hrg ?_
 iterate 2 refine hlv gu ?_
 refine hlv (lF (v:= .agg #[.int Oi 0,.int Oi 0,Oh,Oh,Oh,.bool false,.int Oi e])) ?_
 refine NY 24 (u:= .agg #[.int Oi 0,.int Oi 0,Oh,Oh,Oh,B (False),.int Oi e]) (by rw [ZB not_false]) ?_
 have zQ:vG p (Y s) ⟨Tb.zero,Oh,Oh,Oh,fun _=>undef,False,e⟩ (Frame.rG [.blk g1 [.int Oi t.vars,.int Oi t.den,vB,vF,vC],.own vB 1 3 t.nb (ints t.B),.own vF 1 3 t.nf (ints t.F),.own vC 1 22 t.nc vv,.sem (Frame.rows 3 t.nc vv t.ln t.C)]):=⟨t,e,ac,ab,d_,d_,d_,.inl ⟨by omega,not_false,.inl ⟨rfl,Oa⟩⟩⟩
 refine EG (hY s _ _ w zQ (Sat.bundle (l1:= [_,_]) I)) ?_;rintro _ w (⟨rfl,ak,fp,I⟩|⟨rfl,ah,jM,I⟩)
 {
 replace I:=Sat.unbundle (l1:= [_,_]) (l3:= []) I
 replace I:=I.n7
 refine hln<|htn<|hrt<|m_<|og<|m_<|og<|Ae ⟨_,rfl,?_⟩
 exact .inl ⟨ak,_,⟨Y s,_,fp.1,fp.2,zQ,by first|exact not_false|assumption⟩,Sat.bundle (l1:= [_,_]) I⟩}
 {
 replace I:=Sat.unbundle (l1:= [_,_]) (l3:= []) I
 replace I:=I.n7
 refine hln<|htn<|hrt<|m_<|og<|m_<|og<|Ae ⟨_,rfl,?_⟩
 exact .inr ⟨ah,_,⟨s,_,jM,zQ⟩,Sat.bundle (l1:= [_,_]) I⟩}}
 exfalso;omega
theorem Ziz{vc vA vb:Value}{D:Ov}{p:Lp}(w0:World)(F:BQ w0 vc vA vb D p):
   Calls Om 44 [.agg #[vc,vA,vb]].toArray w0 fun e w=>∃v,e= .returned v/\∃g,v= .func (.func 93) #[] #[Or g]/\Sat w0 w [.blk g [vc,vA,vb]]:=by
 refine iE Tryz.func44 Tryz.ntmps44 fun w h=> ?_
 refine fQ<|iG (nS (cs:= [_,_,_]) h) ?_;rintro _ w ⟨I,rfl,h⟩
 refine(zP)<|iT<|(zV wX)<|(zP)<|jk<|Oj ?_
 exact⟨_,rfl,h⟩
variable {e:Int} {us:List Tb} {t:Tb}
def GX.wu:GX:=⟨Tb.zero,Oh,Oh,Oh,fun _=>undef,False,0⟩
def Vd(s:List GX):GX:=s.getLast?.getD GX.wu
theorem VZ(s:List GX)(x:GX):Vd (s++ [x])=x:=by simp [Vd]
open Classical in
noncomputable def wV:List GX->Int
  | []=>0
  |y::s=>(if y.fr then 1 else 0)+wV s
theorem RF(s:List GX)(x:GX):(x.fr->wV (s++ [x])=wV s+1)/\(¬x.fr->wV (s++ [x])=wV s):=by
 induction s with
 |nil=>exact⟨fun h=>by simp [wV,h],fun h=>by simp [wV,h]⟩
 | cons y s ih=>
   refine⟨fun h=> ?_,fun h=> ?_⟩
   · have:=ih.1 h;simp only [List.cons_append,wV];omega
   · have:=ih.2 h;simp only [List.cons_append,wV];omega
theorem Qm:∀{s:List GX},Nq s->wV s=s.length
 | [],_=>rfl
 | y::s,h=>by
   have h1:=Qm (s:=s) fun z D=>h z (by simp [D])
   simp only [wV,h1,(h y (by simp)).1,if_true,List.length_cons];omega
theorem Mc:∀s:List GX,0<=wV s/\wV s<=s.length
 | []=>by simp [wV]
 | y::s=>by
   have h1:=Mc s
   simp only [wV,List.length_cons];split<;>omega
theorem Rn.len{p:Lp}(h:Rn p us t e)(D:e=0)(F:0<=p.m):(t.nb=p.m+us.length):=by
 induction h with
 |start h=>rcases h with⟨_,_,h⟩|⟨_,rfl,_⟩;exact absurd D Oa;simp [Zx]
 | cut h ho hp' hf ha ih=>
   have h1:=ih rfl
   have J:=ha.nb D
   have I:=ho.Am.2
   simp only [List.length_append,List.length_singleton];omega
def TR(p:Lp)(n:Int)(f:Of)(val cuts e:Int):Prop:=
  (e≠0/\n=0/\val=0/\cuts=0/\∃us t e',Rn p us t e'/\((e'=e/\e'≠0)\/(e'=0/\∃u,rX t u e)))\/
    (e=0/\∃us t u,Rn p us t 0/\rX t u 0/\lK u/\sN u u.nb.toNat<0/\cuts=(us.length:Int)/\n=u.nf/\(∀j,0<=j->j<n->f j=(t_ u u.nb.toNat j).tdiv u.den)/\val=ZG f p.c n.toNat)
def qX(u:Tb):Nat->Int->Int
  |0=>fun _=>0
  |k+1=>if u.B k<u.vars then upd (qX u k) (u.B k) ((u.C (k+1) 0).tdiv u.den) else qX u k
theorem QW(u:Tb){i:Int}(h:0<=i):qX u (i+1).toNat=if u.B i<u.vars then upd (qX u i.toNat) (u.B i) ((u.C (i+1) 0).tdiv u.den) else qX u i.toNat:=by
 obtain⟨k,rfl⟩:=Int.eq_ofNat_of_zero_le h
 simp only [Int.toNat_natCast,show((k:Int)+1).toNat=k+1 by omega,qX]
theorem W8(u:Tb){j:Int}(h:j<u.vars)(K:Nat):qX u K j=(t_ u K j).tdiv u.den:=by
 rw [<-TC u h]
 induction K with
 |zero=>simp [qX,Af]
 | succ k ih=>
   simp only [qX,Af]
   split
   {
   unfold upd;split
   · rfl
   · exact ih}
   · exact ih
theorem QA{u:Tb}(h:lK u)(j:Int):∀K:Nat,(K:Int)<=u.nb-> -1073741824<=qX u K j/\qX u K j<=1073741824
 |0,_=>by simp [qX]
 | k+1,hk=>by
   have D:=QA h j k Oa
   have F:=h.n1
   have hc:=h.cell (i:=k+1) (j:=0) Oa Oa Oa Oa
   have:=YM h.d1 hc
   simp only [qX]
   split
   {
   unfold upd;split
   · exact this
   · exact D}
   · exact D
theorem rX.uP{t u:Tb}(h:rX t u 0):u.nf=t.nf/\u.vars=t.vars:=by
 obtain⟨F,f,hr,⟨hf,_,rfl⟩|⟨hf,D,_⟩⟩:=h
 · exact⟨hr.uP.2.1,hr.uP.2.2.2⟩
 · exact absurd D.symm hf
theorem Rn.uP{p:Lp}{us:List Tb}{t:Tb}{e:Int}(h:Rn p us t e)(D:e=0):t.nf=p.n/\t.vars=p.n:=by
 induction h with
 |start h=>rcases h with⟨_,_,h⟩|⟨h,rfl,_⟩;exact absurd D Oa;exact⟨rfl,rfl⟩
 | cut h ho hp' hf ha ih=>
   have h1:=ih rfl
   have F:=ho.uP
   rcases ha with⟨_,_,h⟩|⟨_,_,_,h⟩|⟨_,_,_,_,_,h⟩|⟨_,_,_,_,_,_,h⟩|⟨_,_,_,_,_,rfl,_⟩<;>first|omega|exact⟨by show _=_;unfold Wf;dsimp only;omega,by show _=_;unfold Wf;dsimp only;omega⟩
theorem Rn.NG{p:Lp}(h:Rn p us t e)(D:e=0):wL p:=by
 induction h with
 |start h=>rcases h with⟨_,_,h⟩|⟨h,_⟩;exact absurd D Oa;exact h
 |cut h ho hp' hf ha ih=>exact ih rfl
theorem vG.sB{p:Lp}{s:List GX}{x:GX}{rest:Gw.Frame}(h:vG p s x rest):iK x.vB x.t.nb:=by obtain⟨_,_,_,_,h,_⟩:=h;exact h
theorem vG.sF{p:Lp}{s:List GX}{x:GX}{rest:Gw.Frame}(h:vG p s x rest):iK x.vF x.t.nf:=by obtain⟨_,_,_,_,_,h,_⟩:=h;exact h
theorem vG.sC{p:Lp}{s:List GX}{x:GX}{rest:Gw.Frame}(h:vG p s x rest):iK x.vC x.t.nc:=by obtain⟨_,_,_,_,_,_,h,_⟩:=h;exact h
theorem vG.len{p:Lp}{s:List GX}{x:GX}{rest:Gw.Frame}(h:vG p s x rest)(D:0<=p.m):(s.length:Int)<=100:=by
 obtain⟨t,e,hr,F,_,_,_,J⟩:=h
 have key:∀{us:List Tb} {t:Tb} {e:Int},Rn p us t e->(us.length:Int)<=17:=fun h=>by
   cases h with
   |start h=>simp
   | cut h ho hq hf ha=>
     have h1:=h.len rfl D
     have I:=ho.Am
     have N:=I.1.m2
     simp only [List.length_append,List.length_singleton];omega
 have:=key hr
 rw [List.length_map] at this;omega
end Go.Proofs.YtpnamgfdakfccaaGreat
namespace Go.Proofs.YtpnamgfdakfccaaGreat
open Go Go.RowKit Go.Proofs.Gw
theorem Zqj:Zc Om 44=true:=Oc
theorem Zp0:Zc Om 93=true:=Oc
theorem Qb:ZN Om 109=some (.agg #[.int Oi 0,.int Oi 0,Oh,Oh,Oh,.bool false,.int Oi 0],7,104):=Oc
theorem Vf:Zw Om 109 0=some 0:=Oc
theorem ZhB:Zw Om 109 1=some 5:=Oc
theorem Aw:Zw Om 109 2=some 6:=Oc
theorem ZqZ:ZF Om 4=true:=Oc
theorem T5:ZC Om 109=some 7:=Oc
theorem ZiW{vc vA vb:Value}{vq:Ov}{p:Lp}(w0:World)(hL:BQ w0 vc vA vb vq p):
   Calls Om 19 [.agg #[vc,vA,vb]].toArray w0 fun e w=>∃v,e= .returned v/\∃r n f val cuts e,v= .tuple #[r,.int Oi val,.int Oi cuts,.int Oi e]/\TR p n f val cuts e/\iK r n/\Sat w0 w [.own r 1 3 n (ints f)]:=by
 have hn:=hL.c.fP.n0;have ax:=hL.c.fP.n1;have hm:=hL.A.row.fP.n0;have az:=hL.A.row.fP.n1;have hk:=hL.b.fP.n0;have a0:=hL.b.fP.n1
 refine GK Tryz.func19 Tryz.ntmps19 fun w D=> ?_
 refine jw<|hrz ?_
 refine iG (nS (cs:= [_,_,_]) D) ?_;rintro _ w ⟨g1,rfl,D⟩
 refine iG (oh (cs:= [_]) ZQ D) ?_;rintro _ w ⟨g2,rfl,D⟩
 refine iG (oh (cs:= [_]) Zq D) ?_;rintro _ w ⟨g3,rfl,D⟩
 refine iG (oh (cs:= [_]) Zq D) ?_;rintro _ w ⟨g4,rfl,D⟩
 refine iG (oh (cs:= [_]) OY D) ?_;rintro _ w ⟨g5,rfl,D⟩
 refine iq<|zh<|htn<|jw<|hrz ?_
 refine iG (oh (cs:= [_,_,_,_,_,_,_]) Qb D) ?_;rintro _ w ⟨g6,rfl,D⟩
 refine iq<|zh<|htn<|jw<|jw<|hrz ?_
 refine(zV (lH 0 G7 D))<|iJ (xc0 Zqj) (Ziz (p:=p) w (hL.below D.below)) ?_;rintro _ w ⟨g7,rfl,al⟩
 replace D:=(D.comp al).n7;clear al
 refine iq<|zh<|htn<|hbk ?_
 rw [show Value.bool false=B False from(ZB not_false).symm] at D
 refine hrf (St:=List GX) (X:=GX) (Tt:=GX) (fun s=> [.blk g1 [vc,vA,vb],.blk g2 [Oh],.blk g3 [.int Oi 0],.blk g4 [.int Oi (wV s)],.blk g5 [.int Oi 0],.blk g6 [.int Oi ((Vd s).t.vars),.int Oi ((Vd s).t.den),(Vd s).vB,(Vd s).vF,(Vd s).vC,B ((Vd s).fr),.int Oi ((Vd s).e)]]) (fun t=> [.blk g2 [Oh],.blk g3 [.int Oi 0],.blk g4 [.int Oi 0],.blk g5 [.int Oi t.e]]) (fun _=> .ret) [] (fun x M es=>∃(g8:Nat),M= [(0,.agg #[vc,vA,vb]),(1,Or g1),(2,Or g2),(3,Or g3),(4,Or g4),(5,Or g5),(6,Or g6),(12,.agg #[vc,vA,vb]),(13,.func (.func 93) #[] #[Or g7]),(14,.agg #[.int Oi x.t.vars,.int Oi x.t.den,x.vB,x.vF,x.vC,B (x.fr),.int Oi x.e]),(7,Or g8)]/\es= [.blk g8 [.int Oi x.t.vars,.int Oi x.t.den,x.vB,x.vF,x.vC,B (x.fr),.int Oi x.e]]) (Zf7 (gp:=g7) (fun s=>s) [] rfl (fun x=>x.e=0) (fun s x t=>t=x/\x.e≠0) w0 hL) (D) Zp0 (fun _=>rfl) (fun _=> .inl rfl) ?_ ?_ ?_ ?_
 {
 intro lq s x rest w qe qG an D
 have aa:=qe.sB;have ae:=qe.sF;have ad:=qe.sC;have ah:=qe.len hm;have aq:=Mc s
 refine hrz ?_
 refine iG (oh (cs:= [_,_,_,_,_,_,_]) Qb D) ?_;rintro _ w ⟨g8,rfl,D⟩
 refine lJ (nD 8 T5 D (hd:=(Za rfl (Za rfl (Za aa.one (Za ae.one (Za ad.one (Za (JW _) (Za rfl Zj))))))))) ?_;clear D;rintro w D
 refine iq<|zh<|FH ⟨g8,rfl,rfl⟩ D}
 {
 rintro lq s x _ _ rest w qe ⟨g8,rfl,rfl⟩ qG an D
 have aa:=qe.sB;have ae:=qe.sF;have ad:=qe.sC;have ah:=qe.len hm;have aq:=Mc s
 refine hbk<|jw<|jw<|hrz ?_
 refine(zV (h_ 6 Aw))<|(zV (g_ 8 oz D))<|(zP)<|iq<|zh<|htn ?_
 refine Yv ?_ ?_<;>intro hc
 {
 refine jw ?_
 refine hdst [0,1,2,3,4,5,6,7,8] [0,5,6,7,8] 2 nP D ?_;clear D;intro w D
 refine(b_ 0 (h_ 6 Aw))<|(iQ 1 (fun w D=>(g_ 4 oz D)))<|nR 2 (xsb 1 dV D) ?_;clear D;rintro w D
 refine⟨⟨fun h=>absurd h (by decide),D.pk [0,5,6,7,8]⟩,?_⟩
 refine nR 3 (xsb 2 dw D) ?_;clear D;rintro w D
 refine⟨⟨fun h=>absurd h (by decide),D.pk [0,5,6,7,8]⟩,?_⟩
 refine nR 4 (xsb 3 dw D) ?_;clear D;rintro w D
 refine⟨⟨fun h=>absurd h (by decide),D.pk [0,5,6,7,8]⟩,?_⟩
 refine nR 5 (xsb 4 oz D) ?_;clear D;rintro w D
 refine⟨⟨fun h=>absurd h (by decide),D.pk [0,5,6,7,8]⟩,?_⟩
 refine lS<|zh<|htn<|hrt<|m_<|og<|FK x ⟨rfl,hc⟩ rfl (D.pk [1,2,3,4,6,7])}
 refine hsk<|htn<|jw<|jw<|hrz ?_
 refine(zV (h_ 5 ZhB))<|(zV (g_ 8 ZqZ D))<|iq<|zh<|htn ?_
 refine Yv ?_ ?_<;>intro hc
 {
 refine hrz ?_
 refine(zV (g_ 3 dw D))<|(zV (Zg (r:=(wV s)+1)))<|lJ (xsb 3 dw D) ?_;clear D;rintro w D
 refine iq<|zh<|htn<|hrz ?_
 refine(zV (lH 8 T5 D))<|lJ (nD 5 T5 D (hd:=(Za rfl (Za rfl (Za aa.one (Za ae.one (Za ad.one (Za (JW _) (Za rfl Zj))))))))) ?_;clear D;rintro w D
 refine iq<|zh<|ng ?_
 obtain⟨s1,ac⟩:∃s1,s1=s++ [x]:=⟨_,rfl⟩
 have e1:Vd s1=x:=by rw [ac,VZ]
 have e2:wV s1=(wV s)+1:=by rw [ac];exact(RF s x).1 ‹_›
 rw [<-e1,<-e2] at D
 refine D6 s1 ⟨ac,Oa⟩ (D.pk [0,1,2,3,4,5,6,7])}
 refine hsk<|htn<|hrz ?_
 refine(zV (lH 8 T5 D))<|lJ (nD 5 T5 D (hd:=(Za rfl (Za rfl (Za aa.one (Za ae.one (Za ad.one (Za (JW _) (Za rfl Zj))))))))) ?_;clear D;rintro w D
 refine iq<|zh<|ng ?_
 obtain⟨s1,ac⟩:∃s1,s1=s++ [x]:=⟨_,rfl⟩
 have e1:Vd s1=x:=by rw [ac,VZ]
 have e2:wV s1=(wV s):=by rw [ac];exact(RF s x).2 ‹_›
 rw [<-e1,<-e2] at D
 refine D6 s1 ⟨ac,Oa⟩ (D.pk [0,1,2,3,4,5,6,7])}
 {
 intro Dk s rest w qr D
 obtain⟨s9,x,rfl,ao,qe,Z⟩:=qr
 have aa:=qe.sB;have ae:=qe.sF;have ad:=qe.sC;have ah:=qe.len hm
 obtain⟨tt,e9,N,aj,_,_,_,⟨h1,_⟩|⟨_,rfl,Y,J,ab,bK⟩⟩:=qe
 · exact absurd ao h1
 have hct:wV (s9++ [x])=(s9.length:Int):=by rw [(RF s9 x).2 Z];exact Qm aj
 rw [VZ,hct] at D
 have b1:=J.n1
 have b2:=J.n2
 have b3:=J.m2
 have b4:=J.v
 have b5:=J.d1
 have b6:=J.d2
 have b7:=J.c
 have af:=N.NG rfl
 have b1:=af.n1
 have b2:=af.n2
 have b3:=af.m2
 have b4:=af.k
 have ar:=aa.n0;have a1:=N.uP rfl;have aw:=Y.uP
 have am:=fun k (k0:0<=k) (k1:k<x.t.nc)=>((bK _ (D.holds (.sem rest) (List.mem_of_getElem? (i:=7) rfl))).C.p k k0 k1).fP
 have gV:=fun k=>J.len (i:=k)
 refine ng<|htn<|jw<|hrz ?_
 refine(zV (h_ 0 Vf))<|(zV (h_ 0 oU))<|(zV (g_ 5 dw D))<|iG (uF Zb Zq D) ?_;rintro v1 w ⟨D,F⟩
 refine lJ (xsb 1 dV D (hv:=F.one)) ?_;clear D;rintro w D
 refine iq<|zh<|htn<|jw<|jw<|hrz ?_
 refine(zV (h_ 0 Vf))<|(zV (h_ 2 lQ))<|(zV (g_ 5 dV D))<|(zV (iW Zb aa))<|(zP)<|iq<|zh<|htn<|hbk<|hlp (fun mm M w=>∃(i:Int) (U:Of),mm=((x.t.nb-i).toNat)/\(0<=i)/\(i<=x.t.nb)/\(U=qX x.t i.toNat)/\M= [(1,Or g1),(2,Or g2),(3,Or g3),(4,Or g4),(5,Or g5),(6,Or g6),(31,x.vB),(32,.int Oi x.t.nb),(33,.int Oi i)]/\Sat w0 w [.blk g1 [vc,vA,vb],.blk g2 [v1],.blk g3 [.int Oi 0],.blk g4 [.int Oi (s9.length:Int)],.blk g5 [.int Oi 0],.blk g6 [.int Oi x.t.vars,.int Oi x.t.den,x.vB,x.vF,x.vC,B (x.fr),.int Oi x.e],.blk g7 [vc,vA,vb],.sem rest,.sem (Frame.obj Dk (.deferred (some []))),.own v1 1 3 x.t.vars (ints U)]) ⟨0,(fun _=>0),rfl,Oa,Oa,?_,rfl,D⟩ ?_
 {
 rfl}
 clear D w
 rintro mm M w ⟨i,U,rfl,h0,h1,O,rfl,D⟩
 refine jw<|hrz ?_
 refine(zP)<|iq<|zh<|htn<|jw ?_
 refine Yv ?_ ?_<;>intro hc
 {
 refine hsk<|htn<|jw<|hbk<|jw<|hrz ?_
 refine(zP)<|(zV (iy (kk:=i) Zb aa))<|(zV (iR (u:= .int Oi (x.t.B i)) dw (bK _ (D.holds (.sem rest) (List.mem_of_getElem? (i:=7) rfl))).B))<|(On)<|iq<|zh<|htn<|jw<|hrz ?_
 refine(zP)<|(zV (h_ 0 Vf))<|(zV (h_ 0 oU))<|(zV (g_ 5 dw D))<|iI Z6 ?_
 have xd:=gV (i+1) Oa Oa
 have ap:=J.cell (i:=i+1) (j:=0) Oa Oa Oa Oa
 have a3:=J.Cc (i:=i) h0 Oa
 have av:=YM (a:=x.t.C (i+1) 0) (d:=x.t.den) Oa ap
 refine iq<|zh<|htn ?_
 refine Yv ?_ ?_<;>intro hc
 {
 refine hdst [0,1,2,3,4,5,6,7,8,9] [0,1,2,3,4,5,6,7,8] 16 nP D ?_;clear D;intro w D
 refine(iQ 0 (fun w D=>(g_ 1 dV D)))<|(b_ 1 gu)<|(b_ 2 (h_ 0 Vf))<|(b_ 3 (h_ 4 iY))<|(iQ 4 (fun w D=>(g_ 5 Zz D)))<|(b_ 5 gu)<|(b_ 6 (Zg (r:=i+1)))<|(b_ 7 (iy (kk:=i+1) Zk ad))<|(iQ 8 (fun w D=>(iR (u:=(x.vv (i+1))) dV (bK _ (D.holds (.sem rest) (List.mem_of_getElem? (i:=7) rfl))).C.row)))<|(b_ 9 (iy (kk:=0) Zb (am (i+1) Oa Oa)))<|(iQ 10 (fun w D=>(iR (u:= .int Oi (x.t.C (i+1) 0)) dw ((bK _ (D.holds (.sem rest) (List.mem_of_getElem? (i:=7) rfl))).C.p (i+1) Oa Oa))))<|(b_ 11 (h_ 0 Vf))<|(b_ 12 (h_ 1 oK))<|(iQ 13 (fun w D=>(g_ 5 dw D)))<|BJ 14 (fun _=>(V3 (r:=(Int.tdiv (x.t.C (i+1) 0) x.t.den)))) ?_
 refine(b_ 15 (iy (kk:=(x.t.B i)) Zb F))<|nR 16 (rV 9 dw D (ZA _ _ _)) ?_;clear D;rintro w D
 refine⟨⟨fun h=>absurd h (by decide),D.pk [0,1,2,3,4,5,6,7,8]⟩,?_⟩
 refine lS<|zh<|ng<|htn<|hrz ?_
 refine(zV (Zg (r:=i+1)))<|(zP)<|iq<|zh<|hlq ⟨i+1,(upd U (x.t.B i) (Int.tdiv (x.t.C (i+1) 0) x.t.den)),rfl,Oa,Oa,?_,rfl,D⟩
 {
 rw [QW x.t h0,<-O];first|rw [if_pos Oa]|rw [if_neg Oa]}}
 refine hsk<|ng<|htn<|hrz ?_
 refine(zV (Zg (r:=i+1)))<|(zP)<|iq<|zh<|hlq ⟨i+1,U,rfl,Oa,Oa,?_,rfl,D⟩
 {
 rw [QW x.t h0,<-O];first|rw [if_pos Oa]|rw [if_neg Oa]}}
 refine hxt<|n_<|n_<|rH<|htn<|jw<|jw<|hrz ?_
 refine(zV (g_ 1 dV D))<|(zV (iW Zb F))<|(zP)<|iq<|zh<|htn<|hbk ?_
 obtain rfl:i=x.t.nb:=Oa
 refine hlp (fun mm M w=>∃(sv:Int) (j:Int),mm=((x.t.vars-j).toNat)/\(0<=j)/\(j<=x.t.vars)/\(sv=ZG U p.c j.toNat)/\(-(1125899906842624*j)<=sv/\sv<=1125899906842624*j)/\M= [(1,Or g1),(2,Or g2),(3,Or g3),(4,Or g4),(5,Or g5),(60,v1),(61,.int Oi x.t.vars),(62,.int Oi j)]/\Sat w0 w [.blk g1 [vc,vA,vb],.blk g2 [v1],.blk g3 [.int Oi sv],.blk g4 [.int Oi (s9.length:Int)],.blk g5 [.int Oi 0],.blk g6 [.int Oi x.t.vars,.int Oi x.t.den,x.vB,x.vF,x.vC,B (x.fr),.int Oi x.e],.blk g7 [vc,vA,vb],.sem rest,.sem (Frame.obj Dk (.deferred (some []))),.own v1 1 3 x.t.vars (ints U)]) ⟨0,0,rfl,Oa,Oa,?_,Oa,rfl,D⟩ ?_
 {
 rfl}
 clear D w
 rintro mm M w ⟨sv,j,rfl,j0,j1,W,au,rfl,D⟩
 refine jw<|hrz ?_
 refine(zP)<|iq<|zh<|htn<|jw ?_
 refine Yv ?_ ?_<;>intro hc
 {
 refine hsk<|htn<|jw<|hbk<|jw<|hrz ?_
 refine(zP)<|(zV (iy (kk:=j) Zb F))<|iI (iR (u:= .int Oi (U j)) dw (D.f_ 9 rfl)) ?_
 have ai:=QA J j x.t.nb.toNat Oa;rw [<-O] at ai
 have a2:=af.c j j0 Oa
 have ay:=X6 (a:=U j) (b:=p.c j) (A:=1073741824) (B:=1000000) ai Oa
 refine(On)<|iq<|zh<|htn ?_
 refine hdst [0,1,2,3,4,5,6,7,8,9] [0,1,3,4,5,6,7,8,9] 9 nP D ?_;clear D;intro w D
 refine sQ 0 (fun w D=>(g_ 2 dw D)) ?_
 refine(b_ 1 gu)<|(b_ 2 (h_ 0 qO))<|(iQ 3 (fun w D=>(g_ 0 dV D)))<|(b_ 4 gu)<|(b_ 5 (iy (kk:=j) Zb hL.c.fP))<|(iQ 6 (fun w D=>(iR (u:= .int Oi (p.c j)) dw (hL.c.below D.below))))<|(b_ 7 (Yf (r:=((U j)*(p.c j))) (e:=rfl)))<|(b_ 8 (Zg (r:=sv+((U j)*(p.c j)))))<|nR 9 (xsb 2 dw D) ?_;clear D;rintro w D
 refine⟨⟨fun h=>absurd h (by decide),D.pk [0,1,3,4,5,6,7,8,9]⟩,?_⟩
 refine lS<|zh<|ng<|htn<|hrz ?_
 refine(zV (Zg (r:=j+1)))<|(zP)<|iq<|zh<|hlq ⟨sv+((U j)*(p.c j)),j+1,rfl,Oa,Oa,?_,Oa,rfl,D⟩
 {
 rw [U2 _ _ j0,<-W]}}
 refine hxt<|n_<|n_<|rH<|htn<|jw ?_
 refine hdst [0,1,2,3,4,5,6,7,8,9] [0,5,6,7,8,9] 3 nP D ?_;clear D;intro w D
 refine sQ 0 (fun w D=>(g_ 1 dV D)) ?_
 refine Xw (r:= [1,2,3]) ((ZY ?_ (ZY ?_ (ZY ?_ Xv))))
 {
 refine Ec (g_ 2 dw D) ⟨fun _=>D,D.pk [0,5,6,7,8,9]⟩ ?_
 refine Xw (r:= [2,3]) ((ZY ?_ (ZY ?_ Xv)))
 {
 refine Ec (g_ 3 dw D) ⟨fun _=>D,D.pk [0,5,6,7,8,9]⟩ ?_
 refine nR 3 (xsb 1 dV D (hv:=F.one)) ?_;clear D;rintro w D
 refine⟨⟨fun h=>absurd h (by decide),D.pk [0,5,6,7,8,9]⟩,?_⟩
 refine nR 4 (xsb 2 dw D) ?_;clear D;rintro w D
 refine⟨⟨fun h=>absurd h (by decide),D.pk [0,5,6,7,8,9]⟩,?_⟩
 refine nR 5 (xsb 3 dw D) ?_;clear D;rintro w D
 refine⟨⟨fun h=>absurd h (by decide),D.pk [0,5,6,7,8,9]⟩,?_⟩
 refine nR 6 (xsb 4 oz D) ?_;clear D;rintro w D
 refine⟨⟨fun h=>absurd h (by decide),D.pk [0,5,6,7,8,9]⟩,?_⟩
 refine lS<|zh<|htn<|hrt<|VG 8 D fun w D=>DX dV dw dw oz (D.lM 1 rfl rfl) (D.lM 2 rfl rfl) (D.lM 3 rfl rfl) (D.lM 4 rfl rfl) ⟨_,rfl,?_⟩
 obtain rfl:j=x.t.vars:=Oa
 have I:=J.v
 exact⟨_,x.t.vars,U,sv,_,0,rfl,.inr ⟨rfl,_,_,_,N,Y,J,by have:=Yz x.t x.t.nb.toNat;by_cases Bf:0<=sN x.t x.t.nb.toNat;exact absurd (ab.2 Bf) Z;omega,by simp,I,fun j j0 j1=>by rw [O];exact W8 x.t j1 _,W⟩,F,D.pk [9]⟩}
 refine F5 (xsb 1 dV D (hv:=F.one)) ?_;clear D;rintro w D
 refine⟨⟨fun h=>absurd h (by decide),D.pk [0,5,6,7,8,9]⟩,?_⟩
 refine Xw (r:= [2,4]) ((ZY ?_ (ZY ?_ Xv)))
 {
 refine Ec (g_ 3 dw D) ⟨fun h=>absurd h (by decide),D.pk [0,5,6,7,8,9]⟩ ?_
 refine nR 4 (xsb 2 dw D) ?_;clear D;rintro w D
 refine⟨⟨fun h=>absurd h (by decide),D.pk [0,5,6,7,8,9]⟩,?_⟩
 refine nR 5 (xsb 3 dw D) ?_;clear D;rintro w D
 refine⟨⟨fun h=>absurd h (by decide),D.pk [0,5,6,7,8,9]⟩,?_⟩
 refine nR 6 (xsb 4 oz D) ?_;clear D;rintro w D
 refine⟨⟨fun h=>absurd h (by decide),D.pk [0,5,6,7,8,9]⟩,?_⟩
 refine lS<|zh<|htn<|hrt<|VG 8 D fun w D=>DX dV dw dw oz (D.lM 1 rfl rfl) (D.lM 2 rfl rfl) (D.lM 3 rfl rfl) (D.lM 4 rfl rfl) ⟨_,rfl,?_⟩
 obtain rfl:j=x.t.vars:=Oa
 have I:=J.v
 exact⟨_,x.t.vars,U,sv,_,0,rfl,.inr ⟨rfl,_,_,_,N,Y,J,by have:=Yz x.t x.t.nb.toNat;by_cases Bf:0<=sN x.t x.t.nb.toNat;exact absurd (ab.2 Bf) Z;omega,by simp,I,fun j j0 j1=>by rw [O];exact W8 x.t j1 _,W⟩,F,D.pk [9]⟩}
 refine F5 (xsb 2 dw D) ?_;clear D;rintro w D
 refine⟨⟨fun h=>absurd h (by decide),D.pk [0,5,6,7,8,9]⟩,?_⟩
 refine Hu 2 (g_ 3 dw D) ⟨fun h=>absurd h (by decide),D.pk [0,5,6,7,8,9]⟩ ?_
 refine nR 5 (xsb 3 dw D) ?_;clear D;rintro w D
 refine⟨⟨fun h=>absurd h (by decide),D.pk [0,5,6,7,8,9]⟩,?_⟩
 refine nR 6 (xsb 4 oz D) ?_;clear D;rintro w D
 refine⟨⟨fun h=>absurd h (by decide),D.pk [0,5,6,7,8,9]⟩,?_⟩
 refine lS<|zh<|htn<|hrt<|VG 8 D fun w D=>DX dV dw dw oz (D.lM 1 rfl rfl) (D.lM 2 rfl rfl) (D.lM 3 rfl rfl) (D.lM 4 rfl rfl) ⟨_,rfl,?_⟩
 obtain rfl:j=x.t.vars:=Oa
 have I:=J.v
 exact⟨_,x.t.vars,U,sv,_,0,rfl,.inr ⟨rfl,_,_,_,N,Y,J,by have:=Yz x.t x.t.nb.toNat;by_cases Bf:0<=sN x.t x.t.nb.toNat;exact absurd (ab.2 Bf) Z;omega,by simp,I,fun j j0 j1=>by rw [O];exact W8 x.t j1 _,W⟩,F,D.pk [9]⟩}
 {
 refine Ec (g_ 3 dw D) ⟨fun _=>D,D.pk [0,5,6,7,8,9]⟩ ?_
 refine Xw (r:= [1,3]) ((ZY ?_ (ZY ?_ Xv)))
 {
 refine Ec (g_ 2 dw D) ⟨fun _=>D,D.pk [0,5,6,7,8,9]⟩ ?_
 refine nR 3 (xsb 1 dV D (hv:=F.one)) ?_;clear D;rintro w D
 refine⟨⟨fun h=>absurd h (by decide),D.pk [0,5,6,7,8,9]⟩,?_⟩
 refine nR 4 (xsb 2 dw D) ?_;clear D;rintro w D
 refine⟨⟨fun h=>absurd h (by decide),D.pk [0,5,6,7,8,9]⟩,?_⟩
 refine nR 5 (xsb 3 dw D) ?_;clear D;rintro w D
 refine⟨⟨fun h=>absurd h (by decide),D.pk [0,5,6,7,8,9]⟩,?_⟩
 refine nR 6 (xsb 4 oz D) ?_;clear D;rintro w D
 refine⟨⟨fun h=>absurd h (by decide),D.pk [0,5,6,7,8,9]⟩,?_⟩
 refine lS<|zh<|htn<|hrt<|VG 8 D fun w D=>DX dV dw dw oz (D.lM 1 rfl rfl) (D.lM 2 rfl rfl) (D.lM 3 rfl rfl) (D.lM 4 rfl rfl) ⟨_,rfl,?_⟩
 obtain rfl:j=x.t.vars:=Oa
 have I:=J.v
 exact⟨_,x.t.vars,U,sv,_,0,rfl,.inr ⟨rfl,_,_,_,N,Y,J,by have:=Yz x.t x.t.nb.toNat;by_cases Bf:0<=sN x.t x.t.nb.toNat;exact absurd (ab.2 Bf) Z;omega,by simp,I,fun j j0 j1=>by rw [O];exact W8 x.t j1 _,W⟩,F,D.pk [9]⟩}
 refine F5 (xsb 1 dV D (hv:=F.one)) ?_;clear D;rintro w D
 refine⟨⟨fun h=>absurd h (by decide),D.pk [0,5,6,7,8,9]⟩,?_⟩
 refine Hu 1 (g_ 2 dw D) ⟨fun h=>absurd h (by decide),D.pk [0,5,6,7,8,9]⟩ ?_
 refine nR 4 (xsb 2 dw D) ?_;clear D;rintro w D
 refine⟨⟨fun h=>absurd h (by decide),D.pk [0,5,6,7,8,9]⟩,?_⟩
 refine nR 5 (xsb 3 dw D) ?_;clear D;rintro w D
 refine⟨⟨fun h=>absurd h (by decide),D.pk [0,5,6,7,8,9]⟩,?_⟩
 refine nR 6 (xsb 4 oz D) ?_;clear D;rintro w D
 refine⟨⟨fun h=>absurd h (by decide),D.pk [0,5,6,7,8,9]⟩,?_⟩
 refine lS<|zh<|htn<|hrt<|VG 8 D fun w D=>DX dV dw dw oz (D.lM 1 rfl rfl) (D.lM 2 rfl rfl) (D.lM 3 rfl rfl) (D.lM 4 rfl rfl) ⟨_,rfl,?_⟩
 obtain rfl:j=x.t.vars:=Oa
 have I:=J.v
 exact⟨_,x.t.vars,U,sv,_,0,rfl,.inr ⟨rfl,_,_,_,N,Y,J,by have:=Yz x.t x.t.nb.toNat;by_cases Bf:0<=sN x.t x.t.nb.toNat;exact absurd (ab.2 Bf) Z;omega,by simp,I,fun j j0 j1=>by rw [O];exact W8 x.t j1 _,W⟩,F,D.pk [9]⟩}
 refine F5 (xsb 1 dV D (hv:=F.one)) ?_;clear D;rintro w D
 refine⟨⟨fun h=>absurd h (by decide),D.pk [0,5,6,7,8,9]⟩,?_⟩
 refine Xw (r:= [1,2]) ((ZY ?_ (ZY ?_ Xv)))
 {
 refine Ec (g_ 2 dw D) ⟨fun h=>absurd h (by decide),D.pk [0,5,6,7,8,9]⟩ ?_
 refine Xw (r:= [2,4]) ((ZY ?_ (ZY ?_ Xv)))
 {
 refine Ec (g_ 3 dw D) ⟨fun h=>absurd h (by decide),D.pk [0,5,6,7,8,9]⟩ ?_
 refine nR 4 (xsb 2 dw D) ?_;clear D;rintro w D
 refine⟨⟨fun h=>absurd h (by decide),D.pk [0,5,6,7,8,9]⟩,?_⟩
 refine nR 5 (xsb 3 dw D) ?_;clear D;rintro w D
 refine⟨⟨fun h=>absurd h (by decide),D.pk [0,5,6,7,8,9]⟩,?_⟩
 refine nR 6 (xsb 4 oz D) ?_;clear D;rintro w D
 refine⟨⟨fun h=>absurd h (by decide),D.pk [0,5,6,7,8,9]⟩,?_⟩
 refine lS<|zh<|htn<|hrt<|VG 8 D fun w D=>DX dV dw dw oz (D.lM 1 rfl rfl) (D.lM 2 rfl rfl) (D.lM 3 rfl rfl) (D.lM 4 rfl rfl) ⟨_,rfl,?_⟩
 obtain rfl:j=x.t.vars:=Oa
 have I:=J.v
 exact⟨_,x.t.vars,U,sv,_,0,rfl,.inr ⟨rfl,_,_,_,N,Y,J,by have:=Yz x.t x.t.nb.toNat;by_cases Bf:0<=sN x.t x.t.nb.toNat;exact absurd (ab.2 Bf) Z;omega,by simp,I,fun j j0 j1=>by rw [O];exact W8 x.t j1 _,W⟩,F,D.pk [9]⟩}
 refine F5 (xsb 2 dw D) ?_;clear D;rintro w D
 refine⟨⟨fun h=>absurd h (by decide),D.pk [0,5,6,7,8,9]⟩,?_⟩
 refine Hu 2 (g_ 3 dw D) ⟨fun h=>absurd h (by decide),D.pk [0,5,6,7,8,9]⟩ ?_
 refine nR 5 (xsb 3 dw D) ?_;clear D;rintro w D
 refine⟨⟨fun h=>absurd h (by decide),D.pk [0,5,6,7,8,9]⟩,?_⟩
 refine nR 6 (xsb 4 oz D) ?_;clear D;rintro w D
 refine⟨⟨fun h=>absurd h (by decide),D.pk [0,5,6,7,8,9]⟩,?_⟩
 refine lS<|zh<|htn<|hrt<|VG 8 D fun w D=>DX dV dw dw oz (D.lM 1 rfl rfl) (D.lM 2 rfl rfl) (D.lM 3 rfl rfl) (D.lM 4 rfl rfl) ⟨_,rfl,?_⟩
 obtain rfl:j=x.t.vars:=Oa
 have I:=J.v
 exact⟨_,x.t.vars,U,sv,_,0,rfl,.inr ⟨rfl,_,_,_,N,Y,J,by have:=Yz x.t x.t.nb.toNat;by_cases Bf:0<=sN x.t x.t.nb.toNat;exact absurd (ab.2 Bf) Z;omega,by simp,I,fun j j0 j1=>by rw [O];exact W8 x.t j1 _,W⟩,F,D.pk [9]⟩}
 refine Ec (g_ 3 dw D) ⟨fun h=>absurd h (by decide),D.pk [0,5,6,7,8,9]⟩ ?_
 refine Hu 1 (g_ 2 dw D) ⟨fun h=>absurd h (by decide),D.pk [0,5,6,7,8,9]⟩ ?_
 refine nR 4 (xsb 2 dw D) ?_;clear D;rintro w D
 refine⟨⟨fun h=>absurd h (by decide),D.pk [0,5,6,7,8,9]⟩,?_⟩
 refine nR 5 (xsb 3 dw D) ?_;clear D;rintro w D
 refine⟨⟨fun h=>absurd h (by decide),D.pk [0,5,6,7,8,9]⟩,?_⟩
 refine nR 6 (xsb 4 oz D) ?_;clear D;rintro w D
 refine⟨⟨fun h=>absurd h (by decide),D.pk [0,5,6,7,8,9]⟩,?_⟩
 refine lS<|zh<|htn<|hrt<|VG 8 D fun w D=>DX dV dw dw oz (D.lM 1 rfl rfl) (D.lM 2 rfl rfl) (D.lM 3 rfl rfl) (D.lM 4 rfl rfl) ⟨_,rfl,?_⟩
 obtain rfl:j=x.t.vars:=Oa
 have I:=J.v
 exact⟨_,x.t.vars,U,sv,_,0,rfl,.inr ⟨rfl,_,_,_,N,Y,J,by have:=Yz x.t x.t.nb.toNat;by_cases Bf:0<=sN x.t x.t.nb.toNat;exact absurd (ab.2 Bf) Z;omega,by simp,I,fun j j0 j1=>by rw [O];exact W8 x.t j1 _,W⟩,F,D.pk [9]⟩}
 {
 intro Dk t rest w qr D
 obtain⟨s,x,⟨hx,ak⟩,qe⟩:=qr
 subst hx
 obtain⟨tt,e9,N,aj,_,_,_,⟨_,_,ag⟩|⟨h1,_⟩⟩:=qe
 rotate_left
 · exact absurd h1 ak
 replace ag:(e9=t.e/\e9≠0)\/(e9=0/\∃u,rX tt u t.e):=ag
 show Ge _ _ _ .ret _ _
 refine og<|m_<|VG 6 D fun w D=>DX dV dw dw oz (D.lM 0 rfl rfl) (D.lM 1 rfl rfl) (D.lM 2 rfl rfl) (D.lM 3 rfl rfl) ⟨_,rfl,?_⟩
 exact⟨_,0,fun _=>0,0,0,_,rfl,.inl ⟨ak,rfl,rfl,rfl,_,_,_,N,ag⟩,d_,(D.fU 1 3 (ints fun _=>0)).sub (.cons _ (.cons _ (.cons _ (.cons _ (.cons _ (.cons _ (.cons _ (.cons_cons _ .slnil))))))))⟩}
variable {t:Tb}
theorem Zkg(I:lK t){row D z:Int}{v:Of}(h:AU (Wf t row) D z v):AU t D z v:=fun i F U=>by
 have hc:=I.c
 have h1:=h i F (by show i<=t.nb+1;omega)
 have O:(Wf t row).C i=t.C i:=Zl Oa
 have N:XX (Wf t row) z v i=XX t z v i:=by
   unfold XX
   by_cases hi:i=0
   · rw [if_pos hi,if_pos hi]
   {
   rw [if_neg hi,if_neg hi]
   show v (lD t.B t.nb (t.nb+t.nf) (i-1))=_
   rw [Zl Oa]}
 have J:Wc (Wf t row) D v i=Wc t D v i:=by
   unfold Wc
   rw [O];rfl
 rw [N,J] at h1
 exact h1
theorem ML{u:Tb}(h:rX t u 0)(D z:Int)(v:Of):AU t D z v↔AU u D z v:=by
 obtain⟨I,f,hr,⟨hf,_,rfl⟩|⟨hf,F,_⟩⟩:=h
 · exact TF hr D z v
 · exact absurd F.symm hf
theorem Ad.ok{D:Tb}{row e:Int}(h:Ad t row D e)(F:e=0):D=Wf t row/\lK t/\0<=row/\row<t.nb/\t.nb<16:=by
 rcases h with⟨_,_,h⟩|⟨_,_,_,h⟩|⟨_,_,_,_,_,h⟩|⟨_,_,_,_,_,_,h⟩|⟨h1,h2,h3,_,h4,rfl,_⟩<;>first|(exfalso;omega)|exact⟨rfl,h1,h2,h3,h4⟩
theorem Zmq{p:Lp}{us:List Tb}{e:Int}(h:Rn p us t e)(F:e=0){D z:Int}{v:Of}(hi:AU t D z v):AU (Zx p) D z v:=by
 induction h with
 |start h=>rcases h with⟨_,_,h⟩|⟨_,rfl,_⟩;exact absurd F Oa;exact hi
 | cut h ho hp hf ha ih=>
   obtain⟨rfl,I,_⟩:=Ad.ok ha F
   exact ih rfl ((ML ho _ _ _).2 (Zkg I hi))
theorem rX.fin{t u:Tb}(h:rX t u 0):u.costs/\∀i:Int,0<=i->i<u.nb->0<=u.C (i+1) 0:=by
 obtain⟨J,f,hr,⟨hf,_,rfl⟩|⟨hf,F,_⟩⟩:=h
 {
 subst hf
 obtain⟨_,h1,I,_⟩:=hr.fin (.inl rfl)
 have:=YO u u.nb.toNat
 exact⟨h1,fun i D N=>(Uo u u.nb.toNat).1 (by have:=I rfl;omega) i D Oa⟩}
 · exact absurd F.symm hf
theorem Zke{u:Tb}(h:lK u)(W:0<=u.nb):AU u u.den (u.C 0 0) (t_ u u.nb.toNat):=fun i U O=>by
 have hn:=h.n1
 have I:Zd (fun j=>u.C i (j+1)*t_ u u.nb.toNat (u.F j)) u.nf.toNat=0:=by
   have:Zd (fun j=>u.C i (j+1)*t_ u u.nb.toNat (u.F j)) u.nf.toNat=Zd (fun _=>0) u.nf.toNat:=Zh fun j F N=>by
     rw [RQ u _ fun q D J=>h.Gt D Oa F Oa];omega
   rw [this,ZH]
 unfold Wc XX
 rw [I]
 by_cases hi:i=0
 · subst hi;rw [if_pos rfl];grind
 · rw [if_neg hi,LW h u.nb.toNat Oa (i-1) Oa Oa,show i-1+1=i by omega];grind
theorem NW{p:Lp}{us:List Tb}{u:Tb}(F:0<=p.m)(h:Rn p us t 0)(D:rX t u 0)(I:0<=u.nb):u.C 0 0=ZG p.c (t_ u u.nb.toNat) p.n.toNat/\∀i,0<=i->i<p.m->t_ u u.nb.toNat (p.n+i)=ZG (p.A i) (t_ u u.nb.toNat) p.n.toNat-p.b i*u.den:=
 (sK (h.NG rfl) F _ _ _).1 (Zmq h rfl ((ML D _ _ _).2 (Zke D.Am.1 I)))
theorem Zpa{u:Tb}(h:rX t u 0)(q:Int):0<=t_ u u.nb.toNat q:=by
 have D:=h.Am.1
 by_cases h0:0<=u.nb
 · exact(Uz D h.fin.2 q u.nb.toNat Oa).1
 · rw [show u.nb.toNat=0 by omega];simp [t_]
theorem Zff{u:Tb}(h:rX t u 0)(hf:sN u u.nb.toNat<0){j:Int}(I:j<u.vars):u.den∣t_ u u.nb.toNat j:=by
 have D:=h.Am.1
 have key:∀K:Nat,(K:Int)<=u.nb->u.den∣t_ u K j:=fun K=>by
   induction K with
   |zero=>intro _;exact⟨0,by simp [t_]⟩
   | succ k ih=>
     intro F
     have h1:=ih Oa
     simp only [t_,upd]
     split
     · rename_i e
       have hr:=Yz u u.nb.toNat
       exact Int.dvd_of_tmod_eq_zero ((Nh u u.nb.toNat).1 Oa k Oa Oa Oa)
     · exact h1
 by_cases h0:0<=u.nb
 · exact key _ Oa
 · rw [show u.nb.toNat=0 by omega];exact⟨0,by simp [t_]⟩
theorem _3{f g:Of}{d:Int}:∀{n:Nat},(∀k:Int,0<=k->k<n->f k=d*g k)->∀c:Of,ZG f c n=d*ZG g c n
 |0,_,c=>by simp [ZG,Zd]
 | n+1,h,c=>by
   have h1:=_3 (f:=f) (g:=g) (d:=d) (n:=n) (fun k I N=>h k I Oa) c
   have F:=U2 f c (i:=n) Oa
   have D:=U2 g c (i:=n) Oa
   rw [show((n:Int)+1).toNat=n+1 by omega,show((n:Int)).toNat=n by omega] at F D
   have J:=h n Oa Oa
   rw [F,D,h1,J];grind
end Go.Proofs.YtpnamgfdakfccaaGreat
namespace Go.Proofs.YtpnamgfdakfccaaGreat
open Go Go.RowKit Go.Proofs.Gw
theorem Zhn{p:Lp}(J:0<=p.m){us:List Tb}{t u:Tb}(hr:Rn p us t 0)(h:rX t u 0)(hf:sN u u.nb.toNat<0){n val:Int}{f:Of}(h1:n=u.nf)(h3:∀j,0<=j->j<n->f j=(t_ u u.nb.toNat j).tdiv u.den)(h4:val=ZG f p.c n.toNat):
   n=p.n/\(∀j,0<=j->j<n->f j*u.den=t_ u u.nb.toNat j)/\val*u.den=u.C 0 0/\0<=u.nb:=by
 have I:=h.Am.1
 have hv:=I.v
 have hd:=I.d1
 have aa:=hr.uP rfl
 have W:=h.uP
 have hl:=hr.len rfl J
 have Y:=h.Am.2
 have N:0<=u.nb:=Oa
 have Z:=(NW J hr h N).1
 have D:∀k:Int,0<=k->k<n.toNat->t_ u u.nb.toNat k=u.den*f k:=fun k O k1=>by
   rw [h3 k O Oa,Int.mul_tdiv_cancel' (Zff h hf Oa)]
 have F:=_3 (n:=n.toNat) D p.c
 rw [VC,show n.toNat=p.n.toNat by omega,<-Z,show p.n.toNat=n.toNat by omega] at F
 exact⟨by omega,fun j U j1=>by rw [D j U Oa,Int.mul_comm],by rw [h4,F,Int.mul_comm],N⟩
variable {z:Int} {v:Of} {t:Tb}
def Wh(t:Tb)(z:Int)(v:Of):Prop:=AU t 1 z v/\∀q,0<=q->q<t.nf+t.nb->0<=v q
theorem lK.wY(h:lK t){j:Int}(F:0<=j)(D:j<t.nf)(I:0<=t.nb):0<=t.F j/\t.F j<t.nf+t.nb:=by
 have:=h.perm.1 j Oa Oa
 unfold cat at this;rw [if_pos D] at this;exact this
theorem Qs{u:Tb}(D:rX t u 0)(h:Wh t z v):Wh u z v:=
 ⟨(ML D 1 z v).1 h.1,fun q F I=>h.2 q F (by have:=D.Am.2;have:=D.uP.1;omega)⟩
theorem Zl0{u:Tb}(I:lK u)(hc:u.costs)(D:0<=u.nb)(h:Wh u z v):u.C 0 0<=z*u.den:=by
 have h1:=h.1 0 Oa D
 unfold XX Wc at h1
 rw [if_pos rfl] at h1
 have N:0<=Zd (fun j=>u.C 0 (j+1)*v (u.F j)) u.nf.toNat:=Z8 fun j F J=>Int.mul_nonneg (hc (j+1) Oa Oa) (h.2 _ (I.wY F Oa D).1 (I.wY F Oa D).2)
 rw [Int.mul_comm z];omega
def Tv(u:Tb)(r:Int)(v:Of):Int:=YK u r 0+Zd (fun j=>YK u r (j+1)*v (u.F j)) u.nf.toNat
theorem ZfX{u:Tb}(I:lK u)(N:0<=u.nb){r:Int}(r0:0<=r)(Z:r<u.nb)(h:Wh u z v):u.den∣Tv u r v/\0<=Tv u r v:=by
 have hd:=I.d1
 have h1:=h.1 (r+1) Oa Oa
 unfold XX Wc at h1
 rw [if_neg Oa,show r+1-1=r by omega] at h1
 have Y:YK u r 0= -(u.C (r+1) 0)+u.den*(u.C (r+1) 0/u.den):=by
   unfold YK;rw [if_pos rfl,W7 hd]
   have:=Int.mul_ediv_add_emod (u.C (r+1) 0) u.den;omega
 have W:Zd (fun j=>YK u r (j+1)*v (u.F j)) u.nf.toNat= -1*Zd (fun j=>u.C (r+1) (j+1)*v (u.F j)) u.nf.toNat-u.den*Zd (fun j=>(-(u.C (r+1) (j+1)))/u.den*v (u.F j)) u.nf.toNat:=by
   have:=Xn (D:=1) (A:= -1) (B:=u.den) (n:=u.nf.toNat) (h:=fun j=>YK u r (j+1)*v (u.F j)) (f:=fun j=>u.C (r+1) (j+1)*v (u.F j)) (g:=fun j=>(-(u.C (r+1) (j+1)))/u.den*v (u.F j)) (fun j F U=>by
     show 1*(YK u r (j+1)*v (u.F j))=_
     unfold YK;rw [if_neg Oa,W7 hd]
     have:=Int.mul_ediv_add_emod (-(u.C (r+1) (j+1))) u.den
     have e:(-(u.C (r+1) (j+1)))%u.den= -(u.C (r+1) (j+1))-u.den*((-(u.C (r+1) (j+1)))/u.den):=Oa
     rw [e];grind)
   omega
 have O:u.den∣Tv u r v:=⟨u.C (r+1) 0/u.den-Zd (fun j=>(-(u.C (r+1) (j+1)))/u.den*v (u.F j)) u.nf.toNat-v (u.B r),by
   unfold Tv;rw [Y,W];grind⟩
 refine⟨O,?_⟩
 obtain⟨k,J⟩:=O
 have h2:0<=Zd (fun j=>YK u r (j+1)*v (u.F j)) u.nf.toNat:=Z8 fun j F U=>Int.mul_nonneg (by unfold YK;rw [if_neg Oa];exact(Ud hd).1) (h.2 _ (I.wY F Oa N).1 (I.wY F Oa N).2)
 have h3: -u.den<YK u r 0:=by unfold YK;rw [if_pos rfl];have:=Ud (a:=u.C (r+1) 0) hd;omega
 have h4: -u.den<u.den*k:=by rw [<-J];unfold Tv;omega
 rw [J]
 by_cases hk0:0<=k
 · exact Int.mul_nonneg Oa hk0
 · have:=Int.mul_le_mul_of_nonneg_left (show k<= -1 by omega) (show 0<=u.den by omega);omega
theorem Zl1{u:Tb}(D:lK u)(U:0<=u.nb){r:Int}(Z:0<=r)(Y:r<u.nb)(h:Wh u z v):Wh (Wf u r) z (upd v (u.nf+u.nb) (Tv u r v/u.den)):=by
 have hd:=D.d1
 have hc:=D.c
 have hn:=D.n1
 obtain⟨O,N⟩:=ZfX D U Z Y h
 have hv:∀q,0<=q->q<u.nf+u.nb->upd v (u.nf+u.nb) (Tv u r v/u.den) q=v q:=fun q I W=>upd_ne _ _ Oa
 have hF:∀j,0<=j->j<u.nf->upd v (u.nf+u.nb) (Tv u r v/u.den) (u.F j)=v (u.F j):=fun j F J=>hv _ (D.wY F J U).1 (D.wY F J U).2
 refine⟨fun i i0 i1=> ?_,fun q I W=> ?_⟩
 {
 have i2:i<=u.nb+1:=i1
 show u.den*(if i=0 then z else upd v (u.nf+u.nb) (Tv u r v/u.den) (lD u.B u.nb (u.nb+u.nf) (i-1)))=lD u.C u.nc (YK u r) i 0*1+Zd (fun j=>lD u.C u.nc (YK u r) i (j+1)*upd v (u.nf+u.nb) (Tv u r v/u.den) (u.F j)) u.nf.toNat
 have es:∀g:Of,Zd (fun j=>g (j+1)*upd v (u.nf+u.nb) (Tv u r v/u.den) (u.F j)) u.nf.toNat=Zd (fun j=>g (j+1)*v (u.F j)) u.nf.toNat:=fun g=>Zh fun j F J=>by rw [hF j F Oa]
 rw [es]
 by_cases hi:i<=u.nb
 {
 have h1:=h.1 i i0 hi
 unfold XX Wc at h1
 rw [show lD u.C u.nc (YK u r) i=u.C i from Zl Oa,<-h1]
 by_cases hz:i=0
 · rw [if_pos hz,if_pos hz]
 · rw [if_neg hz,if_neg hz,Zl Oa,hv _ (D.Cc Oa Oa).1 (D.Cc Oa Oa).2]}
 · rw [if_neg Oa,Zo Oa,Zo Oa,show u.nb+u.nf=u.nf+u.nb by omega,Zp,Int.mul_ediv_cancel' O]
   unfold Tv;omega}
 {
 have q2:q<u.nf+(u.nb+1):=W
 by_cases hq:q<u.nf+u.nb
 · rw [hv q I hq];exact h.2 q I hq
 · rw [show q=u.nf+u.nb by omega,Zp];exact Int.ediv_nonneg N Oa}
theorem Ol{p:Lp}(I:0<=p.m){us:List Tb}{e:Int}(hr:Rn p us t e)(D:e=0)(h:Wh (Zx p) z v):∃v',Wh t z v':=by
 induction hr with
 |start hs=>rcases hs with⟨_,_,h9⟩|⟨_,rfl,_⟩;exact absurd D Oa;exact⟨v,h⟩
 | @cut us0 t0 u0 _ _ hr ho hp hf ha ih=>
   obtain⟨v',J⟩:=ih rfl
   obtain⟨rfl,F,O,N,_⟩:=Ad.ok ha D
   have:=hr.len rfl I
   have:=ho.Am.2
   exact⟨_,Zl1 F Oa O N (Qs ho J)⟩
theorem Zjo{u:Tb}(Z:rX t u 19)(h0:0<=t.nb)(h:Wh t z v):False:=by
 obtain⟨D,f,hr,⟨_,I,_⟩|⟨_,I,_⟩⟩:=Z
 · exact absurd I (by decide)
 {
 subst I
 obtain⟨F,_,_,h3⟩:=hr.fin (.inr rfl)
 obtain⟨U,h5⟩:=h3 rfl
 have aa:=hr.uP
 have hrg:=YO D D.nb.toNat
 have zp:=(Uo D D.nb.toNat).2 U
 have h1:=((TF hr 1 z v).1 h.1) (YD D D.nb.toNat+1) Oa Oa
 unfold XX Wc at h1
 rw [if_neg Oa,show∀x:Int,x+1-1=x from fun x=>Oa] at h1
 have J:∀q,0<=q->q<D.nf+D.nb->0<=v q:=fun q W q1=>h.2 q W Oa
 have O:=F.Cc U Oa
 have h6:0<=D.den*v (D.B (YD D D.nb.toNat)):=Int.mul_nonneg (by have:=F.d1;omega) (J _ O.1 O.2)
 have h7:Zd (fun j=>D.C (YD D D.nb.toNat+1) (j+1)*v (D.F j)) D.nf.toNat<=Zd (fun _=>0) D.nf.toNat:=Yb fun j N Y=>by
   have a:=RC D (YD D D.nb.toNat) D.nf.toNat h5 j N Y
   have b:=F.wY N Oa Oa
   exact Int.mul_nonpos_of_nonpos_of_nonneg a (J _ b.1 b.2)
 rw [ZH] at h7
 omega}
theorem ZbN{p:Lp}(O:wL p)(N:0<=p.m){y:Of}(J:∀j,0<=j->j<p.n->0<=y j)(U:∀i,0<=i->i<p.m->p.b i<=ZG (p.A i) y p.n.toNat):Wh (Zx p) (ZG p.c y p.n.toNat) (UC p y 1):=by
 refine⟨(sK O N 1 _ _).2 ⟨?_,fun i Z Y=> ?_⟩,fun q D h=> ?_⟩
 · exact Zh fun j I F=>by unfold UC;rw [if_pos Oa]
 {
 have:ZG (p.A i) (UC p y 1) p.n.toNat=ZG (p.A i) y p.n.toNat:=Zh fun j I F=>by unfold UC;rw [if_pos Oa]
 rw [this];unfold UC;rw [if_neg Oa,show p.n+i-p.n=i by omega]}
 {
 have W:q<p.n+p.m:=h
 unfold UC
 split
 · exact J q D ‹_›
 · have:=U (q-p.n) Oa Oa;omega}
def EL(u:Tb):Int:=(u.C 0 0+u.den-1)/u.den
theorem Qo{u:Tb}(hd:1<=u.den)(h:u.C 0 0<=z*u.den):EL u<=z:=by
 unfold EL
 have:(u.C 0 0+u.den-1)/u.den<z+1:=Int.ediv_lt_of_lt_mul Oa (by rw [Int.add_mul];omega)
 omega
theorem Znc{u:Tb}(hd:1<=u.den):u.C 0 0<=EL u*u.den:=by
 unfold EL
 have h1:=Int.mul_ediv_add_emod (u.C 0 0+u.den-1) u.den
 have h:=Int.emod_lt_of_pos (u.C 0 0+u.den-1) (show 0<u.den by omega)
 rw [Int.mul_comm];omega
theorem Znd{u:Tb}(hd:1<=u.den)(h:u.C 0 0=z*u.den):EL u=z:=by
 have h1:=Qo hd (show u.C 0 0<=z*u.den by omega)
 have D:=Znc hd
 rw [h] at D
 have:=Int.le_of_mul_le_mul_right D (show 0<u.den by omega)
 omega
theorem Zps{p:Lp}(F:0<=p.m){us:List Tb}{e:Int}(hr:Rn p us t e)(I:e=0){u:Tb}(D:rX t u 0)(h:Wh (Zx p) z v):EL u<=z:=by
 obtain⟨O,N⟩:=Ol F hr I h
 subst I
 have U:=hr.len rfl F
 have J:=D.Am.2
 exact Qo D.Am.1.d1 (Zl0 D.Am.1 D.fin.1 Oa (Qs D N))
end Go.Proofs.YtpnamgfdakfccaaGreat
namespace Go.Proofs.YtpnamgfdakfccaaGreat
open Go Go.RowKit Go.Proofs.Gw
variable {cuts e val:Int} {f:Og} {t:Tb}
theorem ZgK{p:Lp}{k:Nat}{u:Tb}(h:Run k t u e):e=0->lK t->t.costs->(∃uq,uS p t uq)->u.costs/\∃uq,uS p u uq:=by
 induction h with
 |stop h hd=>intro _ _ hc hi;exact⟨hc,hi⟩
 |lim=>intro D;exact absurd D (by decide)
 |bad h F D=>intro I;exact absurd I D
 | @go k t t' u r c e h hpv hr ih=>
   rintro D F hc ⟨uq,hi⟩
   rcases hpv with⟨_,_,h1⟩|⟨_,_,_,h1⟩|⟨_,_,_,_,h1⟩|⟨ha,_,hp',rfl,_⟩
   · omega
   · omega
   · omega
   {
   refine ih D hp' ?_ ⟨_,_2 hi ha⟩
   rcases h with⟨h1,_⟩|⟨_,_,_,_,_,h,_⟩|⟨_,_,_,_,_,_,_,h⟩|⟨_,_,h1,h2,h3,h4,_⟩
   · exact absurd ⟨F,hc⟩ h1
   · cases h
   · omega
   · subst h3;subst h4
     exact Zaa F hc h1 h2}
theorem Zh3{p:Lp}{uq r:Int}(h:uS p t uq)(hp:lK t)(h0:0<=t.nb)(r0:0<=r)(r1:r<t.nb):∃F,uS F (Wf t r) uq:=by
 have hd:=hp.d1;have aa:=h.nf;have ac:=h.n1;have ad:=hp.c
 have hN:((p.n.toNat+1:Nat):Int)=p.n+1:=Oa
 obtain⟨q,hq⟩:∃q:Of,∀j,0<=j->YK t r j= -t.C (r+1) j+t.den*q j:=by
   refine⟨fun j=>if j=0 then t.C (r+1) 0/t.den else-((-t.C (r+1) j)/t.den),fun j I=> ?_⟩
   unfold YK
   by_cases e:j=0
   {
   subst e
   dsimp only
   rw [if_pos rfl,if_pos rfl,W7 hd,Int.emod_def];omega}
   · dsimp only
     rw [if_neg e,if_neg e,W7 hd,Int.emod_def,Int.mul_neg];omega
 obtain⟨G,hG⟩:∃G:Of,∀m,G m= -(tX p t (r+1) m)+Zd (fun k=>q k*slt p t k m) (p.n.toNat+1):=⟨_,fun _=>rfl⟩
 obtain⟨F,W,e2,e3,e4⟩:∃F:Lp,F.n=p.n/\F.A=upd p.A t.nb (fun k=>G (k+1))/\F.b=upd p.b t.nb (-(G 0))/\F.c=p.c:=⟨{p with A:=upd p.A t.nb (fun k=>G (k+1)),b:=upd p.b t.nb (-(G 0))},rfl,rfl,rfl,rfl⟩
 have hF:∀j,0<=j->j<t.nf->t.F j≠p.n+t.nb:=fun j I j1=>by
   have:=hp.perm.1 j I Oa
   unfold cat at this;rw [if_pos j1] at this;omega
 have hB:∀i,0<=i->i<t.nb->t.B i≠p.n+t.nb:=fun i O i1=>by
   have:=hp.perm.1 (t.nf+i) Oa Oa
   unfold cat at this;rw [if_neg Oa,show t.nf+i-t.nf=i by omega] at this;omega
 have dN:∀v m,v≠p.n+t.nb->tY F v m=tY p v m:=fun v m hv=>by
   unfold tY
   rw [W,e2,e3]
   by_cases e:v<p.n
   · rw [if_pos e,if_pos e]
   · rw [if_neg e,if_neg e,upd_ne _ _ Oa,upd_ne _ _ Oa]
 have y4:∀m,tY F (p.n+t.nb) m=G m:=fun m=>by
   unfold tY
   rw [W,e2,e3,if_neg Oa,show p.n+t.nb-p.n=t.nb by omega,Zp,Zp]
   by_cases e:m=0
   · rw [if_pos e,e,Int.neg_neg]
   · rw [if_neg e];show G (m-1+1)=_;rw [show m-1+1=m by omega]
 have jQ:∀m,cst F m=cst p m:=fun m=>by unfold cst;rw [e4]
 have hs:∀k m,0<=k->k<=p.n->slt F (Wf t r) k m=slt p t k m:=fun k m J Z=>by
   unfold slt
   by_cases e:k=0
   · rw [if_pos e,if_pos e]
   · rw [if_neg e,if_neg e];exact dN _ _ (hF _ Oa Oa)
 have hl:∀i m,0<=i->i<=t.nb->tX F (Wf t r) i m=tX p t i m:=fun i m O i1=>by
   unfold tX
   by_cases e:i=0
   · rw [if_pos e,if_pos e];exact jQ m
   {
   rw [if_neg e,if_neg e]
   show tY F (lD t.B t.nb (t.nb+t.nf) (i-1)) m=_
   rw [Zl Oa];exact dN _ _ (hB _ Oa Oa)}
 have ab:∀m,tX F (Wf t r) (t.nb+1) m=G m:=fun m=>by
   unfold tX
   rw [if_neg Oa]
   show tY F (lD t.B t.nb (t.nb+t.nf) (t.nb+1-1)) m=_
   rw [show t.nb+1-1=t.nb by omega,YP,show t.nb+t.nf=p.n+t.nb by omega];exact y4 m
 refine⟨F,h.e,by rw [W];exact aa,by rw [W];exact ac,?_,?_,?_⟩
 {
 rw [W]
 show uq*t.den=_
 rw [h.den];exact(Yx fun k m J Z m0 Y=>hs k m J Oa).symm}
 {
 intro i j O i1 I j1
 have j2:j<=t.nf:=j1
 have i2:i<=t.nb+1:=i1
 rw [W]
 by_cases e:i=t.nb+1
 {
 subst e
 show uq*lD t.C t.nc (YK t r) (t.nb+1) j=_
 rw [Zo Oa,hq j I]
 have d1:rC (p.n.toNat+1) (upd (slt F (Wf t r)) j (tX F (Wf t r) (t.nb+1)))=rC (p.n.toNat+1) (upd (slt p t) j G):=Yx fun k m J Z m0 Y=>by
   by_cases e:k=j
   · subst e;rw [iU,iU];exact ab m
   · rw [lZ e,lZ e];exact hs k m J Oa
 have d2:=WN (n:=p.n.toNat+1) (A:=upd (slt p t) j G) (U:=upd (slt p t) j (tX p t (r+1))) (V:=upd (slt p t) j (fun m=>Zd (fun k=>q k*slt p t k m) (p.n.toNat+1))) (r:=j) (a:= -1) (b:=1) I Oa
   (fun m _ _=>by rw [iU,iU,iU,hG];omega) (fun k m _ _ _ _ N=>by rw [lZ N,lZ N]) (fun k m _ _ _ _ N=>by rw [lZ N,lZ N])
 rw [TK _ I Oa] at d2
 have d3:=Xl (f:=fun k=>q k*rC (p.n.toNat+1) (upd (slt p t) j (slt p t k))) (n:=p.n.toNat+1) (s:=j) I Oa (fun k J Z N=>by
   have:=TL (n:=p.n.toNat+1) (A:=upd (slt p t) j (slt p t k)) (a:=k) (b:=j) J Z I Oa N (fun m _ _=>by rw [iU,lZ N])
   rw [this,Int.mul_zero])
 rw [d1,d2,d3,Wi,<-h.den,<-h.cell (r+1) j Oa Oa I j2]
 grind}
 {
 show uq*lD t.C t.nc (YK t r) i j=_
 rw [Zl Oa,h.cell i j O Oa I j2]
 refine(Yx fun k m J Z m0 Y=> ?_).symm
 by_cases e':k=j
 · subst e';rw [iU,iU];exact hl i m O Oa
 · rw [lZ e',lZ e'];exact hs k m J Oa}}
 {
 intro m m0 Y i O i1
 rw [W] at Y
 have i2:i<=t.nb+1:=i1
 have key:∀C:Of,C 0*(if m=0 then 1 else 0)+Zd (fun j=>C (j+1)*tY F (t.F j) m) t.nf.toNat=Zd (fun k=>C k*slt p t k m) (p.n.toNat+1):=fun C=>by
   rw [W0,aa]
   have:Zd (fun j=>C (j+1)*tY F (t.F j) m) p.n.toNat=Zd (fun j=>C (j+1)*slt p t (j+1) m) p.n.toNat:=Zh fun j I j1=>by
     unfold slt;rw [if_neg Oa,show j+1-1=j by omega,dN _ _ (hF j I Oa)]
   rw [this];unfold slt;rw [if_pos rfl]
 show t.den*tX F (Wf t r) i m=lD t.C t.nc (YK t r) i 0*(if m=0 then 1 else 0)+Zd (fun j=>lD t.C t.nc (YK t r) i (j+1)*tY F (t.F j) m) t.nf.toNat
 rw [key]
 by_cases e:i=t.nb+1
 {
 subst e
 rw [ab,hG,Zo Oa]
 have h1:=h.row (i:=r+1) Oa Oa m0 Y
 have h2:=Xn (f:=fun k=>q k*slt p t k m) (g:=fun k=>t.C (r+1) k*slt p t k m) (h:=fun k=>YK t r k*slt p t k m) (D:=1) (A:=t.den) (B:=1) (n:=p.n.toNat+1) (fun k J Z=>by rw [hq k J];grind)
 rw [<-h1] at h2
 rw [Int.mul_add,Int.mul_neg];omega}
 · rw [hl i m O Oa,Zl Oa]
   exact h.row O Oa m0 Y}
theorem QZ{p:Lp}(F:0<=p.m){us:List Tb}(h:Rn p us t e):(e=0->0<=t.nb/\lK t/\t.costs/\∃I uq,uS I t uq)/\(wL p->e=0\/e=2\/e=9):=by
 induction h with
 | start h=>
   rcases h with⟨h1,_,h2⟩|⟨h1,rfl,h2⟩
   · exact⟨fun h=>Oa,fun h=>absurd h h1⟩
   · exact⟨fun _=>⟨F,(Ks h1 F).1,(Ks h1 F).2,_,_,ZdN h1 F⟩,fun _=> .inl h2⟩
 | @cut us t u t' e' h ho hp hf ha ih=>
   obtain⟨n0,g1,g2,W,uq,g3⟩:=ih.1 rfl
   have hn:=ho.Am.2
   obtain⟨U,m6,O⟩:u.costs/\∃uq,uS W u uq:=by
     obtain⟨u',f',N,⟨D,_,rfl⟩|⟨D,he,_⟩⟩:=ho
     · exact ZgK N D g1 g2 ⟨_,g3⟩
     · omega
   have aa:=Yz u u.nb.toNat
   have J:=(Nh u u.nb.toNat).2 hf
   rcases ha with⟨h1,_⟩|⟨_,h1,_⟩|⟨_,_,_,h1,_⟩|⟨_,_,_,_,_,_,h1⟩|⟨_,b0,b1,_,hb,rfl,h1⟩
   · exact absurd hp h1
   · exact absurd ⟨hf,Oa⟩ h1
   · exact absurd h1 J.2
   · exact⟨fun h=>Oa,fun _=> .inr (.inr h1)⟩
   {
   refine⟨fun _=>⟨by show 0<=u.nb+1;omega,Zjd hp b0 b1 hb,fun j Z Y=> ?_,?_⟩,fun _=> .inl h1⟩
   · show 0<=lD u.C u.nc (YK u _) 0 j
     rw [Zl (by have:=hp.c;omega)];exact U j Z Y
   · obtain⟨I,h9⟩:=Zh3 O hp Oa b0 b1
     exact⟨I,_,h9⟩}
theorem ZfI{p:Lp}(D:0<=p.m)(J:wL p){n:Int}{f:Of}(W:TR p n f val cuts e){y:Of}(U:∀j,0<=j->j<p.n->0<=y j)(Y:∀i,0<=i->i<p.m->p.b i<=ZG (p.A i) y p.n.toNat):e=0\/e=2\/e=9:=by
 rcases W with⟨_,_,_,_,us,t,e',hr,⟨rfl,_⟩|⟨rfl,u,ho⟩⟩|⟨h,_⟩
 · exact(QZ D hr).2 J
 {
 obtain⟨n0,g1,g2,p1,uq,g3⟩:=(QZ D hr).1 rfl
 have F:=ho
 obtain⟨u',f',O,⟨hf,N,_⟩|⟨hf,N,_⟩⟩:=ho
 · exact .inl N
 {
 rcases ZgJ O g1 g2 ⟨_,g3⟩ with h|h|h|h
 · exact absurd h hf
 · exact .inr (.inl Oa)
 · exact .inr (.inr Oa)
 {
 have I:e=19:=Oa
 subst I
 obtain⟨v',Z⟩:=Ol D hr rfl (ZbN J D U Y)
 exact(Zjo F n0 Z).elim}}}
 · exact .inl h
theorem ZfJ{p:Lp}(D:0<=p.m)(Y:wL p){n:Int}{f:Of}(Z:TR p n f val cuts 0):(∀j,0<=j->j<p.n->0<=f j)/\(∀i,0<=i->i<p.m->p.b i<=ZG (p.A i) f p.n.toNat)/\ZG p.c f p.n.toNat=val/\
   ∀y:Of,(∀j,0<=j->j<p.n->0<=y j)->(∀i,0<=i->i<p.m->p.b i<=ZG (p.A i) y p.n.toNat)->val<=ZG p.c y p.n.toNat:=by
 rcases Z with⟨h,_⟩|⟨_,us,t,u,hr,ho,hp,hfr,hcu,h1,h3,h4⟩
 · exact absurd rfl h
 obtain⟨g1,g2,g3,g4⟩:=Zhn D hr ho hfr h1 h3 h4
 have hd:=hp.d1
 have I:EL u=val:=Znd hd g3.symm
 refine⟨fun j F N=> ?_,fun i U O=> ?_,?_,fun y W hb=> ?_⟩
 {
 have J:=Uz hp ho.fin.2 j u.nb.toNat Oa
 rw [h3 j F Oa]
 exact Int.tdiv_nonneg J.1 (show 0<=u.den by omega)}
 {
 have h5:=(NW D hr ho g4).2 i U O
 have h6:=Zpa ho (p.n+i)
 have h7:ZG (p.A i) (t_ u u.nb.toNat) p.n.toNat=ZG (p.A i) f p.n.toNat*u.den:=by
   rw [VC,VC (p.A i),<-ZdM]
   exact Zh fun j F N=>by show _*_=_*_;rw [<-g2 j F Oa]
 rw [h5,h7] at h6
 have h8:p.b i*u.den<=ZG (p.A i) f p.n.toNat*u.den:=Oa
 exact Int.le_of_mul_le_mul_right h8 Oa}
 · rw [h4,VC,g1]
 · rw [<-I];exact Zps D hr rfl ho (ZbN Y D W hb)
theorem Zd4{p:cO}{a:Of}(Y:nN p p.m a){w:Int}(w0:0<=w)(Z:w<p.m)(hw:1<=a w)(hd:1<=p.D w):∃i,0<=i/\i<((MX p (-1)).length:Int)/\∀j,0<=j->j<p.m->min (a j) (p.D j)<=Yi (MX p (-1)) i j:=by
 have F:=Y.ok
 obtain⟨x,N,W⟩:∃x:Of,(∀j,0<=j->j<p.m->x j=min (a j) (p.D j))/\∀j,j<0\/p.m<=j->x j=0:=
   ⟨fun j=>if 0<=j/\j<p.m then min (a j) (p.D j) else 0,fun j D J=>if_pos ⟨D,J⟩,fun j hj=>if_neg Oa⟩
 have hu:ZD p x p.m.toNat<=p.bP+p.aV:=by
   refine Int.le_trans (Yb fun j D J=> ?_) Y.used
   rw [N j D Oa]
   have I:=F.all j D Oa
   unfold cO.each at I
   have hk:=F.k1
   exact Int.mul_le_mul_of_nonneg_right Oa Oa
 obtain⟨z,h1,I⟩:=KD F (w:= -1) _ rfl (fun k U O=>by
     rw [N k U O]
     have I:=F.all k U O
     unfold cO.each at I
     have:=Y.all k U O
     omega) W hu ⟨w,w0,Z,by rw [N w w0 Z];omega⟩
 have h3:z∈MX p (-1):=O3 F h1 fun h _=>Oa
 obtain⟨n,hn,e⟩:=List.mem_iff_getElem.1 h3
 refine⟨n,Oa,Oa,fun j D J=> ?_⟩
 have h4:=I j
 rw [N j D J] at h4
 unfold Yi
 rw [show((n:Int)).toNat=n by omega,List.getD_eq_getElem?_getD,List.getElem?_eq_getElem hn,Option.getD_some,e]
 exact h4
theorem SB{p:cO}(F:p.Ok){u:Int}(hu:u=((MX p (-1)).length:Int))(u1:1<=u):∀L:List (Of),vw p L->∃x:Of,(∀i,0<=x i)/\Zd x u.toNat=L.length/\∀j,0<=j->j<p.m->min (Xh L j) (p.D j)<=Zd (fun i=>Yi (MX p (-1)) i j*x i) u.toNat
 | [],_=>⟨fun _=>0,fun _=>Int.le_refl _,by rw [ZH];rfl,fun j D h=>by
     rw [Zh (g:=fun _=>0) fun i _ _=>by rw [Int.mul_zero],ZH]
     have he:=F.all j D h
     unfold cO.each at he
     show min 0 _<=0
     omega⟩
 | a::L,hL=>by
   have I:vw p L:=fun b hb=>hL b (List.mem_cons_of_mem _ hb)
   obtain⟨x,O,Z,Y⟩:=SB F hu u1 L I
   have N:=hL a (List.mem_cons_self ..)
   obtain⟨i,J,i1,hi⟩:∃i,0<=i/\i<u/\∀j,0<=j->j<p.m->min (a j) (p.D j)<=Yi (MX p (-1)) i j:=by
     by_cases hz:∃w,0<=w/\w<p.m/\1<=a w/\1<=p.D w
     · obtain⟨w,w0,w1,w2,w3⟩:=hz
       obtain⟨i,J,i1,hi⟩:=Zd4 N w0 w1 w2 w3
       exact⟨i,J,Oa,hi⟩
     {
     refine⟨0,Oa,Oa,fun j D h=> ?_⟩
     have h2:=N.all j D h
     have W:=F.all j D h
     unfold cO.each at W
     have h4:=(Ja F (Ui (l:=MX p (-1)) (k:=0) Oa Oa)).1.rng j D h
     have:¬(1<=a j/\1<=p.D j):=fun U=>hz ⟨j,D,h,U.1,U.2⟩
     omega}
   refine⟨upd x i (x i+1),fun k=> ?_,?_,fun j D h=> ?_⟩
   {
   unfold upd;split
   · have:=O i;omega
   · exact O k}
   · rw [UK _ J Oa,Z,List.length_cons];omega
   {
   have e:Zd (fun k=>Yi (MX p (-1)) k j*upd x i (x i+1) k) u.toNat=Zd (upd (fun k=>Yi (MX p (-1)) k j*x k) i (Yi (MX p (-1)) i j*(x i+1))) u.toNat:=Zh fun k _ _=>by
     by_cases e:k=i
     · subst e;rw [Zp,Zp]
     · rw [upd_ne _ _ e,upd_ne _ _ e]
   rw [e,UK _ J Oa]
   have h1:=Y j D h
   have h2:=hi j D h
   have W:=N.all j D h
   have h4:=I.nn D h
   have h5:=F.all j D h
   unfold cO.each at h5
   show min (a j+Xh L j) _<=_
   rw [Int.mul_add,Int.mul_one]
   omega}
theorem LG{p:cO}{f:Og}{x:Of}:∀n:Nat,(∀i,0<=i->i<(n:Int)->nN p p.m (f i)/\0<=x i)->∃L,vw p L/\(∀j,Xh L j=Zd (fun i=>f i j*x i) n)/\(L.length:Int)=Zd x n
 |0,_=>⟨[],fun a D=>(by cases D),fun j=>rfl,rfl⟩
 | n+1,h=>by
   obtain⟨L,h1,I,O⟩:=LG n fun i F N=>h i F Oa
   obtain⟨J,U⟩:=h n Oa Oa
   refine⟨L++rep (x n).toNat (f n),fun a D=> ?_,fun j=> ?_,?_⟩
   {
   rcases List.mem_append.1 D with D|D
   · exact h1 a D
   · rw [show a=f n from List.eq_of_mem_replicate D];exact J}
   {
   rw [Un,I,Rr]
   simp only [Zd]
   rw [show(((x n).toNat:Nat):Int)=x n by omega]}
   {
   show((L++List.replicate (x n).toNat (f n)).length:Int)=_
   rw [List.length_append,List.length_replicate]
   simp only [Zd];omega}
theorem ZpE{p:cO}(F:p.Ok)(hf:GV p){u:Int}(Y:Ls p.m u f (MX p (-1)))(U:1<=u)(u2:u<=12):UF p u (fun _=>p.m) f/\wL (XR p u f):=by
 obtain⟨hu,J⟩:=Y
 have O:UF p u (fun _=>p.m) f:=⟨F,fun k N W=>by
   have I:=(Ja F (Ui (l:=MX p (-1)) (k:=k) N Oa)).1
   have e:∀j,0<=j->j<p.m->f k j=Yi (MX p (-1)) k j:=J k N W
   refine⟨⟨F,rfl,fun j h D=> ?_,?_⟩,fun j h D=> ?_⟩
   {
   have h1:=I.rng j h D
   have Z:=F.all j h D
   unfold cO.each at Z
   rw [e j h D];omega}
   · refine Int.le_trans (Int.le_of_eq (Zh fun j h D=> ?_)) I.used
     rw [e j h Oa]
   · rw [e j h D];exact(I.rng j h D).2⟩
 exact⟨O,ZpD O U Oa (by have:=(hf.2.2 F).2.1;omega)⟩
theorem Zi9{p:cO}(F:p.Ok):∃L,vw p L/\∀j,0<=j->j<p.m->p.D j<=Xh L j:=by
 have hm:=F.m1
 have D:∀i,0<=i->i<p.m->0<=p.D i:=fun i h N=>by
   have:=F.all i h N
   unfold cO.each at this;omega
 obtain⟨L,h1,Z,_⟩:=LG (p:=p) (f:=fun i=>VF p i) (x:=p.D) p.m.toNat fun i h N=>⟨(Ro F h Oa).1.1,D i h Oa⟩
 refine⟨L,h1,fun j I J=> ?_⟩
 rw [Z]
 have Y:=Xm (f:=fun i=>VF p i j*p.D i) (n:=p.m.toNat) I Oa fun i h N=>Int.mul_nonneg ((Ro F h Oa).1.1.all j I J).1 (D i h Oa)
 refine Int.le_trans ?_ Y
 have W:=(Ro F I J).2
 have U:=D j I J
 rcases Int.lt_or_eq_of_le U with O|O
 {
 have:=Int.mul_le_mul_of_nonneg_right (W O) U
 rw [Int.one_mul] at this;exact this}
 · rw [<-O,Int.mul_zero];exact Int.le_refl _
theorem Zj9{w:World}{vc vA vb:Value}{vv:Ov}{p:cO}{u D O nb:Int}{J N:Of}(h:BQ w vc vA vb vv ⟨D,O,nb,J,fun _=>u,fun i j=>f j i,N⟩)(e1:D=u)(Z:O=p.m)(Y:nb=p.d)(h1:∀k,0<=k->k<u->J k=1)(W:∀k,0<=k->k<p.d->N k=p.D k):BQ w vc vA vb vv (XR p u f):=by
 subst e1;subst Z;subst Y
 exact⟨h.c.congr fun k I F=>by show ints J k=ints (fun _=>1) k;unfold ints;rw [h1 k I (by have U:k<D*((1:Nat):Int):=F;omega)],h.A,h.b.congr fun k I F=>by show ints N k=ints p.D k;unfold ints;rw [W k I (by have U:k<p.d*((1:Nat):Int):=F;omega)]⟩
theorem Zjt{p:cO}(I:p.Ok)(hf:GV p){u:Int}(hl:Ls p.m u f (MX p (-1)))(u1:1<=u)(u2:u<=12){n ge nb us:Int}{g:Of}{t:Tr}{ln cnt:Of}{pt:Og}(hg:TR (XR p u f) n g val cuts ge)
   (h:uf p nb t us ln pt cnt e):(ge=0\/ge=2\/ge=9)/\(e=0->ge=0->val=nb):=by
 obtain⟨hP,hL⟩:=ZpE I hf hl u1 u2
 obtain⟨hu,ab⟩:=hl
 have ad:=I.m1
 have hm:0<=(XR p u f).m:=by show 0<=p.m;omega
 have D:∀L,vw p L->(∀j,0<=j->j<p.m->p.D j<=Xh L j)->∃x:Of,(∀j,0<=j->j<(XR p u f).n->0<=x j)/\(∀i,0<=i->i<(XR p u f).m->(XR p u f).b i<=ZG ((XR p u f).A i) x (XR p u f).n.toNat)/\ZG (XR p u f).c x (XR p u f).n.toNat=L.length:=fun L U O=>by
   obtain⟨x,N,J,Y⟩:=SB I hu u1 L U
   refine⟨x,fun j _ _=>N j,fun i F W=> ?_,?_⟩
   {
   have h1:=Y i F W
   have h2:=O i F W
   have e1:ZG ((XR p u f).A i) x (XR p u f).n.toNat=Zd (fun k=>Yi (MX p (-1)) k i*x k) u.toNat:=Zh fun k k0 Z=>by
     show f k i*x k=_
     have ac:k<(u.toNat:Int):=Z
     rw [ab k k0 Oa i F W]
   rw [e1]
   show p.D i<=_
   omega}
   · have e1:ZG (XR p u f).c x (XR p u f).n.toNat=Zd x u.toNat:=Zh fun k k0 Z=>by show 1*x k=_;omega
     rw [e1,J]
 refine⟨?_,fun he aa=> ?_⟩
 {
 obtain⟨L,U,O⟩:=Zi9 I
 obtain⟨x,N,J,_⟩:=D L U O
 exact ZfI hm hL hg N J}
 {
 subst aa
 obtain⟨a1,a2,a3,a4⟩:=ZfJ hm hL hg
 obtain⟨L0,U,O,g3⟩:=h.bars I he
 obtain⟨x,N,J,Y⟩:=D L0 U O
 have b1:=a4 x N J
 rw [Y] at b1
 obtain⟨L,c1,c2,c3⟩:=LG (p:=p) (f:=f) (x:=g) u.toNat fun i F W=>⟨(hP.2 i F Oa).1,a1 i F (by show i<u;omega)⟩
 have d1:=h.least I he c1 fun j j0 j1=>by
   rw [c2];exact a2 j j0 j1
 have d2:ZG (XR p u f).c g (XR p u f).n.toNat=Zd g u.toNat:=Zh fun k k0 Z=>by show 1*g k=_;omega
 rw [d2,<-c3] at a3
 omega}
end Go.Proofs.YtpnamgfdakfccaaGreat
namespace Go.Proofs.YtpnamgfdakfccaaGreat
open Go Go.RowKit Go.Proofs.Gw
def Ea(p:cO)(u:Int)(f:Og)(e:Int):Prop:=(¬p.Ok/\e=1/\u=0)\/(p.Ok/\e=9/\u=0)\/(p.Ok/\e=0/\u<=300/\Ls p.m u f (MX p (-1)))
theorem Ea.ls{p:cO}{u e:Int}{f:Og}(h:Ea p u f e)(D:e=0):Ls p.m u f (MX p (-1)):=by
 rcases h with⟨_,h,_⟩|⟨_,h,_⟩|⟨_,_,_,h⟩
 · omega
 · omega
 · exact h
theorem Zll{vL vD:Value}{p:cO}(w0:World)(h:oO w0 vL vD p):
   Calls Om 18 [.agg #[vL,vD,.int Oi p.bP,.int Oi p.aV]].toArray w0 fun e w=>∃v,e= .returned v/\∃r u vv f e,v= .tuple #[r,.int Oi e]/\Ea p u f e/\iK r u/\Sat w0 w [.own r 1 22 u vv,.sem (Frame.rows 3 u vv (fun _=>p.m) f)]:=by
 obtain⟨hm,ac,hd,hd1,hs,hk⟩:=h.Oq
 refine iE Tryz.func18 Tryz.ntmps18 fun w D=> ?_
 refine fQ<|iG (nS (cs:= [_,_,_,_]) D) ?_;rintro _ w ⟨g1,rfl,D⟩
 refine(On)<|l9<|(zV (lH 0 rQ D))<|iJ (xc0 Ii) (WR (p:=p) w (h.below D.below)) ?_;rintro _ w ⟨rfl,I⟩
 replace D:=D.cmp I;clear I
 refine(zP)<|ig<|Zf ?_ ?_<;>intro hc
 {
 refine fQ<|(On)<|j_<|rD ⟨_,rfl,?_⟩
 exact⟨_,0,_,_,_,rfl,.inl ⟨‹¬p.Ok›,rfl,rfl⟩,d_,((D.sub (.cons _ .slnil)).fU 1 22 (fun _=>Oh)).iF 3 (fun _=>Oh) (fun _=>p.m) (fun _ _=>0)⟩}
 refine ZX<|iI (lH 0 rQ D) ?_
 have F:p.Ok:=by first|assumption|exact Od ‹_›
 have aa:=F.m1;have qM:=F.m2;have ab:=F.d;have Z:=F.s1;have Y:=F.s2;have ae:=F.k1;have ad:=F.k2
 replace D:=(D.fU 1 22 (fun _=>Oh)).iF 3 (fun _=>Oh) (fun _=>p.m) (fun _ _=>0)
 replace D:=D.fU 1 3 (ints (fun _=>0))
 refine iJ (xc0 RH) (Zou (p:=p) (wi:= -1) F Oa _ (i:=0) (a:=fun _=>0) (l:=p.bP+p.aV) (out:= []) w0 w (Sat.bundle (l1:= [_,_,_]) (D.pk [1,2,3,0])) h d_ d_ Oa Oa (wQ.start F) Ls.nil Oa Oa (Nat.lt_succ_self _)) ?_;rintro xD w ⟨_,J,xn,af,rfl,N,au,O,D⟩
 replace D:=Sat.unbundle (l1:= [_,_]) (l3:= []) D
 have yc:=fun k (W:0<=k) (U:k<J)=>D.iw 1 rfl W U
 refine(zP)<|l9<|(zP)<|(zV (iW Zk N))<|(zP)<|ig<|Zf ?_ ?_<;>intro hc
 {
 refine fQ<|(On)<|j_<|rD ⟨_,rfl,?_⟩
 exact⟨_,0,_,_,_,rfl,.inr (.inl ⟨F,rfl,rfl⟩),d_,((D.sub (.cons _ (.cons _ (.cons _ .slnil)))).fU 1 22 (fun _=>Oh)).iF 3 (fun _=>Oh) (fun _=>p.m) (fun _ _=>0)⟩}
 refine ZX<|(Oo)<|jk<|rD ⟨_,rfl,?_⟩
 exact⟨_,_,_,_,0,rfl,.inr (.inr ⟨F,rfl,Oa,(Zfe O Oa).2⟩),N,D.pk [0,1]⟩
theorem Zqt:Zc Om 18=true:=Oc
theorem Zqs:Zc Om 19=true:=Oc
theorem ZpV:ZN Om 63=some (.agg #[Oh,Oh,Oh],3,72):=Oc
theorem Zhd{vL vD:Value}{p:cO}(w0:World)(h:oO w0 vL vD p):
   Calls Om 5 [.agg #[vL,vD,.int Oi p.bP,.int Oi p.aV]].toArray w0 fun e w=>∃v,e= .returned v/\v= .bool true/\Sat w0 w []:=by
 obtain⟨hm,a1,hd,hd1,hs,hk⟩:=h.Oq
 refine iE Tryz.func5 Tryz.ntmps5 fun w D=> ?_
 refine fQ<|iG (nS (cs:= [_,_,_,_]) D) ?_;rintro _ w ⟨g1,rfl,D⟩
 refine(zP)<|l9<|iJ (xc0 Zrd) (Zo6 w) ?_;rintro _ w ⟨rfl,I⟩
 replace D:=D.cmp I;clear I
 refine(zP)<|ig<|uD<|nX<|iP<|lW<|fQ ?_
 refine(zV (lH 0 rQ D))<|iJ (xc0 Zrc) (Zk7 (p:=p) w (h.below D.below)) ?_;rintro _ w ⟨rfl,I⟩
 replace D:=D.cmp I;clear I
 refine(On)<|lX 20 ?_ ?_<;>intro hc;rotate_left
 refine(zV (lH 0 rQ D))<|iJ (xc0 Ii) (WR (p:=p) w (h.below D.below)) ?_;rintro _ w ⟨rfl,I⟩
 replace D:=D.cmp I;clear I
 refine(On)<|ig<|Zf ?_ ?_<;>intro hc
 {
 refine fQ<|(zP)<|j_<|Oj ?_
 exact⟨rfl,D.nl⟩}
 refine ZX<|iI (lH 0 rQ D) ?_
 have ab:p.Ok:=Oe
 refine iJ (xc0 Zqt) (Zll (p:=p) w (h.below D.below)) ?_;rintro _ w ⟨zf,O,yp,U,m8,rfl,dY,yx,I⟩
 replace D:=(D.comp I).n3;clear I
 have dA:=fun k (F:0<=k) (J:k<O)=>D.iw 2 rfl F J
 refine uK ?_
 refine l9<|(Oo)<|lX 32 ?_ ?_<;>intro hc;rotate_left
 refine(zP)<|(zV (iW Zk yx))<|(Oo)<|lX 37 ?_ ?_<;>intro hc;rotate_left
 refine(zP)<|(zV (iW Zk yx))<|(On)<|ig<|Zf ?_ ?_<;>intro hc
 {
 refine fQ<|(zP)<|j_<|Oj ?_
 exact⟨rfl,D.nl⟩}
 refine ZX<|iG (oh (cs:= [_,_,_]) ZpV D) ?_;rintro _ w ⟨g2,rfl,D⟩
 have aq:=yx.n0;have my:=yx.n1
 have jA:=Ea.ls dY Oa
 have fZ:GV p:=Od ‹¬¬(GV p)›
 have aw:=ab.d;have av:=ab.m1;have qM:=ab.m2
 refine l9<|(zV (h_ 0 oG))<|(zV (g_ 0 dV D))<|(zV (iW Zb h.L.fP))<|(zP)<|nI ?_
 replace D:=D.fU 1 22 (fun _=>Oh)
 replace D:=D.iF 3 (fun _=>Oh) (fun _=>O) (fun i j=>U j i)
 have zL:=fun k (F:0<=k) (J:k<0)=>D.iw 5 rfl F J
 replace D:=D.fU 1 3 (ints (fun _=>0))
 refine ny (fun mm M w=>∃(nb:Int) (N:Int) (Y:Ov) (i:Int) (wb:Value) (fb:Of) (wC:Value),mm=((p.m-i).toNat)/\(0<=i)/\(i<=p.m)/\(nb=i)/\(N=i)/\(∀k,0<=k->k<i->fb k=p.D k)/\(iK wb nb)/\(iK wC N)/\M= [(1,Or g1),(2,.bool false),(3,zf),(5,Or g2),(44,.int Oi p.m),(45,.int Oi i)]/\Sat w0 w [.blk g1 [vL,vD,.int Oi p.bP,.int Oi p.aV],.own zf 1 22 O yp,.sem (Frame.rows 3 O yp (fun _=>p.m) U),.blk g2 [Oh,wC,wb],.own wC 1 22 N Y,.sem (Frame.rows 3 N Y (fun _=>O) (fun i j=>U j i)),.own wb 1 3 nb (ints fb)]) ⟨0,0,(fun _=>Oh),0,Oh,(fun _=>0),Oh,rfl,Oa,Oa,Oa,Oa,?_,?_,?_,rfl,D⟩ ?_
 {
 intro k F J;omega}
 {
 exact d_}
 {
 exact d_}
 clear D w
 rintro mm M w ⟨nb,N,Y,i,wb,fb,wC,rfl,h0,h1,az,a0,af,am,an,rfl,D⟩
 have q9:=fun k (F:0<=k) (J:k<N)=>D.iw 5 rfl F J
 refine fQ<|(zP)<|nG<|Zf ?_ ?_<;>intro hc
 {
 refine oC<|(On)<|iT<|(zP)<|l9<|(zP)<|(zV (iW Zk yx))<|(zP)<|nI ?_
 replace D:=D.fU 1 3 (ints (fun _=>0))
 refine ny (fun mm M w=>∃(nr:Int) (j:Int) (wr:Value) (fr:Of),mm=((O-j).toNat)/\(0<=j)/\(j<=O)/\(nr=j)/\(∀k,0<=k->k<j->fr k=U k i)/\(iK wr nr)/\M= [(1,Or g1),(2,.bool false),(3,zf),(5,Or g2),(6,.int Oi i),(7,wr),(44,.int Oi p.m),(45,.int Oi i),(49,.int Oi O),(50,.int Oi j)]/\Sat w0 w [.blk g1 [vL,vD,.int Oi p.bP,.int Oi p.aV],.own zf 1 22 O yp,.sem (Frame.rows 3 O yp (fun _=>p.m) U),.blk g2 [Oh,wC,wb],.own wC 1 22 N Y,.sem (Frame.rows 3 N Y (fun _=>O) (fun i j=>U j i)),.own wb 1 3 nb (ints fb),.own wr 1 3 nr (ints fr)]) ⟨0,0,Oh,(fun _=>0),rfl,Oa,Oa,Oa,?_,?_,rfl,D⟩ ?_
 {
 intro k F J;omega}
 {
 exact d_}
 clear D w
 rintro mm M w ⟨nr,j,wr,fr,rfl,j0,j1,ax,ae,aa,rfl,D⟩
 refine fQ<|(zP)<|nG<|Zf ?_ ?_<;>intro hc
 {
 refine oC<|(On)<|ig<|lG<|(Oo)<|(zV (iy (kk:=j) Zk yx))<|(zV (iR (u:=(yp j)) dV (D.f_ 1 rfl)))<|(zP)<|(zV (iy (kk:=i) Zb (dA j Oa Oa)))<|(zV (iR (u:= .int Oi (U j i)) dw (show Row _ _ 1 p.m _ from(D.lI (k:=j) 2 rfl Oa Oa))))<|iG (pO (n:=1) (len:=1) (pv:= [(0,.int Oi (U j i))]) (cs:= [.int Oi (U j i)]) (c:=ints (fun _=>(U j i))) Zb Zq D) ?_;rintro v1 w ⟨D,ap⟩
 refine iG (pz 7 (r:=nr+1) Zb Zq D (D.f_ 8 rfl) (ZR _ _ _)) ?_;rintro v2 w ⟨D,ak⟩
 refine(zP)<|nT<|(zV (Zg (r:=j+1)))<|(zP)<|iq<|jm ⟨nr+1,j+1,v2,(snoc fr nr (U j i)),rfl,Oa,Oa,Oa,?_,?_,rfl,D.pk [0,1,2,3,4,5,6,7]⟩
 {
 intro k F J;by_cases e:k<nr
 · rw [Zt e];exact ae k F Oa
 · rw [Zu e];rw [show k=j by omega]}
 {
 exact ak}}
 refine sW<|n_<|n_<|rH<|iP<|lg [0,1,2,3] [0,1,2] 15 nP D ?_;clear D;intro w D
 refine(b_ 0 (h_ 1 rM))<|sQ 1 (fun w D=>(g_ 3 Zz D)) ?_
 refine(b_ 2 gu)<|(b_ 5 (h_ 2 sS))<|sQ 6 (fun w D=>(g_ 3 dV D)) ?_
 refine(b_ 7 (h_ 1 pV))<|(iQ 8 (fun w D=>(g_ 0 dV D)))<|(b_ 9 gu)<|(b_ 10 (iy (kk:=i) Zb h.D.fP))<|oH 11 (fun w D=>(iR (u:= .int Oi (p.D i)) dw (h.D.below D.below))) ?_
 have a3:=h.iD i
 refine Xw (r:= [3,12]) ((ZY ?_ (ZY ?_ Xv)))
 {
 refine tC (pO (n:=1) (len:=1) (pv:= [(0,wr)]) (cs:= [wr]) (c:=(fun _=>wr)) Zk ZQ D (hf:=by obtain⟨_,_,_,_,rfl,_⟩:=aa;kernel_rfl)) ?_;rintro v3 w ⟨D,aj⟩
 refine⟨⟨fun _=>D.pk [0,1,2,3],D.pk [0,1,2]⟩,?_⟩
 refine Xw (r:= [4,12]) ((ZY ?_ (ZY ?_ Xv)))
 {
 refine tC (pz 4 (r:=N+1) Zk ZQ D (D.f_ 8 rfl) (YA _ _ _) (h1:=fun _ _ _=>aa.one)) ?_;rintro v4 w ⟨D,ad⟩
 replace D:=Sat.merge (l1:= [_,_,_,_,_]) (l2:= [_]) (l3:= [_]) D Oa
 have xV:=fun k (F:0<=k) (J:k<N+1)=>D.iw 5 rfl F J
 refine⟨⟨fun _=>D.pk [0,1,2,3],D.pk [0,1,2]⟩,?_⟩
 refine(b_ 14 (h_ 1 rM))<|oZ 12 (pO (n:=1) (len:=1) (pv:= [(0,.int Oi (p.D i))]) (cs:= [.int Oi (p.D i)]) (c:=ints (fun _=>p.D i)) Zb Zq D) ?_;rintro v5 w ⟨D,Z⟩
 refine⟨⟨fun _=>D.pk [0,1,2,3],D.pk [0,1,2]⟩,?_⟩
 refine oZ 13 (pz 6 (r:=nb+1) Zb Zq D (D.f_ 8 rfl) (ZR _ _ _)) ?_;rintro v6 w ⟨D,W⟩
 refine⟨⟨fun _=>D.pk [0,1,2,3],D.pk [0,1,2]⟩,?_⟩
 refine nR 15 (xsb 3 Zz D (hv:=ad.one)) ?_;clear D;rintro w D
 refine⟨⟨fun h=>absurd h (by decide),D.pk [0,1,2]⟩,?_⟩
 refine(b_ 16 (h_ 2 sS))<|nR 17 (xsb 3 dV D (hv:=W.one)) ?_;clear D;rintro w D
 refine⟨⟨fun h=>absurd h (by decide),D.pk [0,1,2]⟩,?_⟩
 refine lS<|ng<|iP<|lG ?_
 refine(zV (Zg (r:=i+1)))<|(zP)<|iq ?_
 replace D:=D.oP (xk:=lD Y N wr) (vT:=fun _=>O) (f':=fun i j=>U j i) 5 rfl (fun k F J=>by
   by_cases e:k<i
   · exact⟨rfl,Zl Oa,fun j _ _=>by rw [Zl Oa]⟩
   {
   have ac:k=i:=Oa
   refine⟨rfl,?_,fun b b0 b1=> ?_⟩
   · rw [Zo Oa];omega
   · rw [Zo Oa] at b1
     rw [Zo Oa,ac];exact ae b b0 Oa})
 have ah:=fun k (F:0<=k) (J:k<N+1)=>D.iw 5 rfl F J
 refine jm ⟨nb+1,N+1,lD Y N wr,i+1,v6,(snoc fb nb (p.D i)),v4,rfl,Oa,Oa,Oa,Oa,?_,?_,?_,rfl,D.pk [0,1,2,3,4,5,6]⟩
 {
 intro k F J;by_cases e:k<nb
 · rw [Zt e];exact af k F Oa
 · rw [Zu e];rw [show k=i by omega]}
 {
 exact W}
 {
 exact ad}}
 refine tC (pO (n:=1) (len:=1) (pv:= [(0,.int Oi (p.D i))]) (cs:= [.int Oi (p.D i)]) (c:=ints (fun _=>p.D i)) Zb Zq D) ?_;rintro v4 w ⟨D,ad⟩
 refine⟨⟨fun _=>D.pk [0,1,2,3],D.pk [0,1,2]⟩,?_⟩
 refine oZ 4 (pz 4 (r:=N+1) Zk ZQ D (D.f_ 8 rfl) (YA _ _ _) (h1:=fun _ _ _=>aa.one)) ?_;rintro v5 w ⟨D,Z⟩
 replace D:=Sat.merge (l1:= [_,_,_,_,_]) (l2:= [_]) (l3:= [_,_]) D Oa
 have xV:=fun k (F:0<=k) (J:k<N+1)=>D.iw 5 rfl F J
 refine⟨⟨fun _=>D.pk [0,1,2,3],D.pk [0,1,2]⟩,?_⟩
 refine(b_ 14 (h_ 1 rM))<|oZ 13 (pz 6 (r:=nb+1) Zb Zq D (D.f_ 8 rfl) (ZR _ _ _)) ?_;rintro v6 w ⟨D,W⟩
 refine⟨⟨fun _=>D.pk [0,1,2,3],D.pk [0,1,2]⟩,?_⟩
 refine nR 15 (xsb 3 Zz D (hv:=Z.one)) ?_;clear D;rintro w D
 refine⟨⟨fun h=>absurd h (by decide),D.pk [0,1,2]⟩,?_⟩
 refine(b_ 16 (h_ 2 sS))<|nR 17 (xsb 3 dV D (hv:=W.one)) ?_;clear D;rintro w D
 refine⟨⟨fun h=>absurd h (by decide),D.pk [0,1,2]⟩,?_⟩
 refine lS<|ng<|iP<|lG ?_
 refine(zV (Zg (r:=i+1)))<|(zP)<|iq ?_
 replace D:=D.oP (xk:=lD Y N wr) (vT:=fun _=>O) (f':=fun i j=>U j i) 5 rfl (fun k F J=>by
   by_cases e:k<i
   · exact⟨rfl,Zl Oa,fun j _ _=>by rw [Zl Oa]⟩
   {
   have ac:k=i:=Oa
   refine⟨rfl,?_,fun b b0 b1=> ?_⟩
   · rw [Zo Oa];omega
   · rw [Zo Oa] at b1
     rw [Zo Oa,ac];exact ae b b0 Oa})
 have ah:=fun k (F:0<=k) (J:k<N+1)=>D.iw 5 rfl F J
 refine jm ⟨nb+1,N+1,lD Y N wr,i+1,v6,(snoc fb nb (p.D i)),v5,rfl,Oa,Oa,Oa,Oa,?_,?_,?_,rfl,D.pk [0,1,2,3,4,5,6]⟩
 {
 intro k F J;by_cases e:k<nb
 · rw [Zt e];exact af k F Oa
 · rw [Zu e];rw [show k=i by omega]}
 {
 exact W}
 {
 exact Z}}
 refine tC (pO (n:=1) (len:=1) (pv:= [(0,.int Oi (p.D i))]) (cs:= [.int Oi (p.D i)]) (c:=ints (fun _=>p.D i)) Zb Zq D) ?_;rintro v3 w ⟨D,aj⟩
 refine⟨⟨fun _=>D.pk [0,1,2,3],D.pk [0,1,2]⟩,?_⟩
 refine oZ 3 (pO (n:=1) (len:=1) (pv:= [(0,wr)]) (cs:= [wr]) (c:=(fun _=>wr)) Zk ZQ D (hf:=by obtain⟨_,_,_,_,rfl,_⟩:=aa;kernel_rfl)) ?_;rintro v4 w ⟨D,ad⟩
 refine⟨⟨fun _=>D.pk [0,1,2,3],D.pk [0,1,2]⟩,?_⟩
 refine oZ 4 (pz 4 (r:=N+1) Zk ZQ D (D.f_ 9 rfl) (YA _ _ _) (h1:=fun _ _ _=>aa.one)) ?_;rintro v5 w ⟨D,Z⟩
 replace D:=Sat.merge (l1:= [_,_,_,_,_]) (l2:= [_]) (l3:= [_,_]) D Oa
 have xV:=fun k (F:0<=k) (J:k<N+1)=>D.iw 5 rfl F J
 refine⟨⟨fun _=>D.pk [0,1,2,3],D.pk [0,1,2]⟩,?_⟩
 refine(b_ 14 (h_ 1 rM))<|oZ 13 (pz 6 (r:=nb+1) Zb Zq D (D.f_ 7 rfl) (ZR _ _ _)) ?_;rintro v6 w ⟨D,W⟩
 refine⟨⟨fun _=>D.pk [0,1,2,3],D.pk [0,1,2]⟩,?_⟩
 refine nR 15 (xsb 3 Zz D (hv:=Z.one)) ?_;clear D;rintro w D
 refine⟨⟨fun h=>absurd h (by decide),D.pk [0,1,2]⟩,?_⟩
 refine(b_ 16 (h_ 2 sS))<|nR 17 (xsb 3 dV D (hv:=W.one)) ?_;clear D;rintro w D
 refine⟨⟨fun h=>absurd h (by decide),D.pk [0,1,2]⟩,?_⟩
 refine lS<|ng<|iP<|lG ?_
 refine(zV (Zg (r:=i+1)))<|(zP)<|iq ?_
 replace D:=D.oP (xk:=lD Y N wr) (vT:=fun _=>O) (f':=fun i j=>U j i) 5 rfl (fun k F J=>by
   by_cases e:k<i
   · exact⟨rfl,Zl Oa,fun j _ _=>by rw [Zl Oa]⟩
   {
   have ac:k=i:=Oa
   refine⟨rfl,?_,fun b b0 b1=> ?_⟩
   · rw [Zo Oa];omega
   · rw [Zo Oa] at b1
     rw [Zo Oa,ac];exact ae b b0 Oa})
 have ah:=fun k (F:0<=k) (J:k<N+1)=>D.iw 5 rfl F J
 refine jm ⟨nb+1,N+1,lD Y N wr,i+1,v6,(snoc fb nb (p.D i)),v5,rfl,Oa,Oa,Oa,Oa,?_,?_,?_,rfl,D.pk [0,1,2,3,4,5,6]⟩
 {
 intro k F J;by_cases e:k<nb
 · rw [Zt e];exact af k F Oa
 · rw [Zu e];rw [show k=i by omega]}
 {
 exact W}
 {
 exact Z}}
 refine uw<|(zP)<|(zV (iW Zk yx))<|(zP)<|nI ?_
 replace D:=D.fU 1 3 (ints (fun _=>0))
 refine ny (fun mm M w=>∃(nc:Int) (i0:Int) (wc:Value) (fc:Of),mm=((O-i0).toNat)/\(0<=i0)/\(i0<=O)/\(nc=i0)/\(∀k,0<=k->k<i0->fc k=1)/\(iK wc nc)/\M= [(1,Or g1),(2,.bool false),(5,Or g2),(82,.int Oi O),(83,.int Oi i0)]/\Sat w0 w [.blk g1 [vL,vD,.int Oi p.bP,.int Oi p.aV],.own zf 1 22 O yp,.sem (Frame.rows 3 O yp (fun _=>p.m) U),.blk g2 [wc,wC,wb],.own wC 1 22 N Y,.sem (Frame.rows 3 N Y (fun _=>O) (fun i j=>U j i)),.own wb 1 3 nb (ints fb),.own wc 1 3 nc (ints fc)]) ⟨0,0,Oh,(fun _=>0),rfl,Oa,Oa,Oa,?_,?_,rfl,D⟩ ?_
 {
 intro k F J;omega}
 {
 exact d_}
 clear D w
 rintro mm M w ⟨nc,i0,wc,fc,rfl,a5,a4,ay,ai,al,rfl,D⟩
 refine fQ<|(zP)<|nG<|Zf ?_ ?_<;>intro hc
 {
 refine nX<|iP<|lW<|o7<|lG<|(zV (h_ 0 qO))<|(zV (g_ 3 dV D))<|iG (pO (n:=1) (len:=1) (pv:= [(0,.int Oi 1)]) (cs:= [.int Oi 1]) (c:=ints (fun _=>1)) Zb Zq D) ?_;rintro v7 w ⟨D,ao⟩
 refine iG (pz 7 (r:=nc+1) Zb Zq D (D.f_ 8 rfl) (ZR _ _ _)) ?_;rintro v8 w ⟨D,ag⟩
 refine(zV (h_ 0 qO))<|lJ (xsb 3 dV D (hv:=ag.one)) ?_;clear D;rintro w D
 refine nT<|(zV (Zg (r:=i0+1)))<|(zP)<|iq<|jm ⟨nc+1,i0+1,v8,(snoc fc nc 1),rfl,Oa,Oa,Oa,?_,?_,rfl,D.pk [0,1,2,3,4,5,6,7]⟩
 {
 intro k F J;by_cases e:k<nc
 · rw [Zt e];exact ai k F Oa
 · rw [Zu e]}
 {
 exact ag}}
 refine oM<|(zV (lH 3 G7 D))<|iJ (xc0 Zqs) (ZiW (p:=XR p O U) w (Zj9 (⟨(D.f_ 7 rfl),(⟨(D.f_ 4 rfl),fun k F J=>D.lI 5 rfl F J,fun k F J=>D.lV 5 rfl F J⟩:sO _ wC N Y (fun _=>O) (fun i j=>U j i)),(D.f_ 6 rfl)⟩:BQ _ wc wC wb Y (⟨nc,N,nb,fc,(fun _=>O),(fun i j=>U j i),fb⟩:Lp)) Oa Oa Oa (fun k F J=>ai k F Oa) (fun k F J=>af k F Oa))) ?_;rintro _ w ⟨k9,ma,mc,me,pc,a6,rfl,fR,kz,I⟩
 replace D:=(D.comp I).n9;clear I
 refine En ?_
 refine(Oo)<|iT<|(zV (lH 0 rQ D))<|iJ (xc0 Zrb) (ZiC (p:=p) w (h.below D.below)) ?_;rintro _ w ⟨kv,mi,gN,kr,kx,kt,j8,gF,ko,rfl,zK,jq,fJ,fE,eV,I⟩
 replace D:=(D.comp I).n12;clear I
 have kD:=fun j (j0:0<=j) (j1:j<gN)=>D.iw 11 rfl j0 j1
 have gZ:=uf.u zK
 refine C9 ?_
 obtain⟨au,ar⟩:=Zjt ab fZ jA Oa Oa fR zK
 have a2:gF=0\/gF=9:=Classical.byContradiction fun hh=>hh (.inr (zK.lim ab (fun h0=>hh (.inl h0))).1)
 refine iG (oh (cs:= [_,_,_,_,_]) OX D) ?_;rintro _ w ⟨g3,rfl,D⟩
 refine lJ (nD 12 Wm D (hd:=(Za rfl (Za eV.one (Za rfl (Za fJ.one (Za fE.one Zj))))))) ?_;clear D;rintro w D
 refine(zP)<|l9<|(Oo)<|lX 105 ?_ ?_<;>intro hc
 {
 refine(zO)<|(zO)<|(zP)<|ig<|rW<|fQ ?_
 refine(Oo)<|lX 111 ?_ ?_<;>intro hc
 {
 exfalso;omega}
 refine qE ?_
 refine lX 115 ?_ ?_<;>intro hc;rotate_left
 refine qE ?_
 refine lX 119 ?_ ?_<;>intro hc;rotate_left
 iterate 6 refine oq ?_
 refine(On)<|j_<|Oj ?_
 exfalso;first|omega|contradiction
 all_goals
  refine pR ?_
  refine lX 122 ?_ ?_<;>intro hc
  {
  refine pR ?_
  refine j_<|Oj ?_
  exact⟨rfl,D.nl⟩}
  refine pR ?_
  refine j_<|Oj ?_
  exact⟨(Yk Oa).symm,D.nl⟩}
 refine(Oo)<|ig<|Zf ?_ ?_<;>intro hc
 {
 refine fQ<|(zP)<|(zV (F8 Y1))<|(zP)<|(zO)<|oq ?_
 refine(On)<|(zO)<|oq ?_
 refine uK ?_
 refine lX 122 ?_ ?_<;>intro hc
 {
 exfalso;omega}
 refine uK ?_
 refine j_<|Oj ?_
 exact⟨(Yk Oa).symm,D.nl⟩}
 refine ZX<|(zP)<|(zV (h_ 0 Zkq))<|(zV (g_ 12 dw D))<|(On)<|jk<|Oj ?_
 exact⟨(Yk Oa).symm,D.nl⟩
 all_goals
  refine pR ?_
  refine ig<|rW<|fQ ?_
  refine pR ?_
  refine j_<|Oj ?_
  exact⟨rfl,D.nl⟩
end Go.Proofs.YtpnamgfdakfccaaGreat
namespace Go.Proofs.Gw
open Go Go.RowKit Go.ChangeShapes Go.WideShapes Go.ChangeAt
section
variable {H:Type} {enc:TypeId×Value->H} {P:Program} {w:World} {held:Bool}
def Small{H:Type}(P:Program)(t:TypeId)(d:DataW H):Prop:=(d.weights P t).all (· <=reachBytes)=true
theorem T6{ts:List TypeId}{ds:List (DataW H)}(h:(DataW.weightsEach P ts ds).all (· <=reachBytes)=true){j:Nat}{t:TypeId}{d:DataW H}(D:ts[j]? =some t)(hd:ds[j]? =some d):Small P t d:=
 List.all_eq_true.2 fun n hn=>List.all_eq_true.1 h n (DataW.weights_mem_each D hd n hn)
theorem ZaD{t:TypeId}{D:Array Field}{parts:List (DataW H)}(h:Small P t (.agg parts))(F:P.underlying t=some (.struct D)){j:Nat}{u:TypeId}{d:DataW H}(I:(D.toList.map (·.type))[j]? =some u)(hd:parts[j]? =some d):Small P u d:=by
 unfold Small at h
 simp only [DataW.weights,F] at h
 exact T6 h I hd
theorem Kl{e:TypeId}:∀{ds:List (DataW H)},(DataW.weightsAll P e ds).all (· <=reachBytes)=true->∀d∈ds,Small P e d
 | [],_,d,hd=>by cases hd
 | x::r,h,d,hd=>by
   simp only [DataW.weightsAll,List.all_append,Bool.and_eq_true] at h
   rcases List.mem_cons.1 hd with rfl|hd
   · exact h.1
   · exact Kl h.2 d hd
theorem Zb2{t e:TypeId}{elems D:List (DataW H)}(h:Small P t (.slice elems D))(F:P.underlying t=some (.slice e)):(elems.length+D.length)*P.bytesOf e<=reachBytes/\∀d∈elems,Small P e d:=by
 unfold Small at h
 simp only [DataW.weights,F,List.all_cons,List.all_append,Bool.and_eq_true,decide_eq_true_eq] at h
 exact⟨h.1,Kl h.2.1⟩
theorem Lj{n:Int}(h:(Lit.int .i64 n).wf=true): -9223372036854775808<=n/\n<=9223372036854775807:=by
 simp only [Lit.wf,Bool.and_eq_true,decide_eq_true_eq] at h
 have h1:IntKind.i64.min= -9223372036854775808:=by decide
 have D:IntKind.i64.max=9223372036854775807:=by decide
 omega
theorem Zfk{a:Addr}{v:Value}(h:w.cell? a=some v):a.spot=none:=World.cell?_spot h
end
end Go.Proofs.Gw
namespace Go.Proofs.Gw
open Go Go.RowKit Go.ChangeShapes Go.WideShapes Go.ChangeAt
section
variable {H:Type} {enc:TypeId×Value->H} {P:Program} {w:World} {held:Bool}
def Rd{H:Type}(enc:TypeId×Value->H)(P:Program)(w:World)(held:Bool)(t:TypeId)(cs:List Value):Prop:=∃fuel y,DataW.trod enc P w 0 (fun _=>true) held fuel t cs=some y/\Small P t y.1
theorem Rd.int{k:IntKind}{t:TypeId}{cs:List Value}(h:Rd enc P w held t cs)(D:P.underlying t=some (.int k)):∃n,cs= [.int k n]/\(Lit.int k n).wf=true:=by
 obtain⟨fuel,y,h,_⟩:=h
 obtain⟨n,h1,_,F⟩:=DataW.trod_int D h
 exact⟨n,h1,F⟩
theorem Rd.ED{k:IntKind}{t:TypeId}{v:Value}(h:Rd enc P w held t [v])(D:P.underlying t=some (.int k)):∃n,v= .int k n/\(Lit.int k n).wf=true:=by
 obtain⟨n,h1,F⟩:=h.int D
 exact⟨n,by simpa using h1,F⟩
theorem Rd.struct{I:Array Field}{t:TypeId}{cs:List Value}(h:Rd enc P w held t cs)(D:P.underlying t=some (.struct I)):∀(j:Nat) (f:Field),I[j]? =some f->Rd enc P w held f.type ((cs.drop f.offset).take (P.cellsOf f.type)):=fun j f hf=>by
 obtain⟨fuel,y,h,U⟩:=h
 obtain⟨J,n,_,rfl,W,N,O⟩:=DataW.trod_struct D h
 have F:j<J.length:=by rw [N];exact(Array.getElem?_eq_some_iff.1 hf).1
 have h1:=O j f hf
 rw [List.getElem?_eq_getElem F] at h1
 exact⟨n,_,h1,ZaD (j:=j) U D (by simp [hf]) (by simp [F])⟩
theorem Rd.len{I:Array Field}{t:TypeId}{cs:List Value}(h:Rd enc P w held t cs)(D:P.underlying t=some (.struct I)):cs.length=P.cellsOf t:=by
 obtain⟨fuel,y,h,U⟩:=h
 obtain⟨J,n,_,rfl,F,N,O⟩:=DataW.trod_struct D h
 exact F
theorem Rd.slice{t e:TypeId}{s b:Nat}{v:Value}(h:Rd enc P w held t [v])(ht:P.underlying t=some (.slice e))(ce:P.cellsOf e=s)(be:P.bytesOf e=b)(ad:1<=s)(ac:s<=b):
   ∃(n:Int) (c:Ov),Row w v s n c/\b*n<=140737488351232/\∀i:Int,0<=i->i<n->Rd enc P w held e ((List.range s).map fun j:Nat=>c (i*s+j)):=by
 obtain⟨fuel,y,h,hs⟩:=h
 rcases Go.Deep.open_slice ht h with⟨hcs,_⟩|⟨a,len,cap,m,n,D,Pl,hcs,_,hl,hm,hmm,hy,hx⟩
 {
 simp only [List.cons.injEq,and_true] at hcs
 subst hcs
 exact⟨0,fun _=>undef,⟨⟨by omega,Oa,none,0,rfl,.inl rfl⟩,fun k W=>by rw [Int.zero_mul] at W;omega⟩,Oa,fun i a0 a1=>Oa⟩}
 {
 simp only [List.cons.injEq,and_true] at hcs
 subst hcs
 simp only [if_true] at hmm
 subst hmm
 rw [hy] at hs
 have U:=Zb2 hs ht
 have N:=U.1
 rw [be] at N
 simp only [List.length_map,List.length_range] at N
 have h2:len*b<=(len+(m-len))*b:=Nat.mul_le_mul_right _ Oa
 have h3:len*b<=140737488351232:=by unfold reachBytes at N;omega
 have h4:len*1<=len*b:=Nat.mul_le_mul_left _ Oa
 rw [ce] at hx
 have e0:∀i:Nat,∃J:List Value,i<len->w.cells? 0 (a.add (i*s)) s=some J/\DataW.trod enc P w 0 (fun _=>true) held n e J=some (D i,Pl i):=fun i=>by
   by_cases hi:i<len
   · obtain⟨J,h5,h6⟩:=hx i Oa
     exact⟨J,fun _=>⟨h5,h6⟩⟩
   · exact⟨[],fun h=>absurd h hi⟩
 obtain⟨C,hC⟩:=Classical.axiomOfChoice e0
 have fg:0<len->a.spot=none:=fun h0=>by
   obtain⟨_,h7,Y⟩:=World.cells?_some (hC 0 h0).1
   have O:=Y 0 Oa
   rw [List.getElem?_eq_getElem Oa] at O
   have ab:=Zfk O
   simpa [Addr.add] using ab
 refine⟨len,fun k=>(C (k/s).toNat).getD (k%s).toNat undef,⟨⟨by omega,Oa,some a,m,by simp,?_⟩,fun j hj=> ?_⟩,?_,fun i i0 i1=> ?_⟩
 {
 by_cases hl0:len=0
 · left;omega
 · right
   have F:=fg Oa
   exact⟨a.block,a.off,by cases a;simp at F;simp [F]⟩}
 {
 have I:j<len*s:=by rw [<-Int.natCast_mul] at hj;omega
 have hi:j/s<len:=(Nat.div_lt_iff_lt_mul Oa).2 I
 have fG:0<len:=Nat.lt_of_le_of_lt (Nat.zero_le _) hi
 have F:=fg fG
 obtain⟨_,h7,Y⟩:=World.cells?_some (hC (j/s) hi).1
 have hr:j%s<s:=Nat.mod_lt _ Oa
 have O:=Y (j%s) hr
 rw [Addr.add_eq a F,Addr.add_eq _ rfl] at O
 have e1:((j:Int)/(s:Int)).toNat=j/s:=by rw [<-Int.natCast_ediv,Int.toNat_natCast]
 have e2:((j:Int)%(s:Int)).toNat=j%s:=by rw [<-Int.natCast_emod,Int.toNat_natCast]
 have e3:a.off+j/s*s+j%s=a.off+j:=by rw [Nat.add_assoc,Nat.mul_comm,Nat.div_add_mod]
 rw [List.getElem?_eq_getElem Oa] at O
 simp only [e1,e2,List.getD_eq_getElem?_getD]
 rw [List.getElem?_eq_getElem Oa]
 simp only [pW,Int.toNat_natCast,Option.getD_some]
 simp only [e3] at O
 exact O}
 · have:((len*b:Nat):Int)=b*len:=by rw [Int.natCast_mul,Int.mul_comm]
   omega
 {
 obtain⟨k,rfl⟩:=Int.eq_ofNat_of_zero_le i0
 have W:k<len:=Oa
 obtain⟨h5,h6⟩:=hC k W
 obtain⟨_,h7,Y⟩:=World.cells?_some h5
 have e:((List.range s).map fun j:Nat=>(C (((k:Int)*(s:Int)+(j:Int))/(s:Int)).toNat).getD (((k:Int)*(s:Int)+(j:Int))%(s:Int)).toNat undef)=C k:=by
   apply List.ext_getElem
   · simp [h7]
   {
   intro j aa Z
   rw [List.getElem_map,List.getElem_range]
   have I:j<s:=by simpa using aa
   have e0:((k:Int)*(s:Int)+(j:Int))=((k*s+j:Nat):Int):=by rw [Int.natCast_add,Int.natCast_mul]
   have e1:(((k*s+j:Nat):Int)/(s:Int)).toNat=k:=by
     rw [<-Int.natCast_ediv,Int.toNat_natCast,Nat.mul_comm,Nat.mul_add_div Oa,Nat.div_eq_of_lt I,Nat.add_zero]
   have e2:(((k*s+j:Nat):Int)%(s:Int)).toNat=j:=by
     rw [<-Int.natCast_emod,Int.toNat_natCast,Nat.mul_comm,Nat.mul_add_mod,Nat.mod_eq_of_lt I]
   rw [e0,e1,e2,List.getD_eq_getElem?_getD,List.getElem?_eq_getElem Z,Option.getD_some]}
 rw [e]
 exact⟨n,_,h6,U.2 (D k) (List.mem_map.2 ⟨k,List.mem_range.2 W,rfl⟩)⟩}}
theorem Rd.field{D:Array Field}{t u:TypeId}{cs ds:List Value}(h:Rd enc P w held t cs)(I:P.underlying t=some (.struct D))(j:Nat){f:Field}(hf:D[j]? =some f){k:Nat}(F:f.type=u)(J:P.cellsOf u=k)(hd:(cs.drop f.offset).take k=ds):Rd enc P w held u ds:=by
 subst F;subst hd;rw [<-J];exact h.struct I j f hf
theorem Zdp{cs:Array Value}{l:List Value}(h:cs.toList=l):cs=l.toArray:=by subst h;simp
theorem Rd.arg{t:TypeId}{v:Value}{d:DataW H}{p:List MemPlace}(h:DataW.Trod enc P w 0 (fun _=>true) held t v d p)(D:Small P t d):Rd enc P w held t v.cells.toList:=by
 obtain⟨fuel,hf⟩:=h
 exact⟨fuel,_,hf,D⟩
theorem ZpF{cs:List Value}(h:cs.length=4):∃a b c d,cs= [a,b,c,d]:=by match cs,h with| [a,b,c,d],_=>exact⟨_,_,_,_,rfl⟩
theorem Rd.nums{k:IntKind}{t e:TypeId}{b:Nat}{v:Value}(h:Rd enc P w held t [v])(O:P.underlying t=some (.slice e))(U:P.underlying e=some (.int k))(hc:P.cellsOf e=1)(W:P.bytesOf e=b)(D:1<=b):
   ∃(n:Int) (f:Of),Row w v 1 n (fun j=> .int k (f j))/\b*n<=140737488351232/\∀j,(Lit.int k (f j)).wf=true:=by
 obtain⟨n,c,h1,Z,Y⟩:=h.slice O hc W Oa D
 have h0:(Lit.int k 0).wf=true:=by cases k<;>decide
 have e0:∀i:Int,∃x:Int,(Lit.int k x).wf=true/\(0<=i->i<n->c i= .int k x):=fun i=>by
   by_cases hi:0<=i/\i<n
   {
   have F:=Y i hi.1 hi.2
   simp only [List.range_one,List.map_cons,List.map_nil] at F
   obtain⟨x,J,N⟩:=F.ED U
   refine⟨x,N,fun _ _=> ?_⟩
   rw [<-J];congr 1;omega}
   · exact⟨0,h0,fun a0 a1=>absurd ⟨a0,a1⟩ hi⟩
 obtain⟨f,hf⟩:=Classical.axiomOfChoice e0
 exact⟨n,f,h1.congr fun i I i1=>(hf i).2 I Oa,Z,fun j=>(hf j).1⟩
theorem Rd.ints{t e:TypeId}{v:Value}(h:Rd enc P w held t [v])(D:P.underlying t=some (.slice e))(F:P.underlying e=some (.int .i64))(hc:P.cellsOf e=1)(I:P.bytesOf e=8):∃(n:Int) (f:Of),FY w v n f:=by
 obtain⟨n,f,h1,_,J⟩:=h.nums D F hc I Oa
 exact⟨n,f,h1,fun k=>Lj (J k)⟩
end
end Go.Proofs.Gw
