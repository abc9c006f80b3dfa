import Derived.Test.YtkichmnjjblodaaGreatPfC
import Derived.OrdersIn
set_option linter.unusedVariables false
set_option linter.unusedSimpArgs false
set_option maxRecDepth 20000
set_option maxHeartbeats 4000000
namespace Go.Proofs.Gw
variable {m:Int} {cnt f g ln:Int->Int} {pt:Int->Int->Int} {a b:List Int}
def lst(n:Int)(f:Int->Int):List Int:=(List.range n.toNat).map fun(k:Nat)=>f (k:Int)
theorem YY(n:Int)(f:Int->Int):(lst n f).length=n.toNat:=by simp [lst]
theorem lst_get(n:Int)(f:Int->Int)(k:Nat):(lst n f)[k]? =if(k:Int)<n then some (f k) else none:=by
  unfold lst
  by_cases h:(k:Int)<n
  · rw [if_pos h,List.getElem?_map,List.getElem?_range (by omega)];rfl
  · rw [if_neg h];simp;omega
theorem Uj{n:Int}(n0:0<=n)(m0:0<=m):lst n f=lst m g↔n=m/\∀k,0<=k->k<n->f k=g k:=by
  constructor
  · intro h
    have hl:=congrArg List.length h
    rw [YY,YY] at hl
    refine⟨by omega,fun k k0 k1=> ?_⟩
    have h1:=congrArg (fun l=>l[k.toNat]?) h
    simp only [lst_get] at h1
    rw [Int.toNat_of_nonneg k0,if_pos k1,if_pos (by omega)] at h1
    injection h1
  · rintro⟨rfl,h⟩
    apply List.ext_getElem?
    intro k
    rw [lst_get,lst_get]
    by_cases hk:(k:Int)<n
    · rw [if_pos hk,if_pos hk,h k (by omega) hk]
    · rw [if_neg hk,if_neg hk]
theorem Yj{n:Int}(h:∀k,0<=k->k<n->f k=g k):lst n f=lst n g:=by
  apply List.ext_getElem?
  intro k
  rw [lst_get,lst_get]
  by_cases hk:(k:Int)<n
  · rw [if_pos hk,if_pos hk,h k (by omega) hk]
  · rw [if_neg hk,if_neg hk]
def olt:Option Int->Option Int->Prop
  |none,some _=>True
  |some x,some y=>x<y
  |_,_=>False
theorem Ko:∀a,¬olt a a
  |none=>id
  |some x=>by simp [olt]
theorem Rm:∀{a b c},olt a b->olt b c->olt a c
  |none,some _,some _,_,_=>trivial
  |some x,some y,some z,h,k=>by simp only [olt] at*;omega
theorem Zg3:∀{a b:Option Int},a≠b->olt a b\/olt b a
  |none,none,h=>absurd rfl h
  |none,some _,_=> .inl trivial
  |some _,none,_=> .inr trivial
  |some x,some y,h=>by simp only [olt];have:x≠y:=fun e=>h (by rw [e]);omega
def ahd(a b:List Int):Prop:=∃j:Nat,(∀k<j,a[k]? =b[k]?)/\olt b[j]? a[j]?
theorem V6(h:ahd a b):¬ahd b a:=by
  rintro⟨j,h1,h2⟩
  obtain⟨i,g1,g2⟩:=h
  rcases Nat.lt_trichotomy i j with h|h|h
  · rw [h1 i h] at g2;exact Ko _ g2
  · subst h;exact Ko _ (Rm g2 h2)
  · rw [g1 j h] at h2;exact Ko _ h2
theorem RO{c:List Int}(h:ahd a b)(k:ahd b c):ahd a c:=by
  obtain⟨i,g1,g2⟩:=h
  obtain⟨j,h1,h2⟩:=k
  rcases Nat.lt_trichotomy i j with h|h|h
  · exact⟨i,fun k hk=>(g1 k hk).trans (h1 k (by omega)),by rw [<-h1 i h];exact g2⟩
  · subst h;exact⟨i,fun k hk=>(g1 k hk).trans (h1 k hk),Rm h2 g2⟩
  · exact⟨j,fun k hk=>(g1 k (by omega)).trans (h1 k hk),by rw [g1 j h];exact h2⟩
theorem Zc7(h:a≠b):ahd a b\/ahd b a:=by
  have hex:∃k:Nat,a[k]? ≠b[k]? :=Classical.byContradiction fun hn=>h (List.ext_getElem? fun k=>Classical.byContradiction fun hk=>hn ⟨k,hk⟩)
  have fE:∃k:Nat,a[k]? ≠b[k]? /\∀j<k,a[j]? =b[j]? :=by
    obtain⟨k,hk⟩:=hex
    induction k using Nat.strongRecOn with
    | ind k ih=>
      by_cases hb:∃j,j<k/\a[j]? ≠b[j]?
      · obtain⟨j,hj,hne⟩:=hb;exact ih j hj hne
      · exact⟨k,hk,fun j hj=>Classical.byContradiction fun hne=>hb ⟨j,hj,hne⟩⟩
  obtain⟨k,hk,hlt⟩:=fE
  rcases Zg3 hk with h1|h1
  · exact .inr ⟨k,fun j hj=>(hlt j hj).symm,h1⟩
  · exact .inl ⟨k,hlt,h1⟩
theorem Zip(a:List Int):¬ahd a a:=fun h=>V6 h h
theorem Zgt{n:Int}{j:Int}(j0:0<=j)(jn:j<n)(jm:j<m)(he:∀k,0<=k->k<j->f k=g k)(h:g j<f j):ahd (lst n f) (lst m g):=by
  refine⟨j.toNat,fun k hk=> ?_,?_⟩
  · rw [lst_get,lst_get,if_pos (by omega),if_pos (by omega),he k (by omega) (by omega)]
  · rw [lst_get,lst_get,Int.toNat_of_nonneg j0,if_pos jn,if_pos jm];exact h
theorem Zbh{n:Int}(m0:0<=m)(h:m<n)(he:∀k,0<=k->k<m->f k=g k):ahd (lst n f) (lst m g):=by
  refine⟨m.toNat,fun k hk=> ?_,?_⟩
  · rw [lst_get,lst_get,if_pos (by omega),if_pos (by omega),he k (by omega) (by omega)]
  · rw [lst_get,lst_get,Int.toNat_of_nonneg m0,if_neg (by omega),if_pos h];trivial
theorem Zgs{n:Int}(he:∀k,0<=k->k<n->f k=g k):¬ahd (lst n f) (lst n g):=by
  rw [Yj he];exact Zip _
abbrev Us:=List (List Int×Int)
def plL(n:Int)(ln:Int->Int)(pt:Int->Int->Int)(cnt:Int->Int):Us:=(List.range n.toNat).map fun(i:Nat)=>(lst (ln (i:Int)) (pt (i:Int)),cnt (i:Int))
theorem plL_len(n:Int)(ln:Int->Int)(pt:Int->Int->Int)(cnt:Int->Int):(plL n ln pt cnt).length=n.toNat:=by simp [plL]
theorem plL_get(n:Int)(ln:Int->Int)(pt:Int->Int->Int)(cnt:Int->Int)(k:Nat):(plL n ln pt cnt)[k]? =if(k:Int)<n then some (lst (ln k) (pt k),cnt k) else none:=by
  unfold plL
  by_cases h:(k:Int)<n
  · rw [if_pos h,List.getElem?_map,List.getElem?_range (by omega)];rfl
  · rw [if_neg h];simp;omega
theorem Ri{n:Int}{ln':Int->Int}{pt':Int->Int->Int}{cnt':Int->Int}(h:∀k,0<=k->k<n->ln k=ln' k/\cnt k=cnt' k/\∀j,0<=j->j<ln k->pt k j=pt' k j):plL n ln pt cnt=plL n ln' pt' cnt':=by
  apply List.ext_getElem?
  intro k
  rw [plL_get,plL_get]
  by_cases hk:(k:Int)<n
  · obtain⟨h1,h2,h3⟩:=h k (by omega) hk
    rw [if_pos hk,if_pos hk,h2,<-h1,Yj h3]
  · rw [if_neg hk,if_neg hk]
theorem X9{i:Int}(i0:0<=i):plL (i+1) ln pt cnt=plL i ln pt cnt++ [(lst (ln i) (pt i),cnt i)]:=by
  unfold plL
  rw [show(i+1).toNat=i.toNat+1 by omega,List.range_succ,List.map_append,List.map_singleton,Int.toNat_of_nonneg i0]
theorem Th{n:Int}{ln':Int->Int}{pt':Int->Int->Int}{cnt':Int->Int}(n0:0<=n)(h:∀k,0<=k->k<n->ln' k=ln k/\cnt' k=cnt k/\pt' k=pt k){l c:Int}{p:Int->Int}(h1:ln' n=l)(h2:cnt' n=c)(h3:pt' n=p):plL (n+1) ln' pt' cnt'=plL n ln pt cnt++ [(lst l p,c)]:=by
  rw [X9 n0,h1,h2,h3]
  congr 1
  exact Ri fun k k0 k1=>⟨(h k k0 k1).1,(h k k0 k1).2.1,fun j _ _=>by rw [(h k k0 k1).2.2]⟩
def Xv:Us->List Int×Int->Us
  | [],u=> [u]
  |v::r,u=>if v.1=u.1 then(v.1,v.2+u.2)::r else v::Xv r u
def VA(l:Us):Us:=l.foldl Xv []
theorem Zbj:∀{a:Us} {u:List Int×Int},(∀v∈a,v.1≠u.1)->Xv a u=a++ [u]
  | [],_,_=>rfl
  | v::r,u,h=>by
    rw [Xv,if_neg (h v (by simp)),Zbj fun w hw=>h w (by simp [hw])];rfl
theorem Zc8:∀{a:Us} {u:List Int×Int} {j:Nat} {v:List Int×Int},a[j]? =some v->v.1=u.1->(∀k<j,∀w,a[k]? =some w->w.1≠u.1)->Xv a u=a.set j (v.1,v.2+u.2)
  | [],_,_,_,h,_,_=>by simp at h
  | w::r,u,0,v,h,e,_=>by
    simp at h;subst h
    rw [Xv,if_pos e];rfl
  | w::r,u,j+1,v,h,e,hk=>by
    simp at h
    rw [Xv,if_neg (hk 0 (by omega) w (by simp)),Zc8 h e fun k hk' x hx=>hk (k+1) (by omega) x (by simpa using hx)];rfl
theorem Uv:∀{a:Us} {u:List Int×Int},∀x∈Xv a u,x.1=u.1\/∃y∈a,y.1=x.1
  | [],u,x,h=>by simp [Xv] at h;exact .inl (by rw [h])
  | v ::r,u,x,h=>by
    rw [Xv] at h
    split at h
    · rcases List.mem_cons.1 h with h|h
      · right;exact⟨v,by simp,by rw [h]⟩
      · right;exact⟨x,by simp [h],rfl⟩
    · rcases List.mem_cons.1 h with h|h
      · right;exact⟨v,by simp,by rw [h]⟩
      · rcases Uv x h with h|⟨y,hy,e⟩
        · exact .inl h
        · exact .inr ⟨y,by simp [hy],e⟩
theorem RP:∀{a:Us} {u:List Int×Int},a.Pairwise (fun x y=>x.1≠y.1)->(Xv a u).Pairwise (fun x y=>x.1≠y.1)
  | [],u,_=>by simp [Xv]
  | v ::r,u,h=>by
    have h1:=List.pairwise_cons.1 h
    rw [Xv]
    split
    · exact List.pairwise_cons.2 ⟨h1.1,h1.2⟩
    · rename_i hne
      refine List.pairwise_cons.2 ⟨fun x hx=> ?_,RP h1.2⟩
      rcases Uv x hx with e|⟨y,hy,e⟩
      · rw [e];exact hne
      · rw [<-e];exact h1.1 y hy
theorem Tu:∀(l a:Us),a.Pairwise (fun x y=>x.1≠y.1)->(l.foldl Xv a).Pairwise (fun x y=>x.1≠y.1)
  | [],_,h=>h
  |u::l,a,h=>Tu l _ (RP h)
theorem Zdi(l:Us):(VA l).Pairwise (fun x y=>x.1≠y.1):=Tu l [] .nil
theorem T6(l:Us)(u:List Int×Int):VA (l++ [u])=Xv (VA l) u:=by simp [VA]
theorem Zbi:∀{a:Us} {u:List Int×Int},(∀x∈a,1<=x.2)->1<=u.2->∀x∈Xv a u,1<=x.2
  | [],u,_,hu,x,h=>by simp [Xv] at h;rw [h];exact hu
  | v ::r,u,ha,hu,x,h=>by
    have hv:=ha v (by simp)
    rw [Xv] at h
    split at h
    · rcases List.mem_cons.1 h with h|h
      · rw [h];dsimp only;omega
      · exact ha x (by simp [h])
    · rcases List.mem_cons.1 h with h|h
      · rw [h];exact hv
      · exact Zbi (fun y hy=>ha y (by simp [hy])) hu x h
theorem Rz:∀(l a:Us),(∀x∈a,1<=x.2)->(∀x∈l,1<=x.2)->∀x∈l.foldl Xv a,1<=x.2
  | [],_,h,_=>h
  |u::l,a,h,hl=>Rz l _ (Zbi h (hl u (by simp))) fun x hx=>hl x (by simp [hx])
theorem Zeb{l:Us}(h:∀x∈l,1<=x.2):∀x∈VA l,1<=x.2:=Rz l [] (by simp) h
def wsum(f:List Int->Int):Us->Int
  | []=>0
  |u::l=>f u.1*u.2+wsum f l
theorem WF(f:List Int->Int):∀a b:Us,wsum f (a++b)=wsum f a+wsum f b
  | [],b=>by simp [wsum]
  |u::a,b=>by simp only [List.cons_append,wsum,WF f a b];omega
theorem TV(f:List Int->Int):∀(a:Us) (u:List Int×Int),wsum f (Xv a u)=wsum f a+f u.1*u.2
  | [],u=>by simp [Xv,wsum]
  | v ::r,u=>by
    rw [Xv]
    split
    · rename_i e
      simp only [wsum,e,Int.mul_add];omega
    · simp only [wsum,TV f r u];omega
theorem U1(f:List Int->Int):∀(l a:Us),wsum f (l.foldl Xv a)=wsum f a+wsum f l
  | [],a=>by simp [wsum]
  |u::l,a=>by rw [List.foldl_cons,U1 f l,TV,wsum];omega
theorem Zde(f:List Int->Int)(l:Us):wsum f (VA l)=wsum f l:=by rw [VA,U1];simp [wsum]
theorem Zdf(f:List Int->Int){a b:Us}(h:a.Perm b):wsum f a=wsum f b:=by
  induction h with
  |nil=>rfl
  |cons x _ ih=>simp only [wsum,ih]
  |swap x y l=>simp only [wsum];omega
  |trans _ _ i1 i2=>rw [i1,i2]
def NormR(l out:Us):Prop:=out.Perm (VA l)/\out.Pairwise (fun u v=>ahd u.1 v.1)
theorem NormR.wsum{l a:Us}(h:NormR l a)(f:List Int->Int):wsum f a=wsum f l:=(Zdf f h.1).trans (Zde f l)
theorem NormR.pos{l a:Us}(h:NormR l a)(hp:∀x∈l,1<=x.2):∀x∈a,1<=x.2:=fun x hx=>Zeb hp x (h.1.mem_iff.1 hx)
theorem T7:∀(l a:Us),∀x∈l.foldl Xv a,(∃y∈a,y.1=x.1)\/∃y∈l,y.1=x.1
  | [],a,x,h=> .inl ⟨x,h,rfl⟩
  | u ::l,a,x,h=>by
    rcases T7 l _ x h with⟨y,hy,e⟩|⟨y,hy,e⟩
    · rcases Uv y hy with e2|⟨z,hz,e2⟩
      · exact .inr ⟨u,by simp,by rw [<-e2,e]⟩
      · exact .inl ⟨z,hz,by rw [e2,e]⟩
    · exact .inr ⟨y,by simp [hy],e⟩
theorem NormR.keys{l a:Us}(h:NormR l a):∀x∈a,∃y∈l,y.1=x.1:=fun x hx=>by
  rcases T7 l [] x (h.1.mem_iff.1 hx) with⟨y,hy,_⟩|h
  · simp at hy
  · exact h
theorem ZbG {α:Type} {n:Int} {t:Int->Int} (n0:0<=n) (h:PermOn 0 n (fun k=>k) t) (G:Int->α):((List.range n.toNat).map fun(i:Nat)=>G (t (i:Int))).Perm ((List.range n.toNat).map fun(i:Nat)=>G (i:Int)):=by
  have h1:((List.range n.toNat).map fun(i:Nat)=>t (i:Int)).Perm ((List.range n.toNat).map fun(i:Nat)=>(i:Int)):=by
    obtain⟨p,q,e1,e2,e3⟩:=h
    refine(List.perm_ext_iff_of_nodup ?_ ?_).2 fun x=> ?_
    · refine List.pairwise_map.2 (List.Pairwise.imp (R:=fun a b=>a≠b) (fun {a b} hab hh=> ?_) List.nodup_range)
      rw [e3,e3] at hh
      have:=congrArg q hh
      simp only [(e1 _).2] at this
      omega
    · exact List.pairwise_map.2 (List.Pairwise.imp (R:=fun a b=>a≠b) (fun {a b} hab hh=>by omega) List.nodup_range)
    · simp only [List.mem_map,List.mem_range]
      constructor
      · rintro⟨a,ha,rfl⟩
        obtain⟨j,j0,j1,j2⟩:=PermOn.fr (a:=fun k=>k) (b:=t) ⟨p,q,e1,e2,e3⟩ (show(0:Int)<=(a:Int) by omega) (show(a:Int)<n by omega)
        exact⟨j.toNat,by omega,by rw [j2];omega⟩
      · rintro⟨a,ha,rfl⟩
        obtain⟨j,j0,j1,j2⟩:=PermOn.fr (PermOn.symm (a:=fun k=>k) (b:=t) ⟨p,q,e1,e2,e3⟩) (show(0:Int)<=(a:Int) by omega) (show(a:Int)<n by omega)
        exact⟨j.toNat,by omega,by rw [Int.toNat_of_nonneg j0,<-j2]⟩
  have h2:=h1.map G
  simpa [List.map_map,Function.comp_def] using h2
theorem ZgK(f:Int->List Int):Swo (fun x y=>ahd (f x) (f y)):=
  ⟨fun x y h=>V6 h,fun x y z h k=>RO h k,fun x y z h k hh=>by
    by_cases e:f x=f y
    · rw [e] at hh;exact k hh
    · rcases Zc7 e with h1|h1
      · exact h h1
      · exact k (RO h1 hh)⟩
theorem NormR.of_names {l:Us} {n:Int} {t:Int->Int} (n0:0<=n) (hs:plL n ln pt cnt=VA l) (hp:PermOn 0 n (fun k=>k) t) (ho:Srt (Tie (fun x y=>ahd (lst (ln x) (pt x)) (lst (ln y) (pt y)))) 0 n t):
    NormR l (plL n (fun k=>ln (t k)) (fun k=>pt (t k)) (fun k=>cnt (t k))):=by
  refine⟨?_,?_⟩
  · rw [<-hs]
    exact ZbG n0 hp fun x=>(lst (ln x) (pt x),cnt x)
  · rw [List.pairwise_iff_getElem]
    intro i j hi hj hij
    rw [plL_len] at hi hj
    have g:∀(k:Nat) (hk:k<(plL n (fun k=>ln (t k)) (fun k=>pt (t k)) (fun k=>cnt (t k))).length),(plL n (fun k=>ln (t k)) (fun k=>pt (t k)) (fun k=>cnt (t k)))[k]=(lst (ln (t k)) (pt (t k)),cnt (t k)):=fun k hk=>by
      have h1:=plL_get n (fun k=>ln (t k)) (fun k=>pt (t k)) (fun k=>cnt (t k)) k
      rw [plL_len] at hk
      rw [if_pos (by omega),List.getElem?_eq_getElem (by rw [plL_len];exact hk)] at h1
      injection h1
    rw [g,g]
    have h1:=ho i j (by omega) (by omega) (by omega)
    rcases h1 with h1|⟨h1,h2⟩
    · exact h1
    · obtain⟨a,a0,a1,a2⟩:=hp.fr (show(0:Int)<=(i:Int) by omega) (show(i:Int)<n by omega)
      obtain⟨b,b0,b1,b2⟩:=hp.fr (show(0:Int)<=(j:Int) by omega) (show(j:Int)<n by omega)
      have hd:=Zdi l
      rw [<-hs,List.pairwise_iff_getElem] at hd
      have gg:∀(k:Int) (k0:0<=k) (hk:k<n),∃h:k.toNat<(plL n ln pt cnt).length,(plL n ln pt cnt)[k.toNat]=(lst (ln k) (pt k),cnt k):=fun k k0 hk=>by
        have h1:=plL_get n ln pt cnt k.toNat
        have h3:k.toNat<(plL n ln pt cnt).length:=by rw [plL_len];omega
        rw [Int.toNat_of_nonneg k0,if_pos hk,List.getElem?_eq_getElem h3] at h1
        exact⟨h3,by injection h1⟩
      have hab:a≠b:=fun e=>by rw [<-a2,<-b2] at*;omega
      obtain⟨ha,ea⟩:=gg a a0 a1
      obtain⟨hb,eb⟩:=gg b b0 b1
      have hne:lst (ln a) (pt a)≠lst (ln b) (pt b):=by
        rcases Int.lt_or_gt_of_ne hab with h3|h3
        · have:=hd a.toNat b.toNat ha hb (by omega);rw [ea,eb] at this;exact this
        · have:=hd b.toNat a.toNat hb ha (by omega);rw [ea,eb] at this;exact fun e=>this e.symm
      rcases Zc7 hne with h3|h3
      · dsimp only at a2 b2⊢;rw [a2,b2];exact h3
      · exact absurd (by dsimp only at a2 b2⊢;rw [a2,b2];exact h3) h1
end Go.Proofs.Gw
namespace Go.Proofs.Gw
open Go Go.RowKit
section
variable {P:Program} {L:List (Nat×Value)} {w w0:World} {o:Oper} {x y:Operand} {T T':TypeId} {l:List Ent}
theorem UA{m r:Int}(ho:o.op= .binOp .shr T x y T':=by exact rfl)(hx:evL L x=some (.int .u64 m):=by exact rfl)(hy:evL L y=some (.int .u64 1):=by exact rfl)(e:r=m/2:=by exact rfl):Runs P L w o (.value (.int .u64 r)) w:=fun ρ h=>by
  subst e
  simp [execOp,ho,h _ _ hx,h _ _ hy,go_sem]
theorem ZfE(v:Value)(k:Int)(h0:0<=k):(cad v k).add 1=cad v (k+1)\/∀a len cap,v≠ .slice (some a) len cap:=by
  cases v with
  | slice a len cap=>cases a with
    |none=>right;intro a len cap h;cases h
    | some a=>
      left
      have:(k+1).toNat=k.toNat+1:=by omega
      simp [cad,Addr.add,this,Nat.add_assoc]
  |_=>right;intro a len cap h;cases h
theorem xso2 (j:Nat) {v u0 u1:Value} {E:TypeId} {n k:Int} {c d:Int->Value} (ht:Zz P T=some 2) (hS:Sat w0 w l) (e:upd (upd c k u0) (k+1) u1=d) (ho:o.op= .store T x y:=by exact rfl) (hi:l[j]? =some (.own v 2 E n c):=by exact rfl) (hx:evL L x=some (.pointer (some (cad v k))):=by exact rfl) (hy:evL L y=some (.agg #[u0,u1]):=by exact rfl)
    (hv:u0.oneCell'=true:=by exact rfl) (hu:u1.oneCell'=true:=by exact rfl) (h0:0<=k:=by omega) (h1:k+1<n*2:=by omega):∃w',Runs P L w o .skip w'/\Sat w0 w' (l.set j (.own v 2 E n d)):=by
  subst e
  obtain⟨_,hsz⟩:=Xe (w:=w) ht
  have hS':=hS
  rw [Z0 hi] at hS'
  have hr0:=hS'.get.row
  have cZ:(cad v k).add 1=cad v (k+1):=by
    rcases ZfE v k h0 with h|h
    · exact h
    · exfalso
      obtain⟨q0,q1,a,cap,rfl,hz⟩:=hr0.slh
      rcases hz with hz|⟨b,off,rfl⟩
      · omega
      · exact h _ _ _ rfl
  have eK:(cad v k).add 0=cad v k:=by simp [Addr.add]
  have c0:=hr0.cell h0 (by omega)
  have f0:w.frozen? (cad v k)=false:=by
    rcases hS'.get.freeRow k with h|h
    · exact absurd h (by
        obtain⟨q0,q1,a,cap,rfl,hz⟩:=hr0.slh
        rcases hz with hz|⟨b,off,rfl⟩
        · omega
        · intro hh;cases hh)
    · exact h
  have hS1:=hS'.setOwn k h0 (by omega) u0
  have hr1:=hS1.get.row
  have c1:=hr1.cell (k:=k+1) (by omega) (by omega)
  have f1:(w.setCell (cad v k) u0).frozen? (cad v (k+1))=false:=by
    rcases hS1.get.freeRow (k+1) with h|h
    · exact absurd h (by
        obtain⟨q0,q1,a,cap,rfl,hz⟩:=hr0.slh
        rcases hz with hz|⟨b,off,rfl⟩
        · omega
        · intro hh;cases hh)
    · exact h
  have hS2:=hS1.setOwn (k+1) (by omega) (by omega) u1
  rw [YA hi]
  refine⟨_,fun ρ h=> ?_,hS2⟩
  simp [execOp,ho,h _ _ hx,h _ _ hy,Instr.storeAt,Instr.sureAddr,storeVar,Value.cells,hsz,storeCells,eK,cZ,run_store P w _ u0 _ hv,c0,f0,run_store P _ _ u1 _ hu,c1,f1]
end
theorem XQ(pv:Int->Value)(cnt:Int->Int){i k:Int}(s:Value)(x:Int)(h:k=2*i):upd (upd (Zg pv cnt) k s) (k+1) (.int .i64 x)=Zg (fun q=>if q=i then s else pv q) (fun q=>if q=i then x else cnt q):=by
  subst h
  funext q
  unfold upd Zg
  by_cases h1:q=2*i+1
  · subst h1;rw [if_pos rfl,if_neg (by omega)];dsimp only;rw [if_pos (by omega)]
  · rw [if_neg h1]
    by_cases h2:q=2*i
    · subst h2;rw [if_pos rfl,if_pos (by omega)];dsimp only;rw [if_pos (by omega)]
    · rw [if_neg h2]
      by_cases h3:q%2=0
      · rw [if_pos h3,if_pos h3];dsimp only;rw [if_neg (by omega)]
      · rw [if_neg h3,if_neg h3];dsimp only;rw [if_neg (by omega)]
theorem Wk(pv:Int->Value)(cnt s:Int->Int)(i j:Int):Zg (fun q=>if q=j then pv (s i) else(fun q=>if q=i then pv (s j) else(fun k=>pv (s k)) q) q) (fun q=>if q=j then cnt (s i) else(fun q=>if q=i then cnt (s j) else(fun k=>cnt (s k)) q) q)=Zg (fun k=>pv (swp s i j k)) (fun k=>cnt (swp s i j k)):=by
  congr 1
  · funext q;unfold swp;dsimp only
    by_cases h1:q=j
    · rw [if_pos h1]
      by_cases h2:q=i
      · rw [if_pos h2];congr 2;omega
      · rw [if_neg h2,if_pos h1]
    · rw [if_neg h1]
      by_cases h2:q=i
      · rw [if_pos h2,if_pos h2]
      · rw [if_neg h2,if_neg h2,if_neg h1]
  · funext q;unfold swp;dsimp only
    by_cases h1:q=j
    · rw [if_pos h1]
      by_cases h2:q=i
      · rw [if_pos h2];congr 2;omega
      · rw [if_neg h2,if_pos h1]
    · rw [if_neg h1]
      by_cases h2:q=i
      · rw [if_pos h2,if_pos h2]
      · rw [if_neg h2,if_neg h2,if_neg h1]
theorem VU(s:Int->Int)(i j:Int):upd (upd (ints s) i (.int .i64 (s j))) j (.int .i64 (s i))=ints (swp s i j):=by
  funext q;unfold upd ints swp
  by_cases h1:q=j
  · rw [if_pos h1]
    by_cases h2:q=i
    · rw [if_pos h2];congr 2;omega
    · rw [if_neg h2,if_pos h1]
  · rw [if_neg h1]
    by_cases h2:q=i
    · rw [if_pos h2,if_pos h2]
    · rw [if_neg h2,if_neg h2,if_neg h1]
theorem PermOn.inj{lo hi:Int}{t:Int->Int}(h:PermOn lo hi (fun k=>k) t){i j:Int}(e:t i=t j):i=j:=by
  obtain⟨p,q,e1,e2,e3⟩:=h
  rw [e3,e3] at e
  have:=congrArg q e
  rwa [(e1 _).2,(e1 _).2] at this
theorem Sat.pmrows{w0 w:World}{l:List Ent}(h:Sat w0 w l)(i:Nat){E:TypeId}{n:Int}{vv:Int->Value}{ln:Int->Int}{f:Int->Int->Int}{t:Int->Int}(hp:PermOn 0 n (fun k=>k) t)(hi:l[i]? =some (.sem (Frame.rows E n vv ln f)):=by exact rfl):
    Sat w0 w (l.set i (.sem (Frame.rows E n (fun k=>vv (t k)) (fun k=>ln (t k)) (fun k=>f (t k))))):=
  h.resem i hi (fun⟨h1,h2⟩=>⟨fun k k0 k1=>by
      obtain⟨j,j0,j1,j2⟩:=hp.fr k0 k1
      have e:t k=j:=j2
      show(Ent.own (vv (t k)) 1 E (ln (t k)) (ints (f (t k)))).holds w
      rw [e];exact h1 j j0 j1,fun a b a0 a1 b0 b1 hab g hg hg'=>by
      obtain⟨j,j0,j1,j2⟩:=hp.fr a0 a1
      obtain⟨k,k0,k1,k2⟩:=hp.fr b0 b1
      exact h2 (t a) (t b) (by rw [j2];exact j0) (by rw [j2];exact j1) (by rw [k2];exact k0) (by rw [k2];exact k1) (fun e=>hab (hp.inj e)) g hg hg'⟩)
    (fun g ⟨a,a0,a1,hg⟩=>by
      obtain⟨j,j0,j1,j2⟩:=hp.fr a0 a1
      exact⟨t a,by rw [j2];exact j0,by rw [j2];exact j1,hg⟩)
theorem ZcB{f:Int->Value}{n:Int}{x:Value}(h:∀k,(f k).oneCell'=true)(hx:x.oneCell'=true):∀k,(gsn f n x k).oneCell'=true:=fun k=>by
  unfold gsn;split
  · exact h k
  · exact hx
end Go.Proofs.Gw
namespace Go.Proofs.YtkichmnjjblodaaGreat
open Go Go.RowKit Go.Proofs.Gw
variable {a b nm:Int} {cnt:Int->Int} {pv:Int->Value} {vd:Value}
theorem ZkU:Zc Tryz.prog 136=true:=by kernel_rfl
theorem Zfr:Zc Tryz.prog 172=true:=by kernel_rfl
theorem KH:Zc Tryz.prog 173=true:=by kernel_rfl
theorem Zkj:Zc Tryz.prog 199=true:=by kernel_rfl
theorem ZbU:Zc Tryz.prog 215=true:=by kernel_rfl
theorem ZcO:Zc Tryz.prog 97=true:=by kernel_rfl
theorem Yy:ZK Tryz.prog 59=some (107,2):=by kernel_rfl
theorem Zb3{n:Int}{s:Int->Int}{F:Gw.Frame}{m:Int}(w0 w:World)(hS:Sat w0 w [.own vd 2 107 n (Zg (fun z9=>pv (s z9)) (fun z9=>cnt (s z9))),.sem F])(hsl:Slh vd n)(hn8:n<=100000000)(qs:∀x,(pv x).oneCell'=true)(a0:0<=a)(m0:0<=m)(ab:a+m<=b)(bn:b+m<=n):
    Calls Tryz.prog 215 [vd,.int .i64 a,.int .i64 b,.int .i64 m,.func (.func 97) #[] #[]].toArray w fun e w=>∃v,e= .returned v/\v= .tuple #[]/\Sat w0 w [.own vd 2 107 n (Zg (fun z9=>pv ((swr s a b m) z9)) (fun z9=>cnt ((swr s a b m) z9))),.sem F]:=by
  refine zenF Tryz.func215 Tryz.ntmps215 ?_
  refine zsr<|(zP)<|zx6<|zlp (fun mm M w=>∃(t:Int->Int) (i:Int),mm=((m-i).toNat)/\(0<=i)/\(i<=m)/\(t=swr s a b i)/\M= [(0,vd),(1,.int .i64 a),(2,.int .i64 b),(3,.int .i64 m),(10,.int .i64 i)]/\Sat w0 w [.own vd 2 107 n (Zg (fun z9=>pv (t z9)) (fun z9=>cnt (t z9))),.sem F]) ⟨s,0,rfl,(by omega),(by omega),?_,rfl,hS⟩ ?_
  ·
   exact(Zaf s a b).symm
  clear hS w
  rintro mm M w ⟨t,i,rfl,i0,i1,ht,rfl,hS⟩
  refine zx11<|(zP)<|(zP)<|(zP)<|zlt<|Ze ?_ ?_<;>intro hc
  ·
   refine zx29<|zdst [0,1] [1] 21 mx_ hS ?_;clear hS;intro w hS
   refine(zDw 0 xmv)<|(zDw 1 xmv)<|(zDw 2 xmv)<|(zDw 3 (Zh (r:=a+i)))<|(zDw 4 xmv)<|(zDw 5 xmv)<|(zDw 6 xmv)<|(zDw 7 (Zh (r:=b+i)))<|(zDw 8 xmv)<|(zDw 9 xmv)<|(zDw 10 xmv)<|(zDw 11 (Zh (r:=b+i)))<|(zDw 12 (xix (kk:=2*b+2*i) Yy hsl))<|zdl 13 (fun w hS=>(xlw (cs:= [(pv (t (b+i))),.int .i64 (cnt (t (b+i)))]) ZH (hS.rowN 0 rfl) (ZD (k:=2*b+2*i) (i:=b+i) (fun z9=>pv (t z9)) (fun z9=>cnt (t z9)) (by omega)))) ?_
   refine(zDw 14 xmv)<|(zDw 15 xmv)<|(zDw 16 xmv)<|(zDw 17 (Zh (r:=a+i)))<|(zDw 18 (xix (kk:=2*a+2*i) Yy hsl))<|zdl 19 (fun w hS=>(xlw (cs:= [(pv (t (a+i))),.int .i64 (cnt (t (a+i)))]) ZH (hS.rowN 0 rfl) (ZD (k:=2*a+2*i) (i:=a+i) (fun z9=>pv (t z9)) (fun z9=>cnt (t z9)) (by omega)))) ?_
   refine(zDw 20 (xix (kk:=2*a+2*i) Yy hsl))<|zde 21 (xso2 0 ZH hS (XQ (i:=a+i) (k:=2*a+2*i) _ _ _ _ (by omega)) (hv:=qs _)) ?_;clear hS;rintro w hS
   refine⟨⟨fun h=>absurd h (by decide),hS.pk [1]⟩,?_⟩
   refine(zDw 22 (xix (kk:=2*b+2*i) Yy hsl))<|zde 23 (xso2 0 ZH hS (Eq.trans (XQ (i:=b+i) (k:=2*b+2*i) _ _ _ _ (by omega)) (Wk pv cnt t (a+i) (b+i))) (hv:=qs _)) ?_;clear hS;rintro w hS
   refine⟨⟨fun h=>absurd h (by decide),hS.pk [1]⟩,?_⟩
   refine zdd<|zbn<|ztn<|zrg ?_
   refine(zP)<|(zV (Zh (r:=i+1)))<|(zP)<|zln<|zlq ⟨swp t (a+i) (b+i),i+1,rfl,(by omega),(by omega),?_,rfl,hS⟩
   ·
    rw [ht];exact Zag i0 (by omega) (by omega) (by omega)
  refine zxt<|ztx<|ztx<|zbh<|XD ⟨_,rfl,?_⟩
  obtain rfl:i=m:=by omega
  subst ht
  exact⟨rfl,hS⟩
theorem Zlf{n:Int}{s:Int->Int}{F:Gw.Frame}{m:Int}(w0 w:World)(hS:Sat w0 w [.own vd 2 107 n (Zg (fun z9=>pv (s z9)) (fun z9=>cnt (s z9))),.sem F])(hsl:Slh vd n)(hn8:n<=100000000)(qs:∀x,(pv x).oneCell'=true)(a0:0<=a)(am:a<m)(mb:m<b)(bn:b<=n):
    Calls Tryz.prog 199 [vd,.int .i64 a,.int .i64 m,.int .i64 b,.func (.func 97) #[] #[]].toArray w fun e w=>∃v,e= .returned v/\v= .tuple #[]/\Sat w0 w [.own vd 2 107 n (Zg (fun z9=>pv ((rot s a m b) z9)) (fun z9=>cnt ((rot s a m b) z9))),.sem F]:=by
  refine zenF Tryz.func199 Tryz.ntmps199 ?_
  refine zsr<|(zP)<|(zP)<|(zV (Zp (r:=m-a)))<|(zP)<|zlz<|(zP)<|(zP)<|(zV (Zp (r:=b-m)))<|(zP)<|zlt<|zsq<|zbk<|zlp (fun mm M w=>∃(t:Int->Int) (i:Int) (j:Int),mm=((i+j).toNat)/\(1<=i)/\(1<=j)/\(a<=m-i)/\(m+j<=b)/\(rot t (m-i) m (m+j)=rot s a m b)/\M= [(0,vd),(2,.int .i64 m),(4,.func (.func 97) #[] #[]),(10,.int .i64 i),(11,.int .i64 j)]/\Sat w0 w [.own vd 2 107 n (Zg (fun z9=>pv (t z9)) (fun z9=>cnt (t z9))),.sem F]) ⟨s,m-a,b-m,rfl,(by omega),(by omega),(by omega),(by omega),?_,rfl,hS⟩ ?_
  ·
   rw [show m-(m-a)=a by omega,show m+(b-m)=b by omega]
  clear hS w
  rintro mm M w ⟨t,i,j,rfl,i0,j0,ia,jb,hr,rfl,hS⟩
  refine zx11<|(zP)<|(zP)<|(zP)<|zlt<|Ze ?_ ?_<;>intro hc
  ·
   refine zsk<|ztn<|zbk<|zsr<|(zP)<|(zP)<|(zP)<|zlt<|Ze ?_ ?_<;>intro hc
   ·
    refine zsr<|(zP)<|(zP)<|(zP)<|(zV (Zp (r:=m-i)))<|(zP)<|(zP)<|(zP)<|zlc (xc0 ZbU) (Zb3 (s:=t) (a:=m-i) (b:=m) (m:=j) w0 w hS hsl hn8 qs (by omega) (by omega) (by omega) (by omega)) ?_;rintro _ w ⟨rfl,hS⟩
    refine zlt<|zrg<|(zP)<|(zP)<|(zV (Zp (r:=i-j)))<|(zP)<|zln<|zbn<|zlq ⟨(swr t (m-i) m j),i-j,j,rfl,(by omega),(by omega),(by omega),(by omega),?_,rfl,hS⟩
    ·
     first|(rw [<-hr,show m-(i-j)=m-i+j by omega];exact VH (by omega) (by omega))|(rw [<-hr,show m+(j-i)=m+j-i by omega];exact WX (by omega) (by omega))
   refine zsr<|(zP)<|(zP)<|(zP)<|(zV (Zp (r:=m-i)))<|(zP)<|(zP)<|(zV (Zh (r:=m+j)))<|(zP)<|(zV (Zp (r:=m+j-i)))<|(zP)<|(zP)<|zlc (xc0 ZbU) (Zb3 (s:=t) (a:=m-i) (b:=m+j-i) (m:=i) w0 w hS hsl hn8 qs (by omega) (by omega) (by omega) (by omega)) ?_;rintro _ w ⟨rfl,hS⟩
   refine zlt<|zrg<|(zP)<|(zP)<|(zV (Zp (r:=j-i)))<|(zP)<|zln<|zbn<|zlq ⟨(swr t (m-i) (m+j-i) i),i,j-i,rfl,(by omega),(by omega),(by omega),(by omega),?_,rfl,hS⟩
   ·
    first|(rw [<-hr,show m-(i-j)=m-i+j by omega];exact VH (by omega) (by omega))|(rw [<-hr,show m+(j-i)=m+j-i by omega];exact WX (by omega) (by omega))
  refine zxt<|ztx<|ztx<|zbh<|ztn<|zrg<|(zP)<|(zP)<|(zP)<|(zV (Zp (r:=m-i)))<|(zP)<|(zP)<|(zP)<|zlc (xc0 ZbU) (Zb3 (s:=t) (a:=m-i) (b:=m) (m:=i) w0 w hS hsl hn8 qs (by omega) (by omega) (by omega) (by omega)) ?_;rintro _ w ⟨rfl,hS⟩
  refine zln<|XD ⟨_,rfl,?_⟩
  have hz:(swr t (m-i) m i)=rot s a m b:=by
    rw [<-hr,show j=i by omega];exact Zas (by omega)
  rw [hz] at hS
  exact⟨rfl,hS⟩
theorem Zgd {n:Int} {s:Int->Int} {lt:Int->Int->Prop} {F:Gw.Frame} (w0 w:World) (hS:Sat w0 w [.own vd 2 107 n (Zg (fun z9=>pv (s z9)) (fun z9=>cnt (s z9))),.sem F]) (hsl:Slh vd n) (hn8:n<=100000000) (qs:∀x,(pv x).oneCell'=true) (qv:∀(w:World) (x y:Int),0<=x->x<nm->0<=y->y<nm->Below w0.heap.size w0 w->F.holds w->Calls Tryz.prog 97 [.agg #[pv x,.int .i64 (cnt x)],.agg #[pv y,.int .i64 (cnt y)]].toArray w fun e w'=>∃v,e= .returned v/\∃c:Int,v= .int .i64 c/\(c<0↔lt x y)/\Sat w w' []) (hd:∀k,0<=k->k<n->0<=s k/\s k<nm) (hw:Swo lt) (a0:0<=a) (ab:a<=b) (bn:b<=n) (qS:UM a b s):
    Calls Tryz.prog 172 [vd,.int .i64 a,.int .i64 b,.func (.func 97) #[] #[]].toArray w fun e w=>∃v,e= .returned v/\v= .tuple #[]/\∃t:Int->Int,PermOn a b s t/\Srt (Tie lt) a b t/\Sat w0 w [.own vd 2 107 n (Zg (fun z9=>pv (t z9)) (fun z9=>cnt (t z9))),.sem F]:=by
  refine zenF Tryz.func172 Tryz.ntmps172 ?_
  refine zsr<|(zP)<|(zV (Zh (r:=a+1)))<|(zP)<|zx6<|zlp (fun mm M w=>∃(t:Int->Int) (i:Int),mm=((b-i).toNat)/\(a+1<=i)/\(i<=b\/i=a+1)/\(PermOn a i s t)/\(Srt (Tie lt) a i t)/\(∀k,0<=k->k<n->0<=t k/\t k<nm)/\M= [(0,vd),(1,.int .i64 a),(2,.int .i64 b),(3,.func (.func 97) #[] #[]),(8,.int .i64 i)]/\Sat w0 w [.own vd 2 107 n (Zg (fun z9=>pv (t z9)) (fun z9=>cnt (t z9))),.sem F]) ⟨s,a+1,rfl,(by omega),(by omega),?_,?_,?_,rfl,hS⟩ ?_
  ·
   exact .refl _ _ _
  ·
   intro p q p0 pq q1;omega
  ·
   exact hd
  clear hS w
  rintro mm M w ⟨t,i,rfl,i0,i1,hp,hs,hd1,rfl,hS⟩
  refine zx11<|(zP)<|(zP)<|(zP)<|zlt<|Ze ?_ ?_<;>intro hc
  ·
   refine zx3<|(zP)<|(zP)<|zx6<|zlp (fun mm M w=>∃(t2:Int->Int) (j:Int),mm=((j-a).toNat)/\(a<=j)/\(j<=i)/\(Ins lt a i j t t2)/\(∀k,0<=k->k<n->0<=t2 k/\t2 k<nm)/\M= [(0,vd),(1,.int .i64 a),(2,.int .i64 b),(3,.func (.func 97) #[] #[]),(8,.int .i64 i),(9,.int .i64 j)]/\Sat w0 w [.own vd 2 107 n (Zg (fun z9=>pv (t2 z9)) (fun z9=>cnt (t2 z9))),.sem F]) ⟨t,i,rfl,(by omega),(by omega),?_,?_,rfl,hS⟩ ?_
   ·
    exact Ins.start (by omega) hs (Zcw hp qS (by omega))
   ·
    exact hd1
   clear hS w
   rintro mm M w ⟨t2,j,rfl,j0,j1,hI,hd2,rfl,hS⟩
   refine zsq<|zsq<|zdst [0,1] [0,1] 1000 mx_ hS ?_;clear hS;intro w hS
   refine(zDw 0 xmv)<|(zDw 1 xmv)<|(zDw 2 Ys)<|(zDw 3 xmv)<|zdb 21 ?_ ?_<;>intro hc
   ·
    refine(zDw 4 xmv)<|(zDw 5 xmv)<|(zDw 6 xmv)<|(zDw 7 (xix (kk:=2*j) Yy hsl))<|(zDl 8 (fun w hS=>(xlw (cs:= [(pv (t2 j)),.int .i64 (cnt (t2 j))]) ZH (hS.rowN 0 rfl) (ZD (k:=2*j) (i:=j) (fun z9=>pv (t2 z9)) (fun z9=>cnt (t2 z9)) (by omega)))))<|(zDw 9 xmv)<|(zDw 10 xmv)<|(zDw 11 (Zp (r:=j-1)))<|(zDw 12 (xix (kk:=2*j-2) Yy hsl))<|(zDl 13 (fun w hS=>(xlw (cs:= [(pv (t2 (j-1))),.int .i64 (cnt (t2 (j-1)))]) ZH (hS.rowN 0 rfl) (ZD (k:=2*j-2) (i:=j-1) (fun z9=>pv (t2 z9)) (fun z9=>cnt (t2 z9)) (by omega)))))<|zdc 14 (xc0 ZcO) (qv w (t2 j) (t2 (j-1)) (hd2 j (by omega) (by omega)).1 (hd2 j (by omega) (by omega)).2 (hd2 (j-1) (by omega) (by omega)).1 (hd2 (j-1) (by omega) (by omega)).2 hS.below (hS.holds _ (List.mem_of_getElem? (i:=1) rfl))) ?_;rintro _ w ⟨c1,rfl,hc1,hS'⟩
    replace hS:=hS.cmp hS';clear hS'
    refine⟨⟨fun _=>hS,hS⟩,?_⟩
    refine(zDw 15 Z4)<|(zDw 16 xpt)<|zdd<|ztn ?_
    refine Ze ?_ ?_<;>intro hc
    ·
     refine zx29<|zdst [0,1] [1] 15 mx_ hS ?_;clear hS;intro w hS
     refine(zDw 0 xmv)<|(zDw 1 xmv)<|(zDw 2 xmv)<|(zDw 3 xmv)<|(zDw 4 (Zp (r:=j-1)))<|(zDw 5 xmv)<|(zDw 6 xmv)<|(zDw 7 (Zp (r:=j-1)))<|(zDw 8 (xix (kk:=2*j-2) Yy hsl))<|zdl 9 (fun w hS=>(xlw (cs:= [(pv (t2 (j-1))),.int .i64 (cnt (t2 (j-1)))]) ZH (hS.rowN 0 rfl) (ZD (k:=2*j-2) (i:=j-1) (fun z9=>pv (t2 z9)) (fun z9=>cnt (t2 z9)) (by omega)))) ?_
     refine(zDw 10 xmv)<|(zDw 11 xmv)<|(zDw 12 (xix (kk:=2*j) Yy hsl))<|zdl 13 (fun w hS=>(xlw (cs:= [(pv (t2 j)),.int .i64 (cnt (t2 j))]) ZH (hS.rowN 0 rfl) (ZD (k:=2*j) (i:=j) (fun z9=>pv (t2 z9)) (fun z9=>cnt (t2 z9)) (by omega)))) ?_
     refine(zDw 14 (xix (kk:=2*j) Yy hsl))<|zde 15 (xso2 0 ZH hS (XQ (i:=j) (k:=2*j) _ _ _ _ (by omega)) (hv:=qs _)) ?_;clear hS;rintro w hS
     refine⟨⟨fun h=>absurd h (by decide),hS.pk [1]⟩,?_⟩
     refine(zDw 16 (xix (kk:=2*j-2) Yy hsl))<|zde 17 (xso2 0 ZH hS (Eq.trans (XQ (i:=j-1) (k:=2*j-2) _ _ _ _ (by omega)) (Wk pv cnt t2 j (j-1))) (hv:=qs _)) ?_;clear hS;rintro w hS
     refine⟨⟨fun h=>absurd h (by decide),hS.pk [1]⟩,?_⟩
     refine zdd<|zbn<|ztn<|zrg ?_
     refine(zP)<|(zV (Zp (r:=j-1)))<|(zP)<|zln<|zlq ⟨swp t2 j (j-1),j-1,rfl,(by omega),(by omega),?_,?_,rfl,hS⟩
     ·
      exact hI.step (by omega) (by omega) (hc1.1 ‹c1<0›)
     ·
      exact(U8 (lo:=a) (hi:=n) (by omega) (by omega) (by omega) (by omega)).dom a0 (.inl (by omega)) hd2
    refine zx21<|(zP)<|(zV (Zh (r:=i+1)))<|(zP)<|zln<|zlq ⟨t2,i+1,rfl,(by omega),(by omega),?_,?_,?_,rfl,hS⟩
    ·
     exact(hp.mono (by omega) (by omega)).trans hI.perm
    ·
     exact hI.fin hw (by omega) (by omega) (by first|exact .inl (by omega)|exact .inr fun h=>absurd (hc1.2 h) ‹¬c1<0›)
    ·
     exact hd2
   refine(zDo 4)<|(zDo 5)<|(zDo 6)<|(zDo 7)<|(zDo 8)<|(zDo 9)<|(zDo 10)<|(zDo 11)<|(zDo 12)<|(zDo 13)<|(zDo 14)<|(zDo 15)<|(zDw 16 xpf)<|zdd<|ztn<|zcf<|zxt<|ztx<|ztx<|zbh<|zbn<|ztn<|zrg ?_
   refine(zP)<|(zV (Zh (r:=i+1)))<|(zP)<|zln<|zlq ⟨t2,i+1,rfl,(by omega),(by omega),?_,?_,?_,rfl,hS⟩
   ·
    exact(hp.mono (by omega) (by omega)).trans hI.perm
   ·
    exact hI.fin hw (by omega) (by omega) (by first|exact .inl (by omega)|exact .inr fun h=>absurd (hc1.2 h) ‹¬c1<0›)
   ·
    exact hd2
  refine zxt<|ztx<|ztx<|zbh<|XD ⟨_,rfl,?_⟩
  refine⟨rfl,t,?_,?_,hS⟩
  · by_cases hab:i<=b
    · exact hp.mono (by omega) (by omega)
    · obtain⟨p_,q_,e1,e2,e3⟩:=hp
      exact⟨p_,q_,e1,fun k hk=>by
        by_cases hka:k=a
        · subst hka
          apply Classical.byContradiction;intro hne
          have h5:=e2 (p_ k) (by omega)
          have h6:=congrArg q_ h5
          rw [(e1 _).2,(e1 _).2] at h6;exact hne h6
        · exact e2 k (by omega),e3⟩
  · exact hs.mono (by omega) (by omega)
theorem ZfK {n:Int} {lt:Int->Int->Prop} {F:Gw.Frame} (hsl:Slh vd n) (hn8:n<=100000000) (qs:∀x,(pv x).oneCell'=true) (hw:Swo lt) (N:Nat):∀{s:Int->Int} {a m b:Int} (w0 w:World) (hS:Sat w0 w [.own vd 2 107 n (Zg (fun z9=>pv (s z9)) (fun z9=>cnt (s z9))),.sem F]) (qv:∀(w:World) (x y:Int),0<=x->x<nm->0<=y->y<nm->Below w0.heap.size w0 w->F.holds w->Calls Tryz.prog 97 [.agg #[pv x,.int .i64 (cnt x)],.agg #[pv y,.int .i64 (cnt y)]].toArray w fun e w'=>∃v,e= .returned v/\∃c:Int,v= .int .i64 c/\(c<0↔lt x y)/\Sat w w' []) (hd:∀k,0<=k->k<n->0<=s k/\s k<nm) (a0:0<=a) (am:a<m) (mb:m<b) (bn:b<=n) (h1:Srt (Tie lt) a m s) (h2:Srt (Tie lt) m b s) (hp:Parted a m b s) (hN:(b-a).toNat<N),
    Calls Tryz.prog 173 [vd,.int .i64 a,.int .i64 m,.int .i64 b,.func (.func 97) #[] #[]].toArray w fun e w=>∃v,e= .returned v/\v= .tuple #[]/\∃t:Int->Int,PermOn a b s t/\Srt (Tie lt) a b t/\Sat w0 w [.own vd 2 107 n (Zg (fun z9=>pv (t z9)) (fun z9=>cnt (t z9))),.sem F]:=by
  induction N with
  |zero=>intros;omega
  | succ N ih=>
    intro s a m b w0 w hS qv hd a0 am mb bn h1 h2 hp hN
    refine zenF Tryz.func173 Tryz.ntmps173 ?_
    refine zx11<|(zP)<|(zP)<|(zV (Zp (r:=m-a)))<|(zP)<|zlt<|Ze ?_ ?_<;>intro hc
    ·
     refine zsr<|(zP)<|(zP)<|zlz<|(zP)<|(zP)<|zlt<|zsq<|zbk<|zlp (fun mm M w=>∃(i:Int) (j:Int),mm=((j-i).toNat)/\(m<=i)/\(i<=j)/\(j<=b)/\(i=a+1\/lt (s (i-1)) (s a))/\(j=b\/¬lt (s j) (s a))/\M= [(0,vd),(1,.int .i64 a),(2,.int .i64 m),(3,.int .i64 b),(4,.func (.func 97) #[] #[]),(10,.int .i64 i),(11,.int .i64 j)]/\Sat w0 w [.own vd 2 107 n (Zg (fun z9=>pv (s z9)) (fun z9=>cnt (s z9))),.sem F]) ⟨m,b,rfl,(by omega),(by omega),(by omega),?_,?_,rfl,hS⟩ ?_
     ·
      exact .inl (by omega)
     ·
      exact .inl rfl
     clear hS w
     rintro mm M w ⟨i,j,rfl,i0,ij,j1,hi,hj,rfl,hS⟩
     refine zx11<|(zP)<|(zP)<|(zP)<|zlt<|Ze ?_ ?_<;>intro hc
     ·
      refine zsk<|ztn<|zbk<|zsr<|(zP)<|(zP)<|(zV (Zh (r:=i+j)))<|(zV (xcv TO X5))<|(zV (UA (r:=((i+j)/2))))<|(zV (xcv Wl Ku))<|(zP)<|zx7<|zdst [0,1] [0,1] 1000 mx_ hS ?_;clear hS;intro w hS
      refine(zDw 0 xmv)<|(zDw 1 xmv)<|(zDw 2 xmv)<|(zDw 3 (xix (kk:=2*((i+j)/2)) Yy hsl))<|(zDl 4 (fun w hS=>(xlw (cs:= [(pv (s ((i+j)/2))),.int .i64 (cnt (s ((i+j)/2)))]) ZH (hS.rowN 0 rfl) (ZD (k:=2*((i+j)/2)) (i:=((i+j)/2)) (fun z9=>pv (s z9)) (fun z9=>cnt (s z9)) (by omega)))))<|(zDw 5 xmv)<|(zDw 6 xmv)<|(zDw 7 (xix (kk:=2*a) Yy hsl))<|(zDl 8 (fun w hS=>(xlw (cs:= [(pv (s a)),.int .i64 (cnt (s a))]) ZH (hS.rowN 0 rfl) (ZD (k:=2*a) (i:=a) (fun z9=>pv (s z9)) (fun z9=>cnt (s z9)) (by omega)))))<|zdc 9 (xc0 ZcO) (qv w (s ((i+j)/2)) (s a) (hd ((i+j)/2) (by omega) (by omega)).1 (hd ((i+j)/2) (by omega) (by omega)).2 (hd a (by omega) (by omega)).1 (hd a (by omega) (by omega)).2 hS.below (hS.holds _ (List.mem_of_getElem? (i:=1) rfl))) ?_;rintro _ w ⟨c1,rfl,hc1,hS'⟩
      replace hS:=hS.cmp hS';clear hS'
      refine⟨⟨fun _=>hS,hS⟩,?_⟩
      refine(zDw 10 Z4)<|zdd<|ztn ?_
      refine Ze ?_ ?_<;>intro hc
      ·
       refine zrg<|(zP)<|(zV (Zh (r:=((i+j)/2)+1)))<|(zP)<|zln<|zbn<|zlq ⟨((i+j)/2)+1,j,rfl,(by omega),(by omega),(by omega),?_,?_,rfl,hS⟩
       ·
        first|exact hi|(right;rw [show(i+j)/2+1-1=(i+j)/2 by omega];exact hc1.1 ‹c1<0›)
       ·
        first|exact hj|exact .inr fun h=>absurd (hc1.2 h) ‹¬c1<0›
      refine zrg<|(zP)<|(zP)<|zln<|zbn<|zlq ⟨i,((i+j)/2),rfl,(by omega),(by omega),(by omega),?_,?_,rfl,hS⟩
      ·
       first|exact hi|(right;rw [show(i+j)/2+1-1=(i+j)/2 by omega];exact hc1.1 ‹c1<0›)
      ·
       first|exact hj|exact .inr fun h=>absurd (hc1.2 h) ‹¬c1<0›
     refine zx18<|(zP)<|(zP)<|zx6<|zlp (fun mm M w=>∃(t:Int->Int) (k:Int),mm=((i-1-k).toNat)/\(a<=k)/\(k<=i-1)/\(t=rot s a (a+1) (k+1))/\M= [(0,vd),(1,.int .i64 a),(2,.int .i64 m),(3,.int .i64 b),(4,.func (.func 97) #[] #[]),(10,.int .i64 i),(13,.int .i64 k)]/\Sat w0 w [.own vd 2 107 n (Zg (fun z9=>pv (t z9)) (fun z9=>cnt (t z9))),.sem F]) ⟨s,a,rfl,(by omega),(by omega),?_,rfl,hS⟩ ?_
     ·
      exact(Zap s a).symm
     clear hS w
     rintro mm M w ⟨t,k,rfl,k0,k1,ht,rfl,hS⟩
     refine zx11<|(zP)<|(zP)<|(zV (Zp (r:=i-1)))<|(zP)<|zlt<|Ze ?_ ?_<;>intro hc
     ·
      refine zx29<|zdst [0,1] [1] 15 mx_ hS ?_;clear hS;intro w hS
      refine(zDw 0 xmv)<|(zDw 1 xmv)<|(zDw 2 xmv)<|(zDw 3 xmv)<|(zDw 4 (Zh (r:=k+1)))<|(zDw 5 xmv)<|(zDw 6 xmv)<|(zDw 7 (Zh (r:=k+1)))<|(zDw 8 (xix (kk:=2*k+2) Yy hsl))<|zdl 9 (fun w hS=>(xlw (cs:= [(pv (t (k+1))),.int .i64 (cnt (t (k+1)))]) ZH (hS.rowN 0 rfl) (ZD (k:=2*k+2) (i:=k+1) (fun z9=>pv (t z9)) (fun z9=>cnt (t z9)) (by omega)))) ?_
      refine(zDw 10 xmv)<|(zDw 11 xmv)<|(zDw 12 (xix (kk:=2*k) Yy hsl))<|zdl 13 (fun w hS=>(xlw (cs:= [(pv (t k)),.int .i64 (cnt (t k))]) ZH (hS.rowN 0 rfl) (ZD (k:=2*k) (i:=k) (fun z9=>pv (t z9)) (fun z9=>cnt (t z9)) (by omega)))) ?_
      refine(zDw 14 (xix (kk:=2*k) Yy hsl))<|zde 15 (xso2 0 ZH hS (XQ (i:=k) (k:=2*k) _ _ _ _ (by omega)) (hv:=qs _)) ?_;clear hS;rintro w hS
      refine⟨⟨fun h=>absurd h (by decide),hS.pk [1]⟩,?_⟩
      refine(zDw 16 (xix (kk:=2*k+2) Yy hsl))<|zde 17 (xso2 0 ZH hS (Eq.trans (XQ (i:=k+1) (k:=2*k+2) _ _ _ _ (by omega)) (Wk pv cnt t k (k+1))) (hv:=qs _)) ?_;clear hS;rintro w hS
      refine⟨⟨fun h=>absurd h (by decide),hS.pk [1]⟩,?_⟩
      refine zdd<|zbn<|ztn<|zrg ?_
      refine(zP)<|(zV (Zh (r:=k+1)))<|(zP)<|zln<|zlq ⟨swp t k (k+1),k+1,rfl,(by omega),(by omega),?_,rfl,hS⟩
      ·
       rw [ht];exact Zaq (by omega)
     refine zxt<|ztx<|ztx<|zbh<|ztn<|zrt<|ztr<|zf0 ⟨_,rfl,?_⟩
     have hki:k+1=i:=by omega
     rw [hki] at ht
     refine⟨rfl,t,?_,?_,hS⟩
     · rw [ht];exact(Yt (by omega) (by omega)).mono (by omega) (by omega)
     · rw [ht];obtain rfl:m=a+1:=by omega
       exact Rq hw h2 (fun j j0 j1=>hp a j (by omega) (by omega) j0 j1) (by omega) (by omega) hi (by rw [show i=j by omega];exact hj)
    refine YJ<|(zP)<|(zP)<|(zV (Zp (r:=b-m)))<|(zP)<|zlt<|Ze ?_ ?_<;>intro hc
    ·
     refine zsr<|(zP)<|(zP)<|zlz<|(zP)<|(zP)<|zlt<|zsq<|zbk<|zlp (fun mm M w=>∃(i:Int) (j:Int),mm=((j-i).toNat)/\(a<=i)/\(i<=j)/\(j<=m)/\(i=a\/¬lt (s m) (s (i-1)))/\(j=m\/lt (s m) (s j))/\M= [(0,vd),(1,.int .i64 a),(2,.int .i64 m),(3,.int .i64 b),(4,.func (.func 97) #[] #[]),(14,.int .i64 i),(15,.int .i64 j)]/\Sat w0 w [.own vd 2 107 n (Zg (fun z9=>pv (s z9)) (fun z9=>cnt (s z9))),.sem F]) ⟨a,m,rfl,(by omega),(by omega),(by omega),?_,?_,rfl,hS⟩ ?_
     ·
      exact .inl rfl
     ·
      exact .inl rfl
     clear hS w
     rintro mm M w ⟨i,j,rfl,i0,ij,j1,hi,hj,rfl,hS⟩
     refine zx11<|(zP)<|(zP)<|(zP)<|zlt<|Ze ?_ ?_<;>intro hc
     ·
      refine zsk<|ztn<|zbk<|zsr<|(zP)<|(zP)<|(zV (Zh (r:=i+j)))<|(zV (xcv TO X5))<|(zV (UA (r:=((i+j)/2))))<|(zV (xcv Wl Ku))<|(zP)<|zx7<|zdst [0,1] [0,1] 1000 mx_ hS ?_;clear hS;intro w hS
      refine(zDw 0 xmv)<|(zDw 1 xmv)<|(zDw 2 xmv)<|(zDw 3 (xix (kk:=2*m) Yy hsl))<|(zDl 4 (fun w hS=>(xlw (cs:= [(pv (s m)),.int .i64 (cnt (s m))]) ZH (hS.rowN 0 rfl) (ZD (k:=2*m) (i:=m) (fun z9=>pv (s z9)) (fun z9=>cnt (s z9)) (by omega)))))<|(zDw 5 xmv)<|(zDw 6 xmv)<|(zDw 7 (xix (kk:=2*((i+j)/2)) Yy hsl))<|(zDl 8 (fun w hS=>(xlw (cs:= [(pv (s ((i+j)/2))),.int .i64 (cnt (s ((i+j)/2)))]) ZH (hS.rowN 0 rfl) (ZD (k:=2*((i+j)/2)) (i:=((i+j)/2)) (fun z9=>pv (s z9)) (fun z9=>cnt (s z9)) (by omega)))))<|zdc 9 (xc0 ZcO) (qv w (s m) (s ((i+j)/2)) (hd m (by omega) (by omega)).1 (hd m (by omega) (by omega)).2 (hd ((i+j)/2) (by omega) (by omega)).1 (hd ((i+j)/2) (by omega) (by omega)).2 hS.below (hS.holds _ (List.mem_of_getElem? (i:=1) rfl))) ?_;rintro _ w ⟨c1,rfl,hc1,hS'⟩
      replace hS:=hS.cmp hS';clear hS'
      refine⟨⟨fun _=>hS,hS⟩,?_⟩
      refine(zDw 10 Z4)<|(zDw 11 Yz)<|zdd<|ztn ?_
      refine Ze ?_ ?_<;>intro hc
      ·
       refine zrg<|(zP)<|(zV (Zh (r:=((i+j)/2)+1)))<|(zP)<|zln<|zbn<|zlq ⟨((i+j)/2)+1,j,rfl,(by omega),(by omega),(by omega),?_,?_,rfl,hS⟩
       ·
        first|exact hi|(right;rw [show(i+j)/2+1-1=(i+j)/2 by omega];exact fun h=>absurd (hc1.2 h) ‹¬c1<0›)
       ·
        first|exact hj|exact .inr (hc1.1 (Classical.not_not.1 ‹_›))
      refine zrg<|(zP)<|(zP)<|zln<|zbn<|zlq ⟨i,((i+j)/2),rfl,(by omega),(by omega),(by omega),?_,?_,rfl,hS⟩
      ·
       first|exact hi|(right;rw [show(i+j)/2+1-1=(i+j)/2 by omega];exact fun h=>absurd (hc1.2 h) ‹¬c1<0›)
      ·
       first|exact hj|exact .inr (hc1.1 (Classical.not_not.1 ‹_›))
     refine zx18<|(zP)<|(zP)<|zx6<|zlp (fun mm M w=>∃(t:Int->Int) (k:Int),mm=((k-i).toNat)/\(i<=k)/\(k<=m)/\(t=rot s k m (m+1))/\M= [(0,vd),(1,.int .i64 a),(2,.int .i64 m),(3,.int .i64 b),(4,.func (.func 97) #[] #[]),(14,.int .i64 i),(17,.int .i64 k)]/\Sat w0 w [.own vd 2 107 n (Zg (fun z9=>pv (t z9)) (fun z9=>cnt (t z9))),.sem F]) ⟨s,m,rfl,(by omega),(by omega),?_,rfl,hS⟩ ?_
     ·
      exact(Zan s m).symm
     clear hS w
     rintro mm M w ⟨t,k,rfl,k0,k1,ht,rfl,hS⟩
     refine zx11<|(zP)<|(zP)<|(zP)<|zlt<|Ze ?_ ?_<;>intro hc
     ·
      refine zx29<|zdst [0,1] [1] 15 mx_ hS ?_;clear hS;intro w hS
      refine(zDw 0 xmv)<|(zDw 1 xmv)<|(zDw 2 xmv)<|(zDw 3 xmv)<|(zDw 4 (Zp (r:=k-1)))<|(zDw 5 xmv)<|(zDw 6 xmv)<|(zDw 7 (Zp (r:=k-1)))<|(zDw 8 (xix (kk:=2*k-2) Yy hsl))<|zdl 9 (fun w hS=>(xlw (cs:= [(pv (t (k-1))),.int .i64 (cnt (t (k-1)))]) ZH (hS.rowN 0 rfl) (ZD (k:=2*k-2) (i:=k-1) (fun z9=>pv (t z9)) (fun z9=>cnt (t z9)) (by omega)))) ?_
      refine(zDw 10 xmv)<|(zDw 11 xmv)<|(zDw 12 (xix (kk:=2*k) Yy hsl))<|zdl 13 (fun w hS=>(xlw (cs:= [(pv (t k)),.int .i64 (cnt (t k))]) ZH (hS.rowN 0 rfl) (ZD (k:=2*k) (i:=k) (fun z9=>pv (t z9)) (fun z9=>cnt (t z9)) (by omega)))) ?_
      refine(zDw 14 (xix (kk:=2*k) Yy hsl))<|zde 15 (xso2 0 ZH hS (XQ (i:=k) (k:=2*k) _ _ _ _ (by omega)) (hv:=qs _)) ?_;clear hS;rintro w hS
      refine⟨⟨fun h=>absurd h (by decide),hS.pk [1]⟩,?_⟩
      refine(zDw 16 (xix (kk:=2*k-2) Yy hsl))<|zde 17 (xso2 0 ZH hS (Eq.trans (XQ (i:=k-1) (k:=2*k-2) _ _ _ _ (by omega)) (Wk pv cnt t k (k-1))) (hv:=qs _)) ?_;clear hS;rintro w hS
      refine⟨⟨fun h=>absurd h (by decide),hS.pk [1]⟩,?_⟩
      refine zdd<|zbn<|ztn<|zrg ?_
      refine(zP)<|(zV (Zp (r:=k-1)))<|(zP)<|zln<|zlq ⟨swp t k (k-1),k-1,rfl,(by omega),(by omega),?_,rfl,hS⟩
      ·
       rw [ht];exact Zao (by omega)
     refine zxt<|ztx<|ztx<|zbh<|ztn<|zrt<|ztr<|zf0 ⟨_,rfl,?_⟩
     have hki:k=i:=by omega
     rw [hki] at ht
     refine⟨rfl,t,?_,?_,hS⟩
     · rw [ht];exact(Yt (by omega) (by omega)).mono (by omega) (by omega)
     · rw [ht];obtain rfl:b=m+1:=by omega
       exact Tl hw h1 (fun i i0 i1=>hp i m i0 i1 (by omega) (by omega)) (by omega) (by omega) hi (by rw [show i=j by omega];exact hj)
    refine ZS<|(zP)<|(zP)<|(zV (Zh (r:=a+b)))<|(zV (xcv TO X5))<|(zV (UA (r:=((a+b)/2))))<|(zV (xcv Wl Ku))<|(zP)<|zlz<|(zP)<|(zP)<|(zV (Zh (r:=((a+b)/2)+m)))<|(zP)<|zlz<|(zP)<|(zP)<|zx7 ?_
    refine Vw (fun M w=>∃(mid:Int) (s0:Int) (r0:Int),(mid=((a+b)/2))/\((mid<m/\s0=mid+m-b/\r0=mid)\/(m<=mid/\s0=a/\r0=m))/\M= [(0,vd),(1,.int .i64 a),(2,.int .i64 m),(3,.int .i64 b),(4,.func (.func 97) #[] #[]),(25,.int .i64 m),(26,.int .i64 a),(27,.int .i64 (m-a)),(28,B (m-a=1)),(77,.int .i64 b),(78,.int .i64 m),(79,.int .i64 (b-m)),(80,B (b-m=1)),(129,.int .i64 a),(130,.int .i64 b),(131,.int .i64 (a+b)),(132,.int .u64 (a+b)),(133,.int .u64 ((a+b)/2)),(134,.int .i64 ((a+b)/2)),(18,.int .i64 mid),(135,.int .i64 ((a+b)/2)),(136,.int .i64 m),(137,.int .i64 (((a+b)/2)+m)),(19,.int .i64 (mid+m)),(20,.int .i64 s0),(21,.int .i64 r0)]/\Sat w0 w [.own vd 2 107 n (Zg (fun z9=>pv (s z9)) (fun z9=>cnt (s z9))),.sem F]) ?_ ?_
    ·
     refine zsr<|(zP)<|(zP)<|(zP)<|zlt<|Ze ?_ ?_<;>intro hc
     ·
      refine zsr<|(zP)<|(zP)<|(zV (Zp (r:=((a+b)/2)+m-b)))<|(zP)<|zlt<|zrg<|(zP)<|(zP)<|zln<|zgj ⟨((a+b)/2),(((a+b)/2)+m-b),((a+b)/2),rfl,(by omega),rfl,hS⟩
     refine zsr<|(zP)<|(zP)<|zlt<|zrg<|(zP)<|(zP)<|zln<|zgj ⟨((a+b)/2),a,m,rfl,(by omega),rfl,hS⟩
    clear hS w;rintro M w ⟨mid,s0,r0,fG,hq,rfl,hS⟩
    refine ztn<|zsr<|(zP)<|(zV (Zp (r:=mid+m-1)))<|(zP)<|zlt<|zsq<|zbk<|zlp (fun mm M w=>∃(x:Int) (y:Int),mm=((y-x).toNat)/\(s0<=x)/\(x<=y)/\(y<=r0)/\(x=s0\/¬lt (s (mid+m-x)) (s (x-1)))/\(y=r0\/lt (s (mid+m-y-1)) (s y))/\M= [(0,vd),(1,.int .i64 a),(2,.int .i64 m),(3,.int .i64 b),(4,.func (.func 97) #[] #[]),(18,.int .i64 mid),(19,.int .i64 (mid+m)),(20,.int .i64 x),(21,.int .i64 y),(22,.int .i64 (mid+m-1))]/\Sat w0 w [.own vd 2 107 n (Zg (fun z9=>pv (s z9)) (fun z9=>cnt (s z9))),.sem F]) ⟨s0,r0,rfl,(by omega),(by omega),(by omega),?_,?_,rfl,hS⟩ ?_
    ·
     exact .inl rfl
    ·
     exact .inl rfl
    clear hS w
    rintro mm M w ⟨x,y,rfl,x0,xy,y1,hx,hy,rfl,hS⟩
    refine zx11<|(zP)<|(zP)<|(zP)<|zlt<|Ze ?_ ?_<;>intro hc
    ·
     refine zsk<|ztn<|zbk<|zsr<|(zP)<|(zP)<|(zV (Zh (r:=x+y)))<|(zV (xcv TO X5))<|(zV (UA (r:=((x+y)/2))))<|(zV (xcv Wl Ku))<|(zP)<|zx7<|zdst [0,1] [0,1] 1000 mx_ hS ?_;clear hS;intro w hS
     refine(zDw 0 xmv)<|(zDw 1 xmv)<|(zDw 2 xmv)<|(zDw 3 xmv)<|(zDw 4 (Zp (r:=mid+m-((x+y)/2)-1)))<|(zDw 5 (xix (kk:=2*mid+2*m-2*((x+y)/2)-2) Yy hsl))<|(zDl 6 (fun w hS=>(xlw (cs:= [(pv (s (mid+m-((x+y)/2)-1))),.int .i64 (cnt (s (mid+m-((x+y)/2)-1)))]) ZH (hS.rowN 0 rfl) (ZD (k:=2*mid+2*m-2*((x+y)/2)-2) (i:=mid+m-((x+y)/2)-1) (fun z9=>pv (s z9)) (fun z9=>cnt (s z9)) (by omega)))))<|(zDw 7 xmv)<|(zDw 8 xmv)<|(zDw 9 (xix (kk:=2*((x+y)/2)) Yy hsl))<|(zDl 10 (fun w hS=>(xlw (cs:= [(pv (s ((x+y)/2))),.int .i64 (cnt (s ((x+y)/2)))]) ZH (hS.rowN 0 rfl) (ZD (k:=2*((x+y)/2)) (i:=((x+y)/2)) (fun z9=>pv (s z9)) (fun z9=>cnt (s z9)) (by omega)))))<|zdc 11 (xc0 ZcO) (qv w (s (mid+m-((x+y)/2)-1)) (s ((x+y)/2)) (hd (mid+m-((x+y)/2)-1) (by omega) (by omega)).1 (hd (mid+m-((x+y)/2)-1) (by omega) (by omega)).2 (hd ((x+y)/2) (by omega) (by omega)).1 (hd ((x+y)/2) (by omega) (by omega)).2 hS.below (hS.holds _ (List.mem_of_getElem? (i:=1) rfl))) ?_;rintro _ w ⟨c1,rfl,hc1,hS'⟩
     replace hS:=hS.cmp hS';clear hS'
     refine⟨⟨fun _=>hS,hS⟩,?_⟩
     refine(zDw 12 Z4)<|(zDw 13 Yz)<|zdd<|ztn ?_
     refine Ze ?_ ?_<;>intro hc
     ·
      refine zrg<|(zP)<|(zV (Zh (r:=((x+y)/2)+1)))<|(zP)<|zln<|zbn<|zlq ⟨((x+y)/2)+1,y,rfl,(by omega),(by omega),(by omega),?_,?_,rfl,hS⟩
      ·
       first|exact hx|(right;rw [show mid+m-((x+y)/2+1)=mid+m-(x+y)/2-1 by omega,show(x+y)/2+1-1=(x+y)/2 by omega];exact fun h=>absurd (hc1.2 h) ‹¬c1<0›)
      ·
       first|exact hy|exact .inr (hc1.1 (Classical.not_not.1 ‹_›))
     refine zrg<|(zP)<|(zP)<|zln<|zbn<|zlq ⟨x,((x+y)/2),rfl,(by omega),(by omega),(by omega),?_,?_,rfl,hS⟩
     ·
      first|exact hx|(right;rw [show mid+m-((x+y)/2+1)=mid+m-(x+y)/2-1 by omega,show(x+y)/2+1-1=(x+y)/2 by omega];exact fun h=>absurd (hc1.2 h) ‹¬c1<0›)
     ·
      first|exact hy|exact .inr (hc1.1 (Classical.not_not.1 ‹_›))
    refine zx8<|(zP)<|(zP)<|(zV (Zp (r:=mid+m-x)))<|(zP)<|zx7 ?_
    refine Vw (fun M w=>∃(t:Int->Int),(t=rot s x m (mid+m-x))/\M= [(0,vd),(1,.int .i64 a),(2,.int .i64 m),(3,.int .i64 b),(4,.func (.func 97) #[] #[]),(18,.int .i64 mid),(19,.int .i64 (mid+m)),(20,.int .i64 x),(21,.int .i64 y),(22,.int .i64 (mid+m-1)),(149,.int .i64 x),(150,.int .i64 y),(151,B (x<y)),(175,.int .i64 (mid+m)),(176,.int .i64 x),(177,.int .i64 (mid+m-x)),(24,.int .i64 (mid+m-x))]/\Sat w0 w [.own vd 2 107 n (Zg (fun z9=>pv (t z9)) (fun z9=>cnt (t z9))),.sem F]) ?_ ?_
    ·
     refine zsr<|zs4 ?_
     refine zlb 181 ?_ ?_<;>intro hc
     ·
      refine zs4 ?_
      refine zlt<|Ze ?_ ?_<;>intro hc
      ·
       refine zrg<|zs5 ?_
       refine zlc (xc0 Zkj) (Zlf (s:=s) (a:=x) (m:=m) (b:=mid+m-x) w0 w hS hsl hn8 qs (by omega) (by omega) (by omega) (by omega)) ?_;rintro _ w ⟨rfl,hS⟩
       refine zln<|zgj ⟨(rot s x m (mid+m-x)),rfl,rfl,hS⟩
      refine zsk<|zgj ⟨s,(VG (by omega) (by omega) (by omega)).symm,rfl,hS⟩
     iterate 3 refine zlo ?_
     refine(zP)<|zlt<|zcf<|zsk<|zgj ⟨s,(VG (by omega) (by omega) (by omega)).symm,rfl,hS⟩
    clear hS w;rintro M w ⟨t,ht,rfl,hS⟩
    have hdt:=(Yt (a:=s) (lo:=x) (c:=m) (hi:=mid+m-x) (by omega) (by omega)).dom (n:=n) (N:=nm) (by omega) (.inl (by omega)) hd
    rw [<-ht] at hdt
    have hH:=VO hw h1 h2 hp (s:=x) (mid:=mid) (e:=mid+m-x) (by omega) (by omega) (by omega) (by omega) (by omega) (by rcases hq with hq|hq<;>rcases hx with hx|hx<;>first|exact .inl (by omega)|exact .inr (.inl (by omega))|exact .inr (.inr hx)) (by rcases hq with hq|hq<;>rcases hy with hy|hy<;>first|exact .inl (by omega)|exact .inr (.inl (by omega))|(refine .inr (.inr ?_);rw [show x=y by omega];exact hy))
    rw [<-ht] at hH
    refine ztn<|zsq<| ?_
    refine Vw (fun M w=>∃(t1:Int->Int),(PermOn a mid t t1)/\(Srt (Tie lt) a mid t1)/\(∀k,0<=k->k<n->0<=t1 k/\t1 k<nm)/\M= [(0,vd),(1,.int .i64 a),(2,.int .i64 m),(3,.int .i64 b),(4,.func (.func 97) #[] #[]),(18,.int .i64 mid),(19,.int .i64 (mid+m)),(20,.int .i64 x),(21,.int .i64 y),(22,.int .i64 (mid+m-1)),(149,.int .i64 x),(150,.int .i64 y),(151,B (x<y)),(175,.int .i64 (mid+m)),(176,.int .i64 x),(177,.int .i64 (mid+m-x)),(24,.int .i64 (mid+m-x))]/\Sat w0 w [.own vd 2 107 n (Zg (fun z9=>pv (t1 z9)) (fun z9=>cnt (t1 z9))),.sem F]) ?_ ?_
    ·
     refine zsr<|zs4 ?_
     refine zlb 195 ?_ ?_<;>intro hc
     ·
      refine zs4 ?_
      refine zlt<|Ze ?_ ?_<;>intro hc
      ·
       refine zrg<|zs5 ?_
       refine zlc (xc0 KH) (ih (s:=t) (a:=a) (m:=x) (b:=mid) w0 w hS qv hdt (by omega) (by omega) (by omega) (by omega) (hH.l1) (hH.l2) (hH.pl) (by omega)) ?_;rintro _ w ⟨rfl,u1,qq,xb,hS⟩
       have xW:=qq.dom (by omega) (.inl (by omega)) hdt
       refine zln<|zgj ⟨u1,qq,xb,xW,rfl,hS⟩
      refine zsk<|zgj ⟨t,(.refl _ _ _),(hH.left (by first|omega|(rintro⟨h3,h4⟩;omega)) (by omega) (by omega)),hdt,rfl,hS⟩
     iterate 3 refine zlo ?_
     refine(zP)<|zlt<|zcf<|zsk<|zgj ⟨t,(.refl _ _ _),(hH.left (by first|omega|(rintro⟨h3,h4⟩;omega)) (by omega) (by omega)),hdt,rfl,hS⟩
    clear hS w;rintro M w ⟨t1,hq1,hq2,aS,rfl,hS⟩
    have hH2:Halves lt a a mid (mid+m-x) b t1:=Halves.after hH hq1 hq2 (by omega) (by omega)
    refine ztn<|zsr<|zs4 ?_
    refine zlb 209 ?_ ?_<;>intro hc
    ·
     refine zs4 ?_
     refine zlt<|Ze ?_ ?_<;>intro hc
     ·
      refine zrg<|zs5 ?_
      refine zlc (xc0 KH) (ih (s:=t1) (a:=mid) (m:=mid+m-x) (b:=b) w0 w hS qv aS (by omega) (by omega) (by omega) (by omega) (hH2.r1) (hH2.r2) (hH2.pr) (by omega)) ?_;rintro _ w ⟨rfl,u1,qq,xb,hS⟩
      have xW:=qq.dom (by omega) (.inl (by omega)) aS
      refine zln<|XD ⟨_,rfl,?_⟩
      refine⟨rfl,u1,((((Yt (a:=s) (lo:=x) (c:=m) (hi:=mid+m-x) (by omega) (by omega)).mono (by omega) (by omega):PermOn a b s _)).trans (ht▸hq1.mono (by omega) (by omega))).trans (qq.mono (by omega) (by omega)),?_,hS⟩
      exact hH.join hw (by omega) (by omega) hq1 hq2 qq xb
     refine zsk<|XD ⟨_,rfl,?_⟩
     refine⟨rfl,t1,(((Yt (a:=s) (lo:=x) (c:=m) (hi:=mid+m-x) (by omega) (by omega)).mono (by omega) (by omega):PermOn a b s _)).trans (ht▸hq1.mono (by omega) (by omega)),?_,hS⟩
     exact hH.join hw (by omega) (by omega) hq1 hq2 (.refl _ _ _) (hH2.right (by first|omega|(rintro⟨h3,h4⟩;omega)) (by omega) (by omega))
    iterate 3 refine zlo ?_
    refine(zP)<|zlt<|zcf<|zsk<|XD ⟨_,rfl,?_⟩
    refine⟨rfl,t1,(((Yt (a:=s) (lo:=x) (c:=m) (hi:=mid+m-x) (by omega) (by omega)).mono (by omega) (by omega):PermOn a b s _)).trans (ht▸hq1.mono (by omega) (by omega)),?_,hS⟩
    exact hH.join hw (by omega) (by omega) hq1 hq2 (.refl _ _ _) (hH2.right (by first|omega|(rintro⟨h3,h4⟩;omega)) (by omega) (by omega))
theorem ZdL{n:Int}{s:Int->Int}{lt:Int->Int->Prop}{F:Gw.Frame}(w0 w:World)(hS:Sat w0 w [.own vd 2 107 n (Zg (fun z9=>pv (s z9)) (fun z9=>cnt (s z9))),.sem F])(hsl:Slh vd n)(hn8:n<=100000000)(qs:∀x,(pv x).oneCell'=true)(qv:∀(w:World) (x y:Int),0<=x->x<nm->0<=y->y<nm->Below w0.heap.size w0 w->F.holds w->Calls Tryz.prog 97 [.agg #[pv x,.int .i64 (cnt x)],.agg #[pv y,.int .i64 (cnt y)]].toArray w fun e w'=>∃v,e= .returned v/\∃c:Int,v= .int .i64 c/\(c<0↔lt x y)/\Sat w w' [])(hd:∀k,0<=k->k<n->0<=s k/\s k<nm)(hw:Swo lt)(qS:UM 0 n s):
    Calls Tryz.prog 136 [vd,.int .i64 n,.func (.func 97) #[] #[]].toArray w fun e w=>∃v,e= .returned v/\v= .tuple #[]/\∃t:Int->Int,PermOn 0 n s t/\Srt (Tie lt) 0 n t/\Sat w0 w [.own vd 2 107 n (Zg (fun z9=>pv (t z9)) (fun z9=>cnt (t z9))),.sem F]:=by
  have hn0:=hsl.n0
  refine zenF Tryz.func136 Tryz.ntmps136 ?_
  refine zsr<|(zP)<|zlz<|(zP)<|(zP)<|(zP)<|zlt<|zsq<|zbk<|zlp (fun mm M w=>∃(t:Int->Int) (a:Int) (b:Int),mm=((n-a).toNat)/\(0<=a)/\(a<=n)/\(b=a+20)/\((20:Int)∣a)/\(PermOn 0 a s t)/\(Runs_ lt 20 n 0 a t)/\(∀k,0<=k->k<n->0<=t k/\t k<nm)/\M= [(0,vd),(1,.int .i64 n),(2,.func (.func 97) #[] #[]),(6,.int .i64 20),(7,.int .i64 a),(8,.int .i64 b)]/\Sat w0 w [.own vd 2 107 n (Zg (fun z9=>pv (t z9)) (fun z9=>cnt (t z9))),.sem F]) ⟨s,0,20,rfl,(by omega),(by omega),(by omega),?_,?_,?_,?_,rfl,hS⟩ ?_
  ·
   exact Int.dvd_zero 20
  ·
   exact .refl _ _ _
  ·
   intro c c0 c1;omega
  ·
   exact hd
  clear hS w
  rintro mm M w ⟨t,a,b,rfl,a0,a1,hb,hda,hp,hr,hd1,rfl,hS⟩
  refine zx11<|(zP)<|(zP)<|(zP)<|zlt<|Ze ?_ ?_<;>intro hc
  ·
   refine zsk<|ztn<|zbk<|zsr<|zs4 ?_
   refine zlc (xc0 Zfr) (Zgd (s:=t) (a:=a) (b:=b) w0 w hS hsl hn8 qs qv hd1 hw (by omega) (by omega) (by omega) (W6 hp qS (by omega) (by omega) (by omega))) ?_;rintro _ w ⟨rfl,u1,qq,xb,hS⟩
   have xW:=qq.dom (by omega) (.inl (by omega)) hd1
   refine zlz<|(zP)<|(zP)<|zlt<|zrg<|(zP)<|(zP)<|(zV (Zh (r:=b+20)))<|(zP)<|zln<|zbn<|zlq ⟨u1,b,b+20,rfl,(by omega),(by omega),(by omega),?_,?_,?_,?_,rfl,hS⟩
   ·
    rw [hb];exact Int.dvd_add hda (Int.dvd_refl 20)
   ·
    exact(hp.mono (by omega) (by omega)).trans (qq.mono (by omega) (by omega))
   ·
    exact Wm (by omega) qS hr a0 hda hp qq xb (.inl ⟨hb,by omega⟩) (by omega)
   ·
    exact xW
  refine zx8<|zs4 ?_
  refine zlc (xc0 Zfr) (Zgd (s:=t) (a:=a) (b:=n) w0 w hS hsl hn8 qs qv hd1 hw (by omega) (by omega) (by omega) (W6 hp qS (by omega) (by omega) (by omega))) ?_;rintro _ w ⟨rfl,u1,qq,xb,hS⟩
  have xW:=qq.dom (by omega) (.inl (by omega)) hd1
  refine zx6<|zlp (fun mm M w=>∃(t2:Int->Int) (z:Int),mm=((n-z).toNat)/\(20<=z)/\(z<=2*n+20)/\(PermOn 0 n s t2)/\(Runs_ lt z n 0 n t2)/\(∀k,0<=k->k<n->0<=t2 k/\t2 k<nm)/\M= [(0,vd),(1,.int .i64 n),(2,.func (.func 97) #[] #[]),(6,.int .i64 z)]/\Sat w0 w [.own vd 2 107 n (Zg (fun z9=>pv (t2 z9)) (fun z9=>cnt (t2 z9))),.sem F]) ⟨u1,20,rfl,(by omega),(by omega),?_,?_,?_,rfl,hS⟩ ?_
  ·
   exact(hp.mono (by omega) (by omega)).trans (qq.mono (by omega) (by omega))
  ·
   exact Wm (by omega) qS hr a0 hda hp qq xb (.inr ⟨rfl,by omega⟩) (by omega)
  ·
   exact xW
  clear hS w
  rintro mm M w ⟨t2,z,rfl,z0,z1,hp2,hr2,hd2,rfl,hS⟩
  refine zx11<|(zP)<|(zP)<|(zP)<|zlt<|Ze ?_ ?_<;>intro hc
  ·
   refine zsk<|ztn<|zbk<|zsr<|(zP)<|(zV (Z7 (r:=2*z)))<|(zP)<|(zP)<|zlt<|zsq<|zbk<|zlp (fun mm M w=>∃(t3:Int->Int) (a3:Int) (b3:Int),mm=((n-a3).toNat)/\(0<=a3)/\(a3<=n)/\(b3=a3+2*z)/\(2*z∣a3)/\(PermOn 0 n s t3)/\(Runs_ lt (2*z) n 0 a3 t3)/\(Runs_ lt z n a3 n t3)/\(∀k,0<=k->k<n->0<=t3 k/\t3 k<nm)/\M= [(0,vd),(1,.int .i64 n),(2,.func (.func 97) #[] #[]),(6,.int .i64 z),(7,.int .i64 a3),(8,.int .i64 b3)]/\Sat w0 w [.own vd 2 107 n (Zg (fun z9=>pv (t3 z9)) (fun z9=>cnt (t3 z9))),.sem F]) ⟨t2,0,2*z,rfl,(by omega),(by omega),(by omega),?_,?_,?_,?_,?_,rfl,hS⟩ ?_
   ·
    exact Int.dvd_zero _
   ·
    exact hp2
   ·
    intro c c0 c1;omega
   ·
    exact hr2
   ·
    exact hd2
   clear hS w
   rintro mm M w ⟨t3,a3,b3,rfl,a30,a31,hb3,xe,hp3,hA,hB,hd3,rfl,hS⟩
   refine zx11<|(zP)<|(zP)<|(zP)<|zlt<|Ze ?_ ?_<;>intro hc
   ·
    refine zsk<|ztn<|zbk<|zsr<|zs4 ?_
    refine(zV (Zh (r:=a3+z)))<|zs2 ?_
    have hk:=VE (lt:=lt) (z:=z) (n:=n) (a:=a3) (b:=b3) (t:=t3) (by omega) a30 (Int.dvd_trans (Int.dvd_mul_left 2 z) xe) hB (by omega) (by omega) (by omega)
    refine zlc (xc0 KH) (ZfK (nm:=nm) (lt:=lt) hsl hn8 qs hw _ (s:=t3) (a:=a3) (m:=a3+z) (b:=b3) w0 w hS qv hd3 (by omega) (by omega) (by omega) (by omega) hk.1 hk.2.1 hk.2.2 (Nat.lt_succ_self _)) ?_;rintro _ w ⟨rfl,u2,qX,yl,hS⟩
    have yU:=qX.dom (by omega) (.inl (by omega)) hd3
    refine zlz<|(zP)<|(zP)<|zlt<|zrg<|(zP)<|(zP)<|(zV (Z7 (r:=2*z)))<|(zV (Zh (r:=b3+2*z)))<|(zP)<|zln<|zbn<|zlq ⟨u2,b3,b3+2*z,rfl,(by omega),(by omega),(by omega),?_,?_,?_,?_,?_,rfl,hS⟩
    ·
     rw [hb3];exact Int.dvd_add xe (Int.dvd_refl _)
    ·
     exact hp3.trans (qX.mono (by omega) (by omega))
    ·
     exact(Yr (by omega) a30 xe hA hB qX yl (.inl ⟨hb3,by omega⟩) (by omega)).1
    ·
     exact(Yr (by omega) a30 xe hA hB qX yl (.inl ⟨hb3,by omega⟩) (by omega)).2
    ·
     exact yU
   refine zx18<|(zP)<|(zP)<|(zV (Zh (r:=a3+z)))<|(zP)<|zlz<|(zP)<|(zP)<|(zP)<|zlt<|Ze ?_ ?_<;>intro hc
   ·
    refine zrg<|zs5 ?_
    have hk:=VE (lt:=lt) (z:=z) (n:=n) (a:=a3) (b:=n) (t:=t3) (by omega) a30 (Int.dvd_trans (Int.dvd_mul_left 2 z) xe) hB (by omega) (by omega) (by omega)
    refine zlc (xc0 KH) (ZfK (nm:=nm) (lt:=lt) hsl hn8 qs hw _ (s:=t3) (a:=a3) (m:=a3+z) (b:=n) w0 w hS qv hd3 (by omega) (by omega) (by omega) (by omega) hk.1 hk.2.1 hk.2.2 (Nat.lt_succ_self _)) ?_;rintro _ w ⟨rfl,u2,qX,yl,hS⟩
    have yU:=qX.dom (by omega) (.inl (by omega)) hd3
    refine zlt<|zrg<|(zP)<|(zV (Z7 (r:=2*z)))<|(zP)<|zln<|zbn<|zlq ⟨u2,2*z,rfl,(by omega),(by omega),?_,?_,?_,rfl,hS⟩
    ·
     first|exact hp3.trans (qX.mono (by omega) (by omega))|exact hp3
    ·
     first|exact(Yr (by omega) a30 xe hA hB qX yl (.inr ⟨rfl,by omega⟩) (by omega)).1|exact VF (by omega) a30 xe hA hB (by omega) (by omega)
    ·
     first|exact yU|exact hd3
   refine zsk<|ztn<|zrg<|(zP)<|(zV (Z7 (r:=2*z)))<|(zP)<|zln<|zbn<|zlq ⟨t3,2*z,rfl,(by omega),(by omega),?_,?_,?_,rfl,hS⟩
   ·
    first|exact hp3.trans (qX.mono (by omega) (by omega))|exact hp3
   ·
    first|exact(Yr (by omega) a30 xe hA hB qX yl (.inr ⟨rfl,by omega⟩) (by omega)).1|exact VF (by omega) a30 xe hA hB (by omega) (by omega)
   ·
    first|exact yU|exact hd3
  refine zxt<|ztx<|ztx<|zbh<|XD ⟨_,rfl,?_⟩
  exact⟨rfl,t2,hp2,Zar hr2 (by omega),hS⟩
theorem ZfM{n:Int}{s:Int->Int}{lt:Int->Int->Prop}{F:Gw.Frame}(w0 w:World)(hS:Sat w0 w [.own vd 2 107 n (Zg (fun z9=>pv (s z9)) (fun z9=>cnt (s z9))),.sem F])(hsl:Slh vd n)(hn8:n<=100000000)(qs:∀x,(pv x).oneCell'=true)(qv:∀(w:World) (x y:Int),0<=x->x<nm->0<=y->y<nm->Below w0.heap.size w0 w->F.holds w->Calls Tryz.prog 97 [.agg #[pv x,.int .i64 (cnt x)],.agg #[pv y,.int .i64 (cnt y)]].toArray w fun e w'=>∃v,e= .returned v/\∃c:Int,v= .int .i64 c/\(c<0↔lt x y)/\Sat w w' [])(hd:∀k,0<=k->k<n->0<=s k/\s k<nm)(hw:Swo lt)(qS:UM 0 n s):
    Calls Tryz.prog 96 [vd,.func (.func 97) #[] #[]].toArray w fun e w=>∃v,e= .returned v/\v= .tuple #[]/\∃t:Int->Int,PermOn 0 n s t/\Srt (Tie lt) 0 n t/\Sat w0 w [.own vd 2 107 n (Zg (fun z9=>pv (t z9)) (fun z9=>cnt (t z9))),.sem F]:=by
  refine zenF Tryz.func96 Tryz.ntmps96 ?_
  refine zrg<|(zP)<|(zP)<|(zV (xln ZO hsl))<|(zP)<|zlc (xc0 ZkU) (ZdL (s:=s) w0 w hS hsl hn8 qs qv hd hw qS) ?_;rintro _ w ⟨rfl,u1,qq,xb,hS⟩
  refine zln<|XD ⟨_,rfl,?_⟩
  exact⟨rfl,u1,qq,xb,hS⟩
end Go.Proofs.YtkichmnjjblodaaGreat
namespace Go.Proofs.YtkichmnjjblodaaGreat
open Go Go.RowKit Go.Proofs.Gw
variable {m:Int} {f g:Int->Int} {vA vB:Value}
theorem ZkT:Zc Tryz.prog 137=true:=by kernel_rfl
theorem Zfq:Zc Tryz.prog 174=true:=by kernel_rfl
theorem Zmo:Zc Tryz.prog 98=true:=by kernel_rfl
theorem fd_107_0:Zs Tryz.prog 107 0=some 0:=by kernel_rfl
theorem Zc1{x:Int}(w0:World):
    Calls Tryz.prog 174 [.int .i64 x].toArray w0 fun e w=>∃v,e= .returned v/\v= .bool false/\Sat w0 w []:=by
  refine zenG Tryz.func174 Tryz.ntmps174 fun w hS=> ?_
  refine zsr<|(zP)<|zlz<|(zP)<|(zP)<|(zV (xkf YV))<|(zP)<|zx1<|zf1 ⟨_,rfl,?_⟩
  exact⟨rfl,hS⟩
def Zcc(x y c:Int):Prop:=(c= -1/\x<y)\/(c=0/\x=y)\/(c=1/\y<x)
theorem ZlN{x y:Int}(w0:World):
    Calls Tryz.prog 137 [.int .i64 x,.int .i64 y].toArray w0 fun e w=>∃v,e= .returned v/\∃c:Int,v= .int .i64 c/\Zcc x y c/\Sat w0 w []:=by
  refine zenG Tryz.func137 Tryz.ntmps137 fun w hS=> ?_
  refine zsr<|(zP)<|zlz<|(zP)<|zlc (xc0 Zfq) (Zc1 (x:=x) w) ?_;rintro _ w ⟨rfl,hS'⟩
  replace hS:=hS.cmp hS';clear hS'
  refine(zP)<|zlz<|(zP)<|zlc (xc0 Zfq) (Zc1 (x:=y) w) ?_;rintro _ w ⟨rfl,hS'⟩
  replace hS:=hS.cmp hS';clear hS'
  refine(zP)<|zx5<|(zP)<|zlt<|zcf<|zsk<|ztn<|zsq<|zsr ?_
  refine(zP)<|zlt<|zcf<|zsk<|ztn<|zsq<|zsr ?_
  refine(zP)<|(zP)<|(zP)<|zlt<|Ze ?_ ?_<;>intro hc
  ·
   refine zsr<|(zP)<|zx14<|zf1 ⟨_,rfl,?_⟩
   exact⟨(-1),rfl,by unfold Zcc;omega,hS⟩
  refine YJ<|(zP)<|(zP)<|(zP)<|zlt<|Ze ?_ ?_<;>intro hc
  ·
   refine zsr<|(zP)<|zx14<|zf1 ⟨_,rfl,?_⟩
   exact⟨1,rfl,by unfold Zcc;omega,hS⟩
  refine ZS<|(zP)<|zx1<|zf1 ⟨_,rfl,?_⟩
  exact⟨0,rfl,by unfold Zcc;omega,hS⟩
theorem Zle {n:Int} (w0:World) (hA:Row w0 vA 1 n (ints f)) (hB:Row w0 vB 1 m (ints g)):
    Calls Tryz.prog 98 [vA,vB].toArray w0 fun e w=>∃v,e= .returned v/\∃c:Int,v= .int .i64 c/\(c<0↔ahd (lst m g) (lst n f))/\Sat w0 w []:=by
  have hn:=hA.slh.n0;have hn1:=hA.slh.n1;have hm:=hB.slh.n0;have hm1:=hB.slh.n1
  refine zenG Tryz.func98 Tryz.ntmps98 fun w hS=> ?_
  refine zsr<|(zP)<|zx5<|(zP)<|(zV (xln Zb hA.slh))<|(zP)<|zx6<|zlp (fun mm M w=>∃(i:Int),mm=((n-i).toNat)/\(0<=i)/\(i<=n)/\(i<=m)/\(∀k,0<=k->k<i->f k=g k)/\M= [(0,vA),(1,vB),(9,vA),(10,.int .i64 n),(11,.int .i64 i)]/\Sat w0 w []) ⟨0,rfl,(by omega),(by omega),(by omega),?_,rfl,hS⟩ ?_
  ·
   intro k h0 h1;omega
  clear hS w
  rintro mm M w ⟨i,rfl,h0,h1,h2,qa,rfl,hS⟩
  refine zsr<|(zP)<|zx7<|Ze ?_ ?_<;>intro hc
  ·
   refine zx3<|(zP)<|(zV (xix (kk:=i) Zb hA.slh))<|(zV (xlr (u:= .int .i64 (f i)) pl_3 (hA.below hS.below)))<|(zP)<|(zP)<|zx5<|(zP)<|(zP)<|(zV (xln Zb hB.slh))<|(zP)<|zlt<|Ze ?_ ?_<;>intro hc
   ·
    refine zsr<|(zP)<|zlt<|zrt<|ztr<|zbr<|ztr<|ztr<|zbr<|ztr<|zf1 ⟨_,rfl,?_⟩
    exact⟨1,rfl,⟨fun h=>by omega,fun h=>absurd h (V6 (Zbh (by omega) (by omega) (fun k k0 k1=>qa k k0 (by omega))))⟩,hS⟩
   refine ZS<|(zP)<|(zP)<|(zV (xix (kk:=i) Zb hB.slh))<|(zV (xlr (u:= .int .i64 (g i)) pl_3 (hB.below hS.below)))<|(zP)<|zlz<|(zP)<|(zP)<|zlc (xc0 ZkT) (ZlN (x:=(f i)) (y:=(g i)) w) ?_;rintro _ w ⟨c1,rfl,hc1,hS'⟩
   replace hS:=hS.cmp hS';clear hS'
   refine(zP)<|zlz<|(zP)<|(zP)<|zlt<|Ze ?_ ?_<;>intro hc
   ·
    refine zsr<|(zP)<|(zP)<|zx2<|zf1 ⟨_,rfl,?_⟩
    exact⟨c1,rfl,⟨fun h=>Zgt (j:=i) (by omega) (by omega) (by omega) (fun k k0 k1=>(qa k k0 k1).symm) (by unfold Zcc at hc1;omega),fun h=>by
        unfold Zcc at hc1
        by_cases h9:c1<0
        · exact h9
        · exact absurd h (V6 (Zgt (j:=i) (by omega) (by omega) (by omega) (fun k k0 k1=>qa k k0 k1) (by omega)))⟩,hS⟩
   refine zx4<|(zV (Zh (r:=i+1)))<|(zP)<|zln<|zlq ⟨i+1,rfl,(by omega),(by omega),(by omega),?_,rfl,hS⟩
   ·
    intro k h0' h1';rcases Int.lt_or_eq_of_le (show k<=i by omega) with hk|hk;exact qa k h0' hk;rw [hk];(unfold Zcc at hc1;omega)
  refine zx18<|(zP)<|(zV (xln Zb hA.slh))<|(zP)<|(zV (xln Zb hB.slh))<|(zP)<|zlt<|Ze ?_ ?_<;>intro hc
  ·
   refine zsr<|(zP)<|zx14<|zf1 ⟨_,rfl,?_⟩
   exact⟨(-1),rfl,⟨fun _=>Zbh (by omega) (by omega) (fun k k0 k1=>(qa k k0 (by omega)).symm),fun _=>by omega⟩,hS⟩
  refine ZS<|(zP)<|zx1<|zf1 ⟨_,rfl,?_⟩
  exact⟨0,rfl,⟨fun h=>by omega,fun h=>absurd h (by rw [show n=m by omega];exact Zgs (fun k k0 k1=>(qa k k0 (by omega)).symm))⟩,hS⟩
theorem Zlq{n:Int}{a b:Int}(w0:World)(hA:Row w0 vA 1 n (ints f))(hB:Row w0 vB 1 m (ints g)):
    Calls Tryz.prog 97 [.agg #[vA,.int .i64 a],.agg #[vB,.int .i64 b]].toArray w0 fun e w=>∃v,e= .returned v/\∃c:Int,v= .int .i64 c/\(c<0↔ahd (lst n f) (lst m g))/\Sat w0 w []:=by
  refine zenG Tryz.func97 Tryz.ntmps97 fun w hS=> ?_
  refine zsr<|zla (xbx (cs:= [_,_]) hS) ?_;rintro _ w ⟨g1,rfl,hS⟩
  refine zla (xbx (cs:= [_,_]) hS) ?_;rintro _ w ⟨g2,rfl,hS⟩
  refine(zP)<|zlz<|(zV (xfb 0 fd_107_0))<|(zV (xlb 1 pl_22 hS))<|(zV (xfb 0 fd_107_0))<|(zV (xlb 0 pl_22 hS))<|zlc (xc0 Zmo) (Zle (n:=m) (f:=g) (m:=n) (g:=f) w (hB.below hS.below) (hA.below hS.below)) ?_;rintro _ w ⟨c1,rfl,hc1,hS'⟩
  replace hS:=hS.cmp hS';clear hS'
  refine(zP)<|zx1<|zf1 ⟨_,rfl,?_⟩
  exact⟨_,rfl,hc1,hS.nl⟩
theorem Znc{n:Int}(w0:World)(hA:Row w0 vA 1 n (ints f))(hB:Row w0 vB 1 m (ints g)):
    Calls Tryz.prog 69 [vA,vB].toArray w0 fun e w=>∃v,e= .returned v/\v=B (lst n f=lst m g)/\Sat w0 w []:=by
  have hn:=hA.slh.n0;have hn1:=hA.slh.n1;have hm:=hB.slh.n0;have hm1:=hB.slh.n1
  refine zenG Tryz.func69 Tryz.ntmps69 fun w hS=> ?_
  refine zsr<|(zP)<|zx5<|(zP)<|(zV (xln Zb hA.slh))<|(zP)<|(zV (xln Zb hB.slh))<|(zP)<|zlt<|Ze ?_ ?_<;>intro hc
  ·
   refine zsr<|(zP)<|zx14<|zf1 ⟨_,rfl,?_⟩
   exact⟨Zf (by intro hh;have h9:=(Uj hn hm).1 hh;first|omega|(have:=h9.2 i h0 (by omega);omega)),hS⟩
  refine YJ<|(zP)<|(zV (xln Zb hA.slh))<|(zP)<|zx6<|zlp (fun mm M w=>∃(i:Int),mm=((n-i).toNat)/\(0<=i)/\(i<=n)/\(∀k,0<=k->k<i->f k=g k)/\M= [(0,vA),(1,vB),(12,.int .i64 n),(13,.int .i64 i)]/\Sat w0 w []) ⟨0,rfl,(by omega),(by omega),?_,rfl,hS⟩ ?_
  ·
   intro k h0 h1;omega
  clear hS w
  rintro mm M w ⟨i,rfl,h0,h1,qa,rfl,hS⟩
  refine zsr<|(zP)<|zx7<|Ze ?_ ?_<;>intro hc
  ·
   refine zx3<|(zP)<|(zP)<|zx7<|zdst [] [] 1000 mx_ hS ?_;clear hS;intro w hS
   refine(zDw 0 xmv)<|(zDw 1 xmv)<|(zDw 2 (xix (kk:=i) Zb hA.slh))<|(zDl 3 (fun w hS=>(xlr (u:= .int .i64 (f i)) pl_3 (hA.below hS.below))))<|(zDw 4 xmv)<|(zDw 5 xmv)<|(zDw 6 (xix (kk:=i) Zb hB.slh))<|(zDl 7 (fun w hS=>(xlr (u:= .int .i64 (g i)) pl_3 (hB.below hS.below))))<|(zDw 8 YV)<|zdd<|ztn ?_
   refine Ze ?_ ?_<;>intro hc
   ·
    refine zsr<|(zP)<|zx2<|zf1 ⟨_,rfl,?_⟩
    exact⟨Zf (by intro hh;have h9:=(Uj hn hm).1 hh;first|omega|(have:=h9.2 i h0 (by omega);omega)),hS⟩
   refine zx4<|(zV (Zh (r:=i+1)))<|(zP)<|zln<|zlq ⟨i+1,rfl,(by omega),(by omega),?_,rfl,hS⟩
   ·
    intro k h0' h1';rcases Int.lt_or_eq_of_le (show k<=i by omega) with hk|hk;exact qa k h0' hk;rw [hk];omega
  refine zx8<|(zP)<|zx1<|zf1 ⟨_,rfl,?_⟩
  exact⟨ZX (by exact(Uj hn hm).2 ⟨by omega,fun k k0 k1=>qa k k0 (by omega)⟩),hS⟩
end Go.Proofs.YtkichmnjjblodaaGreat
namespace Go.Proofs.YtkichmnjjblodaaGreat
open Go Go.RowKit Go.Proofs.Gw
variable {cnt ln:Int->Int} {pt:Int->Int->Int} {pv:Int->Value} {vV:Value}
theorem ZiH:Zc Tryz.prog 69=true:=by kernel_rfl
theorem Zfi:Zc Tryz.prog 92=true:=by kernel_rfl
theorem Zms:Zc Tryz.prog 93=true:=by kernel_rfl
theorem Zmq:Zc Tryz.prog 95=true:=by kernel_rfl
theorem fd_107_1:Zs Tryz.prog 107 1=some 1:=by kernel_rfl
theorem Zm3{vB:Value}{m b:Int}{g:Int->Int}{vA:Value}{n a:Int}{f:Int->Int}{gu:Nat}(w0:World)(hG:(Ent.blk gu [vA,.int .i64 a]).holds w0)(hA:Row w0 vA 1 n (ints f))(hB:Row w0 vB 1 m (ints g)):
    Calls Tryz.prog 93 [.agg #[vB,.int .i64 b],.pointer (some ⟨gu,0,none⟩)].toArray w0 fun e w=>∃v,e= .returned v/\v=B (lst n f=lst m g)/\Sat w0 w []:=by
  refine zenG Tryz.func93 Tryz.ntmps93 fun w hS=> ?_
  refine zsr<|zla (xbx (cs:= [_,_]) hS) ?_;rintro _ w ⟨g1,rfl,hS⟩
  refine(zP)<|zlz<|(zV (xfb 0 fd_107_0))<|(zV (xlf pl_22 (Ent.holds.cell hG (o:=0) rfl) hS))<|(zV (xfb 0 fd_107_0))<|(zV (xlb 0 pl_22 hS))<|zlc (xc0 ZiH) (Znc (n:=n) (f:=f) (m:=m) (g:=g) w (hA.below hS.below) (hB.below hS.below)) ?_;rintro _ w ⟨rfl,hS'⟩
  replace hS:=hS.cmp hS';clear hS'
  refine(zP)<|zx1<|zf1 ⟨_,rfl,?_⟩
  exact⟨rfl,hS.nl⟩
theorem Zlw{u:Int}{vA:Value}{n a:Int}{f:Int->Int}{gu:Nat}(w0:World)(hV:VAt w0 vV u pv ln pt cnt)(hG:(Ent.blk gu [vA,.int .i64 a]).holds w0)(hA:Row w0 vA 1 n (ints f)):
    Calls Tryz.prog 92 [vV,.func (.func 93) #[] #[.pointer (some ⟨gu,0,none⟩)]].toArray w0 fun e w=>∃v,e= .returned v/\∃r:Int,v= .int .i64 r/\((r= -1/\∀k,0<=k->k<u->¬(lst n f=lst (ln k) (pt k)))\/(0<=r/\r<u/\(lst n f=lst (ln r) (pt r))/\∀k,0<=k->k<r->¬(lst n f=lst (ln k) (pt k))))/\Sat w0 w []:=by
  have hn:=hV.row.slh.n0;have hn1:=hV.row.slh.n1
  refine zenG Tryz.func92 Tryz.ntmps92 fun w hS=> ?_
  refine zsr<|(zP)<|zx5<|(zP)<|(zV (xln ZO hV.row.slh))<|(zP)<|zx6<|zlp (fun mm M w=>∃(i:Int),mm=((u-i).toNat)/\(0<=i)/\(i<=u)/\(∀k,0<=k->k<i->¬(lst n f=lst (ln k) (pt k)))/\M= [(0,vV),(1,.func (.func 93) #[] #[.pointer (some ⟨gu,0,none⟩)]),(7,.int .i64 u),(8,.int .i64 i)]/\Sat w0 w []) ⟨0,rfl,(by omega),(by omega),?_,rfl,hS⟩ ?_
  ·
   intro k h0 h1;omega
  clear hS w
  rintro mm M w ⟨i,rfl,h0,h1,qa,rfl,hS⟩
  refine zsr<|(zP)<|zx7<|Ze ?_ ?_<;>intro hc
  ·
   refine zx3<|(zP)<|(zP)<|zlz<|(zP)<|(zP)<|(zP)<|(zV (xix (kk:=2*i) ZO hV.row.slh))<|(zV (xlw (cs:= [(pv i),.int .i64 (cnt i)]) ZH (hV.row.below hS.below) (ZD (k:=2*i) (i:=i) pv cnt (by omega))))<|zlc (xcc (vs:= [_]) Zms) (Zm3 (n:=n) (f:=f) (m:=(ln i)) (g:=(pt i)) w (Sat.oldblk hS hG) (hA.below hS.below) ((hV.p i (by omega) (by omega)).below hS.below)) ?_;rintro _ w ⟨rfl,hS'⟩
   replace hS:=hS.cmp hS';clear hS'
   refine zlt<|Ze ?_ ?_<;>intro hc
   ·
    refine zsr<|(zP)<|(zP)<|zx2<|zf1 ⟨_,rfl,?_⟩
    exact⟨i,rfl,.inr ⟨by omega,by omega,‹lst n f=lst (ln i) (pt i)›,qa⟩,hS⟩
   refine zx4<|(zV (Zh (r:=i+1)))<|(zP)<|zln<|zlq ⟨i+1,rfl,(by omega),(by omega),?_,rfl,hS⟩
   ·
    intro k h0' h1';rcases Int.lt_or_eq_of_le (show k<=i by omega) with hk|hk;exact qa k h0' hk;rw [hk];assumption
  refine zx8<|(zP)<|zx1<|zf1 ⟨_,rfl,?_⟩
  exact⟨-1,rfl,.inl ⟨rfl,fun k h0 h1=>qa k h0 (by omega)⟩,hS⟩
theorem Zm2{vB:Value}{m b:Int}{g:Int->Int}(w0:World)(hB:Row w0 vB 1 m (ints g)):
    Calls Tryz.prog 95 [.agg #[vB,.int .i64 b]].toArray w0 fun e w=>∃v,e= .returned v/\v=B (b<1)/\Sat w0 w []:=by
  refine zenG Tryz.func95 Tryz.ntmps95 fun w hS=> ?_
  refine zsr<|zla (xbx (cs:= [_,_]) hS) ?_;rintro _ w ⟨g1,rfl,hS⟩
  refine(zP)<|zlz<|(zV (xfb 1 fd_107_1))<|(zV (xlb 0 pl_3 hS))<|(zP)<|(zP)<|zx1<|zf1 ⟨_,rfl,?_⟩
  exact⟨rfl,hS.nl⟩
theorem Zlv{u:Int}(w0:World)(hV:VAt w0 vV u pv ln pt cnt)(hpc:∀k,0<=k->k<u->1<=cnt k):
    Calls Tryz.prog 92 [vV,.func (.func 95) #[] #[]].toArray w0 fun e w=>∃v,e= .returned v/\v= .int .i64 (-1)/\Sat w0 w []:=by
  have hn:=hV.row.slh.n0;have hn1:=hV.row.slh.n1
  refine zenG Tryz.func92 Tryz.ntmps92 fun w hS=> ?_
  refine zsr<|(zP)<|zx5<|(zP)<|(zV (xln ZO hV.row.slh))<|(zP)<|zx6<|zlp (fun mm M w=>∃(i:Int),mm=((u-i).toNat)/\(0<=i)/\(i<=u)/\M= [(0,vV),(1,.func (.func 95) #[] #[]),(7,.int .i64 u),(8,.int .i64 i)]/\Sat w0 w []) ⟨0,rfl,(by omega),(by omega),rfl,hS⟩ ?_
  clear hS w
  rintro mm M w ⟨i,rfl,h0,h1,rfl,hS⟩
  refine zsr<|(zP)<|zx7<|Ze ?_ ?_<;>intro hc
  ·
   refine zx3<|(zP)<|(zP)<|zlz<|(zP)<|(zP)<|(zP)<|(zV (xix (kk:=2*i) ZO hV.row.slh))<|(zV (xlw (cs:= [(pv i),.int .i64 (cnt i)]) ZH (hV.row.below hS.below) (ZD (k:=2*i) (i:=i) pv cnt (by omega))))<|zlc (xc0 Zmq) (Zm2 (b:=(cnt i)) w ((hV.p i (by omega) (by omega)).below hS.below)) ?_;rintro _ w ⟨rfl,hS'⟩
   replace hS:=hS.cmp hS';clear hS'
   refine zlt<|Ze ?_ ?_<;>intro hc
   ·
    refine zsr<|(zP)<|(zP)<|zx2<|zf1 ⟨_,rfl,?_⟩
    have:=hpc i h0 (by omega)
    omega
   refine zx4<|(zV (Zh (r:=i+1)))<|(zP)<|zln<|zlq ⟨i+1,rfl,(by omega),(by omega),rfl,hS⟩
  refine zx8<|(zP)<|zx1<|zf1 ⟨_,rfl,?_⟩
  exact⟨rfl,hS⟩
theorem ZlH{u:Int}(w0:World)(hV:VAt w0 vV u pv ln pt cnt)(hpc:∀k,0<=k->k<u->1<=cnt k):
    Calls Tryz.prog 94 [vV,.func (.func 95) #[] #[]].toArray w0 fun e w=>∃v,e= .returned v/\vV=v/\Sat w0 w []:=by
  refine zenG Tryz.func94 Tryz.ntmps94 fun w hS=> ?_
  refine zsr<|(zP)<|zlz<|(zP)<|(zP)<|zlc (xc0 Zfi) (Zlv (u:=u) (pv:=pv) (ln:=ln) (pt:=pt) (cnt:=cnt) w (hV.below hS.below) hpc) ?_;rintro _ w ⟨rfl,hS'⟩
  replace hS:=hS.cmp hS';clear hS'
  refine(zP)<|zx5<|(zP)<|(zV (xkt YL))<|zlt<|zct<|zsr ?_
  refine(zP)<|(zP)<|zx14<|zf1 ⟨_,rfl,?_⟩
  exact⟨rfl,hS⟩
end Go.Proofs.YtkichmnjjblodaaGreat
namespace Go.Proofs.YtkichmnjjblodaaGreat
open Go Go.RowKit Go.Proofs.Gw
variable {cnt ln:Int->Int} {pt:Int->Int->Int}
theorem Zmr:Zc Tryz.prog 94=true:=by kernel_rfl
theorem Zmp:Zc Tryz.prog 96=true:=by kernel_rfl
theorem ZaG{nO i:Int}{lO cO:Int->Int}{gO:Int->Int->Int}(n0:0<=nO)(i0:0<=i)(hs:plL nO lO gO cO=VA (plL i ln pt cnt))(hne:∀k,0<=k->k<nO->¬(lst (ln i) (pt i)=lst (lO k) (gO k))):
    plL (nO+1) (gsn lO nO (ln i)) (gsn gO nO (pt i)) (snoc cO nO (cnt i))=VA (plL (i+1) ln pt cnt):=by
  rw [X9 i0,T6,<-hs,Zbj fun v hv e=>by
    obtain⟨j,hj⟩:=List.mem_iff_getElem?.1 hv
    rw [plL_get] at hj
    split at hj
    · injection hj with hj
      rw [<-hj] at e
      exact hne j (by omega) (by assumption) e.symm
    · cases hj]
  exact Th n0 (fun k k0 k1=>⟨Zv k1,ZA k1,Zv k1⟩) (ZL (by omega)) (ZB (by omega)) (ZL (by omega))
theorem Zcq{nO i r:Int}{lO cO:Int->Int}{gO:Int->Int->Int}(i0:0<=i)(hs:plL nO lO gO cO=VA (plL i ln pt cnt))(r0:0<=r)(r1:r<nO)(e:lst (ln i) (pt i)=lst (lO r) (gO r))(hne:∀k,0<=k->k<r->¬(lst (ln i) (pt i)=lst (lO k) (gO k))):
    plL nO lO gO (upd cO r (cO r+cnt i))=VA (plL (i+1) ln pt cnt):=by
  rw [X9 i0,T6,<-hs,Zc8 (j:=r.toNat) (v:=(lst (lO r) (gO r),cO r)) (by rw [plL_get,Int.toNat_of_nonneg r0,if_pos r1]) e.symm fun k hk w hw h=>by
    rw [plL_get,if_pos (by omega)] at hw
    injection hw with hw
    rw [<-hw] at h
    exact hne k (by omega) (by omega) h.symm]
  apply List.ext_getElem?
  intro k
  rw [List.getElem?_set,plL_get,plL_get,plL_len]
  unfold upd
  by_cases hk:(k:Int)<nO
  · rw [if_pos hk,if_pos hk]
    by_cases hr:r.toNat=k
    · have hr':(k:Int)=r:=by omega
      rw [if_pos hr',if_pos hr,if_pos (by omega),hr']
    · have hr':¬(k:Int)=r:=by omega
      rw [if_neg hr',if_neg hr]
  · rw [if_neg hk,if_neg hk,if_neg (by omega)]
theorem Zey{cC:Int->Int}{nC B C x:Int}(h:∀k,0<=k->k<nC->1<=cC k/\cC k<=B)(hB:B<=C)(x1:1<=x)(x2:x<=C):∀k,0<=k->k<nC+1->1<=snoc cC nC x k/\snoc cC nC x k<=C:=fun k k0 k1=>by
  by_cases e:k<nC
  · rw [ZA e];have:=h k k0 e;omega
  · rw [ZB e];omega
theorem Zix{cC:Int->Int}{nC B C x r:Int}(h:∀k,0<=k->k<nC->1<=cC k/\cC k<=B)(hB:B<=C)(x1:1<=x)(x2:x<=C):∀k,0<=k->k<nC->1<=upd cC r x k/\upd cC r x k<=C:=fun k k0 k1=>by
  unfold upd
  by_cases e:k=r
  · rw [if_pos e];omega
  · rw [if_neg e];have:=h k k0 k1;omega
theorem KP{vV:Value}{u:Int}{pv:Int->Value}(w0:World)(hV:VAt w0 vV u pv ln pt cnt)(hn5:u<=10000000)(hlc:∀k,0<=k->k<u->ln k<=100000)(hpc:∀k,0<=k->k<u->1<=cnt k/\cnt k<=1000):
    Calls Tryz.prog 67 [vV].toArray w0 fun e w=>∃v,e= .returned v/\∃r n2 pv2 ln2 pt2 qh,v=r/\NormR (plL u ln pt cnt) (plL n2 ln2 pt2 qh)/\0<=n2/\n2<=u/\(∀k,0<=k->k<n2->1<=qh k/\qh k<=1000*u)/\Slh r n2/\Sat w0 w [.own r 2 107 n2 (Zg pv2 qh),.sem (Frame.rows 3 n2 pv2 ln2 pt2)]:=by
  have hn:=hV.row.slh.n0;have hn1:=hV.row.slh.n1
  refine zenG Tryz.func67 Tryz.ntmps67 fun w hS=> ?_
  refine zsr<|(zP)<|zlz<|(zP)<|zx5<|(zP)<|(zV (xln ZO hV.row.slh))<|(zP)<|zx6 ?_
  replace hS:=hS.addnil 2 107 (Zg (fun _=>Value.slice none 0 0) (fun _=>0))
  replace hS:=hS.addrows 3 (fun _=>Value.slice none 0 0) (fun _=>0) (fun _ _=>0)
  have aF:=fun k (k0:0<=k) (k1:k<0)=>hS.slhIn 1 rfl k0 k1
  refine zlp (fun mm M w=>∃(nC:Int) (wv:Int->Value) (lC:Int->Int) (gC:Int->Int->Int) (cC:Int->Int) (i:Int) (wC:Value),mm=((u-i).toNat)/\(0<=i)/\(i<=u)/\(0<=nC/\nC<=i)/\(plL nC lC gC cC=VA (plL i ln pt cnt))/\(∀k,0<=k->k<nC->1<=cC k/\cC k<=1000*i)/\(∀x,(wv x).oneCell'=true)/\(Slh wC nC)/\M= [(2,.slice none 0 0),(3,wC),(7,vV),(8,.int .i64 u),(9,.int .i64 i)]/\Sat w0 w [.own wC 2 107 nC (Zg wv cC),.sem (Frame.rows 3 nC wv lC gC)]) ⟨0,(fun _=>Value.slice none 0 0),(fun _=>0),(fun _ _=>0),(fun _=>0),0,(.slice none 0 0),rfl,(by omega),(by omega),(by omega),?_,?_,?_,?_,rfl,hS⟩ ?_
  ·
   rfl
  ·
   intro k k0 k1;omega
  ·
   intro x;rfl
  ·
   exact slh_nil
  clear hS w
  rintro mm M w ⟨nC,wv,lC,gC,cC,i,wC,rfl,h0,h1,hnC,hs,hbc,qs,hwC,rfl,hS⟩
  have qW:=fun k (k0:0<=k) (k1:k<nC)=>hS.slhIn 1 rfl k0 k1
  refine zsr<|(zP)<|zx7<|Ze ?_ ?_<;>intro hc
  ·
   refine zx3<|(zV (xix (kk:=2*i) ZO hV.row.slh))<|zlv (xlw (cs:= [(pv i),.int .i64 (cnt i)]) ZH (hV.row.below hS.below) (ZD (k:=2*i) (i:=i) pv cnt (by omega))) ?_
   have hci:=hpc i h0 (by omega)
   have hli:=hlc i h0 (by omega)
   refine zla (xal (cs:= [_,_]) Yo hS) ?_;rintro _ w ⟨g1,rfl,hS⟩
   refine zle (xsw 2 ZH hS (hd:=(Za (hV.p i (by omega) (by omega)).slh.one (Za rfl Zi)))) ?_;clear hS;rintro w hS
   refine zlz<|(zP)<|(zV xmf)<|zlc (xc0 Zfi) (Zlw (u:=nC) (pv:=wv) (ln:=lC) (pt:=gC) (cnt:=cC) (n:=(ln i)) (f:=(pt i)) w (⟨(hS.rowN 0 rfl),fun k k0 k1=>hS.rowIn 1 rfl k0 k1,fun k k0 k1=>hS.roomIn 1 rfl k0 k1⟩:VAt _ wC nC wv lC gC cC) (hS.holds _ (List.mem_of_getElem? (i:=2) rfl)) ((hV.p i (by omega) (by omega)).below hS.below)) ?_;rintro _ w ⟨r1,rfl,hr1,hS'⟩
   replace hS:=hS.cmp hS';clear hS'
   have hbr:0<=r1->1<=cC r1/\cC r1<=1000*i:=fun h=>hbc r1 h (by rcases hr1 with⟨h2,_⟩|⟨_,h2,_⟩<;>omega)
   have hrr:r1= -1\/(0<=r1/\r1<nC):=by rcases hr1 with⟨h2,_⟩|⟨h2,h3,_⟩<;>omega
   refine(zP)<|zlz<|(zP)<|(zP)<|zlt<|Ze ?_ ?_<;>intro hc
   ·
    refine zdst [0,1,2] [1,2] 10 mx_ hS ?_;clear hS;intro w hS
    refine(zDw 0 xmv)<|(zDw 1 xmv)<|(zDw 2 (xix (kk:=2*r1) ZO hwC))<|(zDw 3 (xfc (kk:=2*r1+1) fd_107_1 hwC))<|zdl 4 (fun w hS=>(xlr (u:= .int .i64 (cC r1)) pl_3 (hS.rowN 0 rfl) (e:=(WV wv cC (by omega))))) ?_
    refine(zDw 5 (xfb 1 fd_107_1))<|(zDl 6 (fun w hS=>(xlb 1 pl_3 hS)))<|(zDw 7 (Zh (r:=(cC r1)+(cnt i))))<|(zDw 8 (xix (kk:=2*r1) ZO hwC))<|(zDw 9 (xfc (kk:=2*r1+1) fd_107_1 hwC))<|zde 10 (xso 0 pl_3 hS (Zac (k:=2*r1+1) (i:=r1) _ _ (by omega))) ?_;clear hS;rintro w hS
    refine⟨⟨fun h=>absurd h (by decide),hS.pk [1,2]⟩,?_⟩
    refine zdd<|zbn<|ztn<|zrg ?_
    refine(zV (Zh (r:=i+1)))<|(zP)<|zln<|zlq ⟨nC,wv,lC,gC,(upd cC r1 ((cC r1)+(cnt i))),i+1,wC,rfl,(by omega),(by omega),(by omega),?_,?_,?_,?_,rfl,hS.pk [0,1]⟩
    ·
     first|exact ZaG (by omega) h0 hs (hr1.resolve_right (fun h=>by omega)).2|(have hr9:=hr1.resolve_left (fun h=>by omega);exact Zcq h0 hs hr9.1 hr9.2.1 hr9.2.2.1 hr9.2.2.2)
    ·
     first|exact Zey hbc (by omega) (by omega) (by omega)|exact Zix hbc (by omega) (by omega) (by omega)
    ·
     first|exact qs|exact ZcB qs ‹Slh _ _›.one
    ·
     exact hwC
   refine zdst [2] [2] 1000 mx_ hS ?_;clear hS;intro w hS
   refine(zDw 0 xmv)<|(zDw 1 (xfb 0 fd_107_0))<|(zDl 2 (fun w hS=>(xlb 0 pl_22 hS)))<|(zDw 4 (xfb 1 fd_107_1))<|(zDl 5 (fun w hS=>(xlb 0 pl_3 hS)))<|zdc 3 (xc0 cl_65) (c_clone (n:=(ln i)) (f:=(pt i)) w ((hV.p i (by omega) (by omega)).below hS.below) (by omega)) ?_;rintro vq1 w ⟨_,rfl,qb,hS'⟩
   replace hS:=(hS.comp hS').n4;clear hS'
   refine⟨⟨fun _=>hS.pk [2],hS.pk [2]⟩,?_⟩
   refine zDrv 6 (xany (v:= .agg #[vq1,.int .i64 (cnt i)]) (hr:=by obtain⟨_,_,_,_,rfl,_⟩:=qb;kernel_rfl)) ?_
   refine zda 7 (xli (n:=1) (len:=1) (pv:= [(0,.agg #[vq1,.int .i64 (cnt i)])]) (cs:= [vq1,.int .i64 (cnt i)]) (c:=Zg (fun _=>vq1) (fun _=>(cnt i))) ZO Yo hS (hf:=by obtain⟨_,_,_,_,rfl,_⟩:=qb;kernel_rfl)) ?_;rintro v1 w ⟨hS,hv1⟩
   refine⟨⟨fun _=>hS.pk [2],hS.pk [2]⟩,?_⟩
   refine zda 8 (xap 0 (r:=nC+1) ZO Yo hS (hS.rowN 4 rfl) (YQ _ _ _ _ _) (h1:=fun k _ _=>YP (fun _=>qb.one) k)) ?_;rintro v2 w ⟨hS,hv2⟩
   replace hS:=Sat.merge (l1:= [_]) (l2:= [_]) (l3:= [_]) hS (by omega)
   have yz:=fun k (k0:0<=k) (k1:k<nC+1)=>hS.slhIn 1 rfl k0 k1
   refine⟨⟨fun _=>hS.pk [2],hS.pk [2]⟩,?_⟩
   refine(zDw 9 xas)<|zdd<|zbn<|ztn<|zrg ?_
   refine(zV (Zh (r:=i+1)))<|(zP)<|zln<|zlq ⟨nC+1,gsn wv nC vq1,gsn lC nC (ln i),gsn gC nC (pt i),(snoc cC nC (cnt i)),i+1,v2,rfl,(by omega),(by omega),(by omega),?_,?_,?_,?_,rfl,hS.pk [0,1]⟩
   ·
    first|exact ZaG (by omega) h0 hs (hr1.resolve_right (fun h=>by omega)).2|(have hr9:=hr1.resolve_left (fun h=>by omega);exact Zcq h0 hs hr9.1 hr9.2.1 hr9.2.2.1 hr9.2.2.2)
   ·
    first|exact Zey hbc (by omega) (by omega) (by omega)|exact Zix hbc (by omega) (by omega) (by omega)
   ·
    first|exact qs|exact ZcB qs ‹Slh _ _›.one
   ·
    exact hv2
  refine zx8<|(zP)<|zlc (xc0 Zmr) (ZlH (u:=nC) (pv:=wv) (ln:=lC) (pt:=gC) (cnt:=cC) w (⟨(hS.rowN 0 rfl),fun k k0 k1=>hS.rowIn 1 rfl k0 k1,fun k k0 k1=>hS.roomIn 1 rfl k0 k1⟩:VAt _ wC nC wv lC gC cC) (fun k k0 k1=>(hbc k k0 k1).1)) ?_;rintro _ w ⟨rfl,hS'⟩
  replace hS:=hS.cmp hS';clear hS'
  refine(zP)<|zlz<|(zP)<|zlc (xc0 Zmp) (ZfM (vd:=wC) (n:=nC) (nm:=nC) (s:=fun k=>k) (pv:=wv) (cnt:=cC) (lt:=fun x y=>ahd (lst (lC x) (gC x)) (lst (lC y) (gC y))) (F:=Frame.rows 3 nC wv lC gC) w0 w (hS.pk [0,1]) hwC (by omega) qs (fun w x y x0 x1 y0 y1 _ hF=>Zlq w (hF.1 x x0 x1).row (hF.1 y y0 y1).row) (fun k k0 k1=>⟨k0,k1⟩) (ZgK fun x=>lst (lC x) (gC x)) (fun i j _ h _=>h)) ?_;rintro _ w ⟨rfl,t1,zQ,cv,hS⟩
  replace hS:=hS.pmrows 1 zQ
  replace hS:Sat w0 w [.own wC 2 107 nC (Zg (fun k=>wv (t1 k)) (fun k=>cC (t1 k))),.sem (Frame.rows 3 nC (fun k=>wv (t1 k)) (fun k=>lC (t1 k)) (fun k=>gC (t1 k)))]:=hS
  refine zlz<|(zP)<|(zP)<|zx1<|zf1 ⟨_,rfl,?_⟩
  obtain rfl:i=u:=by omega
  exact⟨_,_,_,_,_,_,rfl,.of_names hnC.1 hs zQ cv,hnC.1,hnC.2,fun k k0 k1=>(by obtain⟨q,q0,q1,q2⟩:=zQ.fr k0 k1;rw [show t1 k=q from q2];exact hbc q q0 q1),hwC,hS⟩
end Go.Proofs.YtkichmnjjblodaaGreat
namespace Go.Proofs.Gw
variable {c i m x:Int} {sz:Int->Int}
def incr1(p:List Int)(x:Int):List Int:=p.modify x.toNat (· +1)
def Yh(m room:Int)(sz:Int->Int)(x:Int):Us->Us
  | []=> [(incr1 (lst m fun _=>0) x,room-sz x)]
  |b::r=>if sz x<=b.2 then(incr1 b.1 x,b.2-sz x)::r else b::Yh m room sz x r
def YT(m room:Int)(sz:Int->Int)(l:List Int):Us:=l.foldl (fun s x=>Yh m room sz x s) []
theorem Tw(m room:Int)(sz:Int->Int)(l:List Int)(x:Int):YT m room sz (l++ [x])=Yh m room sz x (YT m room sz l):=by simp [YT]
theorem RB{m room:Int}{sz:Int->Int}{x:Int}:∀{s:Us},(∀b∈s,b.2<sz x)->Yh m room sz x s=s++ [(incr1 (lst m fun _=>0) x,room-sz x)]
  | [],_=>rfl
  | b::r,h=>by
    have h1:=h b (by simp)
    rw [Yh,if_neg (by omega),RB fun c hc=>h c (by simp [hc])];rfl
theorem ZaW{m room:Int}{sz:Int->Int}{x:Int}:∀{s:Us} {j:Nat} {b:List Int×Int},s[j]? =some b->sz x<=b.2->(∀k<j,∀c,s[k]? =some c->c.2<sz x)->Yh m room sz x s=s.set j (incr1 b.1 x,b.2-sz x)
  | [],_,_,h,_,_=>by simp at h
  | c::r,0,b,h,e,_=>by
    simp at h;subst h
    rw [Yh,if_pos e];rfl
  | c::r,j+1,b,h,e,hk=>by
    simp at h
    have h1:=hk 0 (by omega) c (by simp)
    rw [Yh,if_neg (by omega),ZaW h e fun k hk' d hd=>hk (k+1) (by omega) d (by simpa using hd)];rfl
theorem Rv{f:Int->Int}(x0:0<=x):incr1 (lst m f) x=lst m (fun k=>if k=x then f k+1 else f k):=by
  apply List.ext_getElem?
  intro k
  unfold incr1
  rw [List.getElem?_modify,lst_get,lst_get]
  by_cases hk:(k:Int)<m
  · rw [if_pos hk,if_pos hk]
    by_cases hx:x.toNat=k
    · have hx':(k:Int)=x:=by omega
      simp [hx,hx']
    · have hx':¬(k:Int)=x:=by omega
      simp [hx,hx']
  · rw [if_neg hk,if_neg hk];rfl
theorem Zmk{n room:Int}{P P':Int->Int->Int}{L L':Int->Int}{k:Int}(n0:0<=n)(x0:0<=x)(k0:0<=k)(kn:k<n)(h:sz x<=L k)(hf:∀j,0<=j->j<k->L j<sz x)
    (hP:∀a,0<=a->a<n->∀b,0<=b->b<m->P' a b=if a=k/\b=x then P a b+1 else P a b) (hL:∀a,0<=a->a<n->L' a=if a=k then L a-sz x else L a):plL n (fun _=>m) P' L'=Yh m room sz x (plL n (fun _=>m) P L):=by
  have hg:(plL n (fun _=>m) P L)[k.toNat]? =some (lst m (P k),L k):=by rw [plL_get,Int.toNat_of_nonneg k0,if_pos kn]
  rw [ZaW hg h fun j hj c hc=>by
    rw [plL_get,if_pos (by omega)] at hc;injection hc with hc;rw [<-hc];exact hf j (by omega) (by omega)]
  apply List.ext_getElem?
  intro j
  rw [List.getElem?_set,plL_get,plL_get,plL_len]
  by_cases hj:(j:Int)<n
  · rw [if_pos hj,if_pos hj,hL j (by omega) hj]
    by_cases hjk:k.toNat=j
    · rw [if_pos hjk,if_pos (by omega),if_pos (by omega)]
      rw [Rv x0,show(j:Int)=k by omega]
      congr 2
      apply Yj;intro b b0 b1
      rw [hP k k0 kn b b0 b1]
      by_cases hb:b=x
      · rw [if_pos ⟨rfl,hb⟩,if_pos hb]
      · rw [if_neg fun h=>hb h.2,if_neg hb]
    · rw [if_neg hjk,if_neg (by omega)]
      congr 2
      apply Yj;intro b b0 b1
      rw [hP j (by omega) hj b b0 b1,if_neg fun h=>hjk (by omega)]
  · rw [if_neg hj,if_neg hj]
    by_cases hjk:k.toNat=j
    · omega
    · rw [if_neg hjk]
theorem Zjl{n room:Int}{P P':Int->Int->Int}{L L':Int->Int}(n0:0<=n)(x0:0<=x)(hf:∀j,0<=j->j<n->L j<sz x)
    (hP:∀a,0<=a->a<n->∀b,0<=b->b<m->P' a b=P a b) (hN:∀b,0<=b->b<m->P' n b=if b=x then 1 else 0) (hL:∀a,0<=a->a<n->L' a=L a) (hl:L' n=room-sz x):plL (n+1) (fun _=>m) P' L'=Yh m room sz x (plL n (fun _=>m) P L):=by
  rw [RB fun b hb=>by
    obtain⟨j,hj⟩:=List.mem_iff_getElem?.1 hb
    rw [plL_get] at hj
    split at hj
    · injection hj with hj;rw [<-hj];exact hf j (by omega) (by assumption)
    · cases hj]
  rw [X9 n0,hl]
  congr 1
  · exact Ri fun k k0 k1=>⟨rfl,hL k k0 k1,fun j j0 j1=>hP k k0 k1 j j0 j1⟩
  · rw [Rv x0]
    congr 2
    apply Yj;intro b b0 b1
    rw [hN b b0 b1]
    by_cases hb:b=x
    · rw [if_pos hb,if_pos hb];rfl
    · rw [if_neg hb,if_neg hb]
def pcs(d:Int->Int):Nat->List Int
  |0=> []
  |k+1=>pcs d k++List.replicate (d k).toNat (k:Int)
def pcsTo(d:Int->Int)(i c:Int):List Int:=pcs d i.toNat++List.replicate c.toNat i
theorem ZbC(d:Int->Int)(c0:0<=c):pcsTo d i (c+1)=pcsTo d i c++ [i]:=by
  unfold pcsTo;rw [show(c+1).toNat=c.toNat+1 by omega,List.replicate_succ',List.append_assoc]
theorem ZbD(d:Int->Int)(i0:0<=i)(hc:c.toNat=(d i).toNat):pcsTo d (i+1) 0=pcsTo d i c:=by
  unfold pcsTo;rw [show(i+1).toNat=i.toNat+1 by omega,pcs,Int.toNat_of_nonneg i0,hc];simp
def psum(f d:Int->Int):Nat->Int
  |0=>0
  |k+1=>psum f d k+f k*d k
theorem YG(f d:Int->Int)(h:0<=i):psum f d (i+1).toNat=psum f d i.toNat+f i*d i:=by
  rw [show(i+1).toNat=i.toNat+1 by omega,psum,Int.toNat_of_nonneg h]
theorem Kc(f:Int->Int)(x:Int):∀n:Nat,((List.replicate n x).map f).sum=f x*n
  |0=>by simp
  |n+1=>by rw [List.replicate_succ,List.map_cons,List.sum_cons,Kc f x n];push_cast;rw [Int.mul_add];omega
theorem Zcn(f d:Int->Int):∀n:Nat,(∀k:Nat,k<n->0<=d k)->((pcs d n).map f).sum=psum f d n
  |0,_=>by simp [pcs,psum]
  | n+1,h=>by
    have h0:=h n (by omega)
    rw [pcs,List.map_append,List.sum_append,Zcn f d n fun k hk=>h k (by omega),Kc,psum,Int.toNat_of_nonneg h0]
theorem Rl(f d:Int->Int)(i0:0<=i)(c0:0<=c)(h:∀k,0<=k->k<i->0<=d k):((pcsTo d i c).map f).sum=psum f d i.toNat+f i*c:=by
  unfold pcsTo;rw [List.map_append,List.sum_append,Zcn f d _ fun k hk=>h k (by omega) (by omega),Kc,Int.toNat_of_nonneg c0]
theorem Zdq(d:Int->Int)(i0:0<=i)(c0:0<=c)(h:∀k,0<=k->k<i->0<=d k):((pcsTo d i c).length:Int)=psum (fun _=>1) d i.toNat+c:=by
  have h1:=Rl (fun _=>1) d i0 c0 h
  have h2:∀l:List Int,(l.map fun _=>(1:Int)).sum=l.length:=fun l=>by
    induction l with
    |nil=>rfl
    |cons a l ih=>rw [List.map_cons,List.sum_cons,ih,List.length_cons];push_cast;omega
  rw [h2] at h1;omega
theorem W0{d:Int->Int}{f:Int->Int}:∀{i n:Nat},i<=n->(∀k:Nat,k<n->0<=f k*d k)->psum f d i<=psum f d n:=by
  intro i n hin h
  induction hin with
  |refl=>exact Int.le_refl _
  | step hh ih=>
    have h1:=ih fun k hk=>h k (by omega)
    have h2:=h _ (Nat.lt_succ_self _)
    simp only [psum];omega
def Wn(sz:Int->Int)(p:List Int):Int:=((List.range p.length).map fun(k:Nat)=>p.getD k 0*sz k).sum
theorem X1{α:Type}{f g:α->Int}{l:List α}(h:∀x∈l,f x=g x):(l.map f).sum=(l.map g).sum:=by rw [List.map_congr_left h]
theorem Zci{f:Nat->Int}{x:Nat}{c:Int}:∀{n:Nat},x<n->((List.range n).map fun k=>if k=x then f k+c else f k).sum=((List.range n).map f).sum+c
  |0,h=>by omega
  | n +1,h=>by
    rw [List.range_succ,List.map_append,List.map_append,List.sum_append,List.sum_append]
    by_cases hx:x=n
    · subst hx
      rw [X1 (g:=f) fun k hk=>by rw [if_neg];have:=List.mem_range.1 hk;omega]
      simp;omega
    · rw [Zci (by omega)]
      simp [Ne.symm hx];omega
theorem WY(sz:Int->Int){p:List Int}(x0:0<=x)(h:x.toNat<p.length):Wn sz (incr1 p x)=Wn sz p+sz x:=by
  unfold Wn incr1
  rw [List.length_modify,<-Zci (x:=x.toNat) h]
  apply X1
  intro k hk
  have hk:=List.mem_range.1 hk
  rw [List.getD_eq_getElem?_getD,List.getD_eq_getElem?_getD,List.getElem?_modify]
  by_cases hx:x.toNat=k
  · have hx':(k:Int)=x:=by omega
    rw [if_pos hx.symm,List.getElem?_eq_getElem hk]
    simp [hx,Int.add_mul,hx']
  · rw [if_neg (Ne.symm hx)];simp [hx]
theorem Rb(sz:Int->Int)(m:Int):Wn sz (lst m fun _=>0)=0:=by
  unfold Wn
  rw [X1 (g:=fun _=>0) fun k hk=>by
    rw [YY] at hk
    have hk:=List.mem_range.1 hk
    rw [List.getD_eq_getElem?_getD,lst_get,if_pos (by omega)];simp]
  induction (List.range (lst m fun _=>0).length) with
  |nil=>rfl
  |cons a l ih=>rw [List.map_cons,List.sum_cons,ih];rfl
structure FFOk (m room:Int) (sz:Int->Int) (qd:List Int) (s:Us):Prop where
  ok:∀b∈s,b.1.length=m.toNat/\Wn sz b.1+b.2=room/\0<=b.2
  pr:s.Pairwise fun a b=>a.2+b.2<room
  mt:(s.map fun b=>room-b.2).sum=(qd.map sz).sum
  ct:∀g:Int->Int,(s.map fun b=>Wn g b.1).sum=(qd.map g).sum
  ln:s.length<=qd.length
  nn:∀b∈s,∀v∈b.1,0<=v
theorem FFOk.nil(m room:Int)(sz:Int->Int):FFOk m room sz [] []:=⟨by simp,.nil,rfl,fun _=>rfl,by simp,by simp⟩
theorem ZaO{p:List Int}(h:∀v∈p,0<=v):∀v∈incr1 p x,0<=v:=by
  intro v hv
  unfold incr1 at hv
  obtain⟨k,hk⟩:=List.mem_iff_getElem?.1 hv
  rw [List.getElem?_modify] at hk
  cases hp:p[k]? with
  |none=>rw [hp] at hk;cases hk
  | some u=>
    rw [hp] at hk
    have h0:=h u (List.mem_of_getElem? hp)
    by_cases hx:x.toNat=k
    · simp [hx] at hk;omega
    · simp [hx] at hk;omega
theorem W8 {m room:Int} {sz:Int->Int} {x:Int}:∀{s:Us},∀b∈Yh m room sz x s,b∈s\/(∃c∈s,sz x<=c.2/\b=(incr1 c.1 x,c.2-sz x))\/(b=(incr1 (lst m fun _=>0) x,room-sz x)/\∀c∈s,c.2<sz x)
  | [],b,h=>by simp [Yh] at h;exact .inr (.inr ⟨h,by simp⟩)
  | c :: r, b,h=>by
    rw [Yh] at h
    split at h
    · rename_i hc
      rcases List.mem_cons.1 h with h|h
      · exact .inr (.inl ⟨c,by simp,hc,h⟩)
      · exact .inl (by simp [h])
    · rename_i hc
      rcases List.mem_cons.1 h with h|h
      · exact .inl (by simp [h])
      · rcases W8 b h with h|⟨d,hd,e⟩|⟨e,hd⟩
        · exact .inl (by simp [h])
        · exact .inr (.inl ⟨d,by simp [hd],e⟩)
        · exact .inr (.inr ⟨e,fun d hd'=>by
            rcases List.mem_cons.1 hd' with h|h
            · rw [h];omega
            · exact hd d h⟩)
theorem RA{m room:Int}{sz:Int->Int}{x:Int}(F:List Int×Int->Int)(y:Int)(h1:∀c:List Int×Int,sz x<=c.2->F (incr1 c.1 x,c.2-sz x)=F c+y)(h2:F (incr1 (lst m fun _=>0) x,room-sz x)=y):∀{s:Us},((Yh m room sz x s).map F).sum=(s.map F).sum+y
  | []=>by simp [Yh,h2]
  | c ::r=>by
    rw [Yh]
    split
    · rename_i hc
      simp only [List.map_cons,List.sum_cons,h1 c hc];omega
    · simp only [List.map_cons,List.sum_cons,RA F y h1 h2 (s:=r)];omega
theorem ZaV{m room:Int}{sz:Int->Int}{x:Int}(hx:0<=sz x):∀{s:Us},s.Pairwise (fun a b=>a.2+b.2<room)->(Yh m room sz x s).Pairwise fun a b=>a.2+b.2<room
  | [],_=>by simp [Yh]
  | c ::r,h=>by
    have h1:=List.pairwise_cons.1 h
    rw [Yh]
    split
    · refine List.pairwise_cons.2 ⟨fun b hb=> ?_,h1.2⟩
      have:=h1.1 b hb
      dsimp only;omega
    · refine List.pairwise_cons.2 ⟨fun b hb=> ?_,ZaV hx h1.2⟩
      rcases W8 b hb with h|⟨d,hd,_,e⟩|⟨e,hd⟩
      · exact h1.1 b h
      · rw [e];have:=h1.1 d hd;dsimp only;omega
      · rw [e];dsimp only;omega
theorem RC{m room:Int}{sz:Int->Int}{x:Int}:∀{s:Us},(Yh m room sz x s).length<=s.length+1
  | []=>by simp [Yh]
  | c::r=>by
    rw [Yh]
    split
    · simp
    · simp only [List.length_cons];have:=RC (m:=m) (room:=room) (sz:=sz) (x:=x) (s:=r);omega
theorem ZeY {room:Int} {qd:List Int} {s:Us} (h:FFOk m room sz qd s) (x0:0<=x) (x1:x<m) (hx:0<=sz x) (hr:sz x<=room):FFOk m room sz (qd++ [x]) (Yh m room sz x s):=by
  have hl:x.toNat<(lst m fun _=>(0:Int)).length:=by rw [YY];omega
  refine⟨fun b hb=> ?_,ZaV hx h.pr,?_,fun g=> ?_,?_,fun b hb=> ?_⟩
  · rcases W8 b hb with hb|⟨c,hc,hs,e⟩|⟨e,_⟩
    · exact h.ok b hb
    · obtain⟨h1,h2,h3⟩:=h.ok c hc
      rw [e]
      refine⟨by simp [incr1,h1],?_,by dsimp only;omega⟩
      rw [WY sz x0 (by omega)];dsimp only;omega
    · rw [e]
      refine⟨by simp [incr1,YY],?_,by dsimp only;omega⟩
      rw [WY sz x0 hl,Rb];dsimp only;omega
  · rw [RA (fun b=>room-b.2) (sz x) (fun c hc=>by dsimp only;omega) (by dsimp only;omega),h.mt];simp
  · have key:∀{s:Us},(∀b∈s,b.1.length=m.toNat)->((Yh m room sz x s).map fun b=>Wn g b.1).sum=(s.map fun b=>Wn g b.1).sum+g x:=by
      intro s hs
      induction s with
      |nil=>simp [Yh,WY g x0 hl,Rb]
      | cons c r ih=>
        rw [Yh]
        split
        · simp only [List.map_cons,List.sum_cons]
          rw [WY g x0 (by rw [hs c (by simp)];omega)];omega
        · simp only [List.map_cons,List.sum_cons,ih fun b hb=>hs b (by simp [hb])];omega
    rw [key fun b hb=>(h.ok b hb).1,h.ct];simp
  · have:=RC (m:=m) (room:=room) (sz:=sz) (x:=x) (s:=s);have:=h.ln;simp;omega
  · rcases W8 b hb with hb|⟨c,hc,hs,e⟩|⟨e,_⟩
    · exact h.nn b hb
    · rw [e];exact ZaO (h.nn c hc)
    · rw [e];exact ZaO fun v hv=>by
        unfold lst at hv;simp at hv;omega
theorem ZeX{room:Int}:∀{l:List Int},(∀x∈l,0<=x/\x<m/\0<=sz x/\sz x<=room)->FFOk m room sz l (YT m room sz l):=by
  intro l
  have key:∀(l h:List Int) (s:Us),FFOk m room sz h s->(∀x∈l,0<=x/\x<m/\0<=sz x/\sz x<=room)->FFOk m room sz (h++l) (l.foldl (fun s x=>Yh m room sz x s) s):=by
    intro l
    induction l with
    |nil=>intro h s hs _;simpa using hs
    | cons x l ih=>
      intro h s hs hl
      obtain⟨h1,h2,h3,h4⟩:=hl x (by simp)
      have:=ih (h++ [x]) _ (ZeY hs h1 h2 h3 h4) fun y hy=>hl y (by simp [hy])
      simpa using this
  intro hl
  have:=key l [] [] (.nil _ _ _) hl
  simpa [YT] using this
theorem Zco{d:Int->Int}:∀{n:Nat},∀x∈pcs d n,0<=x/\x<n
  |0,x,h=>by simp [pcs] at h
  | n+1,x,h=>by
    rw [pcs] at h
    rcases List.mem_append.1 h with h|h
    · have:=Zco x h;omega
    · have:=(List.mem_replicate.1 h).2;omega
def TR(s:Us):Us:=s.map fun b=>(b.1,1)
theorem V8(f:List Int->Int):∀s:Us,wsum f (TR s)=(s.map fun b=>f b.1).sum
  | []=>rfl
  | b::r=>by
    have:=V8 f r
    unfold TR at this⊢
    simp only [List.map_cons,wsum,List.sum_cons,this];omega
end Go.Proofs.Gw
namespace Go.Proofs.YtkichmnjjblodaaGreat
open Go Go.RowKit Go.Proofs.Gw
variable {vD:Value}
theorem ZkK:Zc Tryz.prog 157=true:=by kernel_rfl
theorem ZhN{vL:Value}{p:Prob}(w0:World)(h:PAt w0 vL vD p)(hok:p.Ok):
    Calls Tryz.prog 157 [.agg #[vL,vD,.int .i64 p.stock,.int .i64 p.kerf]].toArray w0 fun e w=>∃v,e= .returned v/\v= .int .i64 (psum (fun _=>1) p.D p.m.toNat)/\Sat w0 w []:=by
  have hm:=h.L.slh.n0;have hm1:=h.L.slh.n1;have hd:=h.D.slh.n0;have hd1:=h.D.slh.n1;have hs:=h.is;have hk:=h.ik
  have hpd:=hok.d;have qz:=hok.m2
  refine zenG Tryz.func157 Tryz.ntmps157 fun w hS=> ?_
  refine zsr<|zla (xbx (cs:= [_,_,_,_]) hS) ?_;rintro _ w ⟨g1,rfl,hS⟩
  refine(zP)<|zlz<|(zP)<|zx5<|(zV (xfb 1 fd_32_1))<|(zV (xlb 0 pl_22 hS))<|(zV (xln Zb h.D.slh))<|(zP)<|zx6<|zlp (fun mm M w=>∃(s:Int) (i:Int),mm=((p.d-i).toNat)/\(0<=i)/\(i<=p.d)/\(s=psum (fun _=>1) p.D i.toNat)/\(0<=s/\s<=1000000*i)/\M= [(2,.int .i64 0),(3,.int .i64 s),(7,vD),(8,.int .i64 p.d),(9,.int .i64 i)]/\Sat w0 w [.blk g1 [vL,vD,.int .i64 p.stock,.int .i64 p.kerf]]) ⟨0,0,rfl,(by omega),(by omega),?_,(by omega),rfl,hS⟩ ?_
  ·
   rfl
  clear hS w
  rintro mm M w ⟨s,i,rfl,h0,h1,hs9,hsb,rfl,hS⟩
  refine zsr<|(zP)<|zx7<|Ze ?_ ?_<;>intro hc
  ·
   refine zx3<|(zV (xix (kk:=i) Zb h.D.slh))<|zlv (xlr (u:= .int .i64 (p.D i)) pl_3 (h.D.below hS.below)) ?_
   have hbv:=h.iD i
   have he:=hok.all i h0 (by omega);unfold Prob.each at he
   refine(zP)<|zlt<|zrg<|(zP)<|(zP)<|(zV (Zh (r:=s+p.D i)))<|(zP)<|zx10<|(zV (Zh (r:=i+1)))<|(zP)<|zln<|zlq ⟨s+p.D i,i+1,rfl,(by omega),(by omega),?_,(by omega),rfl,hS⟩
   ·
    rw [YG _ _ h0,<-hs9];omega
  refine zx8<|(zP)<|(zP)<|zx1<|zf1 ⟨_,rfl,?_⟩
  obtain rfl:p.m=i:=by omega
  rw [<-hs9]
  exact⟨rfl,hS.nl⟩
def ZgD(p:Prob)(e:Int):Prop:=(¬p.Ok/\e=1)\/(p.Ok/\1000<psum (fun _=>1) p.D p.m.toNat/\e=9)\/(p.Ok/\psum (fun _=>1) p.D p.m.toNat<=1000/\e=0)
theorem Zc3{vL:Value}{p:Prob}(w0:World)(h:PAt w0 vL vD p):
    Calls Tryz.prog 122 [.agg #[vL,vD,.int .i64 p.stock,.int .i64 p.kerf]].toArray w0 fun e w=>∃v,e= .returned v/\∃e:Int,v= .int .i64 e/\ZgD p e/\Sat w0 w []:=by
  have hm:=h.L.slh.n0;have hm1:=h.L.slh.n1;have hd:=h.D.slh.n0;have hd1:=h.D.slh.n1;have hs:=h.is;have hk:=h.ik
  refine zenG Tryz.func122 Tryz.ntmps122 fun w hS=> ?_
  refine zsr<|zla (xbx (cs:= [_,_,_,_]) hS) ?_;rintro _ w ⟨g1,rfl,hS⟩
  refine(zP)<|zlt<|zsq<|zbk<|zsr<|(zV (xls 0 st_32 hS))<|zlc (xc0 XK) (Yc (p:=p) w (h.below hS.below)) ?_;rintro _ w ⟨rfl,hS'⟩
  replace hS:=hS.cmp hS';clear hS'
  refine(zP)<|(zP)<|zlt<|Ze ?_ ?_<;>intro hc
  ·
   refine zsr<|(zP)<|XC<|zf1 ⟨_,rfl,?_⟩
   exact⟨1,rfl,.inl ⟨‹¬p.Ok›,rfl⟩,hS.nl⟩
  refine zsr<|zlv (xls 0 st_32 hS) ?_
  have xE:p.Ok:=by first|assumption|exact Classical.not_not.1 ‹_›
  refine zlc (xc0 ZkK) (ZhN (p:=p) w (h.below hS.below) xE) ?_;rintro _ w ⟨rfl,hS'⟩
  replace hS:=hS.cmp hS';clear hS'
  refine(zP)<|(zP)<|zlt<|Ze ?_ ?_<;>intro hc
  ·
   refine zsr<|(zP)<|XC<|zf1 ⟨_,rfl,?_⟩
   exact⟨9,rfl,.inr (.inl ⟨xE,by omega,rfl⟩),hS.nl⟩
  refine zsk<|zbn<|ztn<|zsr<|(zP)<|zx1<|zf1 ⟨_,rfl,?_⟩
  exact⟨0,rfl,.inr (.inr ⟨xE,by omega,rfl⟩),hS.nl⟩
theorem ZfZ{vL:Value}{p:Prob}(w0:World)(h:PAt w0 vL vD p):
    Calls Tryz.prog 158 [.agg #[vL,vD,.int .i64 p.stock,.int .i64 p.kerf]].toArray w0 fun e w=>∃v,e= .returned v/\∃g,v= .func (.func 182) #[] #[.pointer (some ⟨g,0,none⟩)]/\Sat w0 w [.blk g [vL,vD,.int .i64 p.stock,.int .i64 p.kerf]]:=by
  refine zenG Tryz.func158 Tryz.ntmps158 fun w hS=> ?_
  refine zsr<|zla (xbx (cs:= [_,_,_,_]) hS) ?_;rintro _ w ⟨g1,rfl,hS⟩
  refine(zP)<|zlz<|(zV xmf)<|(zP)<|zx1<|zf1 ⟨_,rfl,?_⟩
  exact⟨_,rfl,hS⟩
theorem ZdP{vL:Value}{p:Prob}{gp:Nat}{St:Type}(qd:St->List Int)(Inv:St->Prop)(s0:St)(hs0:qd s0= [])(hI0:Inv s0)(w0:World)(h:PAt w0 vL vD p)(hok:p.Ok):ItC (St:=St) (X:=Int) (Tt:=Unit) Tryz.prog w0 182 [.pointer (some ⟨gp,0,none⟩)] [.blk gp [vL,vD,.int .i64 p.stock,.int .i64 p.kerf]] (fun x=> [.int .i64 x]) (fun s x rest=>Inv s/\∃c,0<=x/\x<p.m/\0<=c/\c<p.D x/\qd s=pcsTo p.D x c) (fun s x s1=>qd s1=qd s++ [x]/\Inv s1) (fun _ _ _=>False) (s0) (fun s rest=>Inv s/\qd s=pcsTo p.D p.m 0) (fun _ _=>False):=by
  intro l C D w hS hY
  have hm:=h.L.slh.n0;have hm1:=h.L.slh.n1;have hd:=h.D.slh.n0;have hd1:=h.D.slh.n1;have hs:=h.is;have hk:=h.ik
  have hpd:=hok.d;have qz:=hok.m2
  refine ZeI Tryz.func182 Tryz.ntmps182 ?_
  refine hsq<|hrz ?_
  refine zlv (xfb 1 fd_32_1) ?_
  refine zlv (xlb 1 pl_22 hS) ?_
  refine zlv (xln Zb h.D.slh) ?_
  refine zlv xmv ?_
  refine zln<|zh<|htn<|hbk<|hlp (fun mm M w=>∃(s:St) (i:Int),mm=((p.d-i).toNat)/\(0<=i)/\(i<=p.d)/\(Inv s)/\(qd s=pcsTo p.D i 0)/\M= [(0,.func (.yield l) #[] #[]),(6,vD),(7,.int .i64 p.d),(8,.int .i64 i)]/\Sat w0 w [.sem (C s),.blk gp [vL,vD,.int .i64 p.stock,.int .i64 p.kerf]]) ⟨s0,0,rfl,(by omega),(by omega),?_,?_,rfl,hS⟩ ?_
  ·
   exact hI0
  ·
   exact hs0
  clear hS w
  rintro mm M w ⟨s,i,rfl,h0,h1,hI,hh,rfl,hS⟩
  refine hsq<|hrz ?_
  refine zlv Z4 ?_
  refine zln<|zh<|htn<|hsq ?_
  refine YZ ?_ ?_<;>intro hc
  ·
   refine hsk<|htn<|hsq<|hbk<|hsq<|hrz ?_
   refine zlv xmv ?_
   refine zlv (xix (kk:=i) Zb h.D.slh) ?_
   refine zlv (xlr (u:= .int .i64 (p.D i)) pl_3 (h.D.below hS.below)) ?_
   have hbv:=h.iD i
   have he:=hok.all i h0 (by omega);unfold Prob.each at he
   refine zs2 ?_
   refine zln<|zh<|htn<|hsq<|hrz ?_
   refine zs2 ?_
   refine zln<|zh<|htn<|hbk<|hlp (fun mm M w=>∃(s2:St) (c:Int),mm=((p.D i-c).toNat)/\(0<=c)/\(c<=p.D i)/\(Inv s2)/\(qd s2=pcsTo p.D i c)/\M= [(0,.func (.yield l) #[] #[]),(3,.int .i64 i),(6,vD),(7,.int .i64 p.d),(8,.int .i64 i),(13,.int .i64 (p.D i)),(14,.int .i64 c)]/\Sat w0 w [.sem (C s2),.blk gp [vL,vD,.int .i64 p.stock,.int .i64 p.kerf]]) ⟨s,0,rfl,(by omega),(by omega),?_,?_,rfl,hS⟩ ?_
   ·
    exact hI
   ·
    exact hh
   clear hS w
   rintro mm M w ⟨s2,c,rfl,c0,c1,hI2,hh2,rfl,hS⟩
   refine hsq<|hrz ?_
   refine zlv Z4 ?_
   refine zln<|zh<|htn<|hsq ?_
   refine YZ ?_ ?_<;>intro hc
   ·
    refine hsk<|htn<|hsq<|hbk<|hsq<|hrg ?_
    iterate 2 refine hlv xmv ?_
    refine hly (hY s2 i _ w ⟨hI2,c,h0,by omega,c0,by omega,hh2⟩ (Sat.bundle (l1:= [_,_]) (l2:= []) hS)) ?_;rintro _ w (⟨rfl,sy1,qu,hS⟩|⟨rfl,ty1,xd,hS⟩)
    ·
     replace hS:=Sat.unbundle (l1:= [_,_]) (l3:= []) hS
     replace hS:=hS.n2
     refine hlv xnt ?_
     refine hln<|htn<|hcf<|hsk<|zbn<|htn<|hrz ?_
     refine zlv (Zh (r:=c+1)) ?_
     refine zlv xmv ?_
     refine zln<|zh<|hlq ⟨sy1,c+1,rfl,(by omega),(by omega),?_,?_,rfl,hS⟩
     ·
      exact qu.2
     ·
      rw [qu.1,hh2,<-ZbC _ c0]
    ·
     replace hS:=Sat.unbundle (l1:= [_,_]) (l3:= []) hS
     replace hS:=hS.n2
     refine hlv xnf ?_
     refine hln<|htn<|hct<|hrt<|zbr<|ztr<|ztr<|zbr<|zbr<|ztr<|ztr<|zbr<|zf0 ⟨_,rfl,?_⟩
     exact xd.elim
   refine hxt<|ztx<|ztx<|zbh<|zbn<|htn<|hrz ?_
   refine zlv (Zh (r:=i+1)) ?_
   refine zlv xmv ?_
   refine zln<|zh<|hlq ⟨s2,i+1,rfl,(by omega),(by omega),?_,?_,rfl,hS⟩
   ·
    exact hI2
   ·
    rw [ZbD _ h0 (c:=c) (by omega)];exact hh2
  refine hxt<|ztx<|ztx<|zbh<|XD ⟨_,rfl,?_⟩
  exact .inl ⟨s,_,⟨hI,by rw [hh,show i=p.m by omega]⟩,Sat.bundle (l1:= [_,_]) (l2:= []) hS⟩
end Go.Proofs.YtkichmnjjblodaaGreat
namespace Go.Proofs.YtkichmnjjblodaaGreat
open Go Go.RowKit Go.Proofs.Gw
variable {m x:Int} {sz:Int->Int}
theorem Ti{d:Int->Int}{i c:Int}(hd:∀k,0<=k->k<m->0<=d k)(i0:0<=i)(i1:i<=m)(c0:0<=c)(c1:i<m->c<=d i)(c2:i=m->c=0):(∀x∈pcsTo d i c,0<=x/\x<m)/\((pcsTo d i c).length:Int)<=psum (fun _=>1) d m.toNat:=by
  constructor
  · intro x hx
    unfold pcsTo at hx
    rcases List.mem_append.1 hx with h|h
    · have:=Zco x h;omega
    · have h1:=List.mem_replicate.1 h
      have h2:=h1.2
      rcases Int.lt_or_eq_of_le i1 with h3|h3
      · omega
      · have:=c2 h3;have:=h1.1;omega
  · rw [Zdq d i0 c0 fun k k0 k1=>hd k k0 (by omega)]
    rcases Int.lt_or_eq_of_le i1 with h3|h3
    · have h4:=c1 h3
      have h5:=YG (fun _=>1) d i0
      have h6:=W0 (d:=d) (f:=fun _=>1) (i:=(i+1).toNat) (n:=m.toNat) (by omega) fun k hk=>by have:=hd k (by omega) (by omega);omega
      rw [h5] at h6;omega
    · have:=c2 h3;rw [h3];omega
theorem Km {p:List Int} (hp:∀v∈p,0<=v) (hs:∀k:Nat,k<p.length->1<=sz k) {j:Nat} (hj:j<p.length):p.getD j 0<=Wn sz p:=by
  have key:∀(l:List Nat) (f:Nat->Int),(∀k∈l,0<=f k)->∀j∈l,f j<=(l.map f).sum:=by
    intro l f
    induction l with
    |nil=>intro _ j h;simp at h
    | cons a l ih=>
      intro h0 j h
      have h1:0<=(l.map f).sum:=by
        clear ih h
        induction l with
        |nil=>simp
        |cons b l ih2=>rw [List.map_cons,List.sum_cons];have:=h0 b (by simp);have:=ih2 (fun k hk=>h0 k (by rcases List.mem_cons.1 hk with h|h<;>simp [h]));omega
      rw [List.map_cons,List.sum_cons]
      rcases List.mem_cons.1 h with e|e
      · rw [e];omega
      · have:=ih (fun k hk=>h0 k (by simp [hk])) j e;have:=h0 a (by simp);omega
  have nn:∀k:Nat,k<p.length->0<=p.getD k 0:=fun k hk=>by
    rw [List.getD_eq_getElem?_getD,List.getElem?_eq_getElem hk]
    exact hp _ (List.getElem_mem hk)
  have h1:=key (List.range p.length) (fun k=>p.getD k 0*sz k) (fun k hk=>by
    have hk:=List.mem_range.1 hk
    exact Int.mul_nonneg (nn k hk) (by have:=hs k hk;omega)) j (List.mem_range.2 hj)
  have h2:=nn j hj
  have h3:=hs j hj
  have h4:=Int.mul_le_mul_of_nonneg_left h3 h2
  exact Int.le_trans (show p.getD j 0<=p.getD j 0*sz j by omega) h1
structure FSt where
  h:List Int
  vB:Value
  n:Int
  vv:Int->Value
  P:Int->Int->Int
  vL:Value
  L:Int->Int
abbrev szP(p:Prob):Int->Int:=fun k=>p.L k+p.kerf
def FInv(p:Prob)(s:FSt):Prop:=plL s.n (fun _=>p.m) s.P s.L=YT p.m (p.stock+p.kerf) (szP p) s.h/\Slh s.vB s.n/\Slh s.vL s.n
def FSt.zer:FSt:=⟨[],.slice none 0 0,0,fun _=> .slice none 0 0,fun _ _=>0,.slice none 0 0,fun _=>0⟩
theorem FInv.zer(p:Prob):FInv p FSt.zer:=⟨rfl,slh_nil,slh_nil⟩
theorem Zbx{p:Prob}(hok:p.Ok)(x0:0<=x)(x1:x<p.m):1<=szP p x/\szP p x<=p.stock+p.kerf:=by
  have he:=hok.all x x0 x1
  unfold Prob.each at he
  have:=hok.k1
  unfold szP;omega
theorem ZcF{p:Prob}(hok:p.Ok){l:List Int}(hm:∀x∈l,0<=x/\x<p.m):FFOk p.m (p.stock+p.kerf) (szP p) l (YT p.m (p.stock+p.kerf) (szP p) l):=
  ZeX fun x hx=>by
    have h1:=hm x hx
    have h2:=Zbx hok h1.1 h1.2
    exact⟨h1.1,h1.2,by omega,h2.2⟩
theorem FInv.rng{p:Prob}{s:FSt}(hok:p.Ok)(h:FInv p s)(hm:∀x∈s.h,0<=x/\x<p.m)(hl:(s.h.length:Int)<=1000):s.n<=1000/\∀k,0<=k->k<s.n->(0<=s.L k/\s.L k<=p.stock+p.kerf)/\∀j,0<=j->j<p.m->0<=s.P k j/\s.P k j<=p.stock+p.kerf:=by
  have hk:=ZcF hok hm
  rw [<-h.1] at hk
  have h1:=hk.ln
  rw [plL_len] at h1
  refine⟨by omega,fun k k0 k1=> ?_⟩
  have hb:(lst p.m (s.P k),s.L k)∈plL s.n (fun _=>p.m) s.P s.L:=List.mem_iff_getElem?.2 ⟨k.toNat,by rw [plL_get,Int.toNat_of_nonneg k0,if_pos k1]⟩
  obtain⟨h2,h3,h4⟩:=hk.ok _ hb
  have h5:=hk.nn _ hb
  dsimp only at h2 h3 h4 h5
  have hg:∀j,0<=j->j<p.m->(lst p.m (s.P k)).getD j.toNat 0=s.P k j:=fun j j0 j1=>by rw [List.getD_eq_getElem?_getD,lst_get,Int.toNat_of_nonneg j0,if_pos j1];rfl
  have h8:∀j:Nat,j<(lst p.m (s.P k)).length->1<=szP p j:=fun j hj=>by
    rw [YY] at hj
    exact(Zbx hok (by omega) (by omega)).1
  have h9:0<=Wn (szP p) (lst p.m (s.P k)):=by
    have hm1:=hok.m1
    have h10:=Km h5 h8 (j:=0) (by rw [YY];omega)
    have h11:=hg 0 (by omega) (by omega)
    have h12:=h5 (s.P k 0) (by
      have:=lst_get p.m (s.P k) 0
      rw [if_pos (by omega)] at this
      exact List.mem_of_getElem? this)
    rw [show(0:Int).toNat=0 from rfl] at h11
    omega
  refine⟨⟨h4,by omega⟩,fun j j0 j1=> ?_⟩
  have h6:=Km h5 h8 (j:=j.toNat) (by rw [YY];omega)
  rw [hg j j0 j1] at h6
  have h7:=h5 (s.P k j) (by
    have:=lst_get p.m (s.P k) j.toNat
    rw [Int.toNat_of_nonneg j0,if_pos j1] at this
    exact List.mem_of_getElem? this)
  exact⟨h7,by omega⟩
theorem ZeW{n room r y:Int}{L:Int->Int}{P:Int->Int->Int}(n0:0<=n)(x0:0<=x)(r0:0<=r)(r1:r<n)(h:sz x<=L r)(hf:∀j,0<=j->j<r->¬(sz x<=L j))(hy:y=L r-sz x):
    plL n (fun _=>m) (upd P r (upd (P r) x (P r x+1))) (upd L r y)=Yh m room sz x (plL n (fun _=>m) P L):=
  Zmk n0 x0 r0 r1 h (fun j j0 j1=>by have:=hf j j0 j1;omega) (fun a a0 a1 b b0 b1=>by
    unfold upd
    by_cases ha:a=r
    · subst ha
      by_cases hb:b=x
      · subst hb;simp
      · simp [hb]
    · simp [ha]) (fun a a0 a1=>by
    unfold upd
    by_cases ha:a=r
    · subst ha;simp [hy]
    · simp [ha])
theorem ZcE{n room y:Int}{L:Int->Int}{P:Int->Int->Int}(n0:0<=n)(x0:0<=x)(hf:∀j,0<=j->j<n->¬(sz x<=L j))(hy:y=snoc L n room n-sz x):
    plL (n+1) (fun _=>m) (upd (gsn P n (fun _=>0)) n (upd (gsn P n (fun _=>0) n) x (gsn P n (fun _=>0) n x+1))) (upd (snoc L n room) n y)=Yh m room sz x (plL n (fun _=>m) P L):=by
  have e1:gsn P n (fun _=>0) n=fun _=>0:=ZL (by omega)
  have e2:snoc L n room n=room:=ZB (by omega)
  rw [e2] at hy
  rw [e1]
  refine Zjl n0 x0 (fun j j0 j1=>by have:=hf j j0 j1;omega) (fun a a0 a1 b b0 b1=> ?_) (fun b b0 b1=> ?_) (fun a a0 a1=> ?_) ?_
  · unfold upd;rw [if_neg (by omega),Zv a1]
  · unfold upd;rw [if_pos rfl]
    by_cases hb:b=x
    · simp [hb]
    · simp [hb]
  · unfold upd;rw [if_neg (by omega),ZA a1]
  · unfold upd;rw [if_pos rfl];exact hy
theorem Zet(n:Int)(ln:Int->Int)(pt:Int->Int->Int)(cnt:Int->Int):TR (plL n ln pt cnt)=plL n ln pt (fun _=>1):=by
  unfold TR plL
  rw [List.map_map];rfl
theorem Rx{α:Type}(a:α)(n:Int):gsn (fun _=>a) n a=fun _=>a:=by
  funext k;unfold gsn;split<;>rfl
end Go.Proofs.YtkichmnjjblodaaGreat
namespace Go.Proofs.YtkichmnjjblodaaGreat
open Go Go.RowKit Go.Proofs.Gw
theorem ZkI:Zc Tryz.prog 160=true:=by kernel_rfl
theorem Zna{x m:Int}{a1:Addr}(w0:World)(hp1:w0.cell? a1=some (.int .i64 m)):
    Calls Tryz.prog 160 [.int .i64 x,.pointer (some a1)].toArray w0 fun e w=>∃v,e= .returned v/\v=B (m<=x)/\Sat w0 w []:=by
  refine zenG Tryz.func160 Tryz.ntmps160 fun w hS=> ?_
  refine zsr<|(zP)<|zlz<|(zP)<|(zV (xlf pl_3 hp1 hS))<|(zP)<|(zP)<|zx1<|zf1 ⟨_,rfl,?_⟩
  exact⟨Zm (by omega),hS⟩
theorem ZlA{v:Value}{n m:Int}{f:Int->Int}{a1:Addr}(w0:World)(hR:Row w0 v 1 n (ints f))(hp1:w0.cell? a1=some (.int .i64 m)):
    Calls Tryz.prog 159 [v,.func (.func 160) #[] #[.pointer (some a1)]].toArray w0 fun e w=>∃v,e= .returned v/\∃r:Int,v= .int .i64 r/\((r= -1/\∀k,0<=k->k<n->¬(m<=f k))\/(0<=r/\r<n/\(m<=f r)/\∀k,0<=k->k<r->¬(m<=f k)))/\Sat w0 w []:=by
  have hn:=hR.slh.n0;have hn1:=hR.slh.n1
  refine zenG Tryz.func159 Tryz.ntmps159 fun w hS=> ?_
  refine zsr<|(zP)<|zx5<|(zP)<|(zV (xln Zb hR.slh))<|(zP)<|zx6<|zlp (fun mm M w=>∃(i:Int),mm=((n-i).toNat)/\(0<=i)/\(i<=n)/\(∀k,0<=k->k<i->¬(m<=f k))/\M= [(0,v),(1,.func (.func 160) #[] #[.pointer (some a1)]),(7,.int .i64 n),(8,.int .i64 i)]/\Sat w0 w []) ⟨0,rfl,(by omega),(by omega),?_,rfl,hS⟩ ?_
  ·
   intro k h0 h1;omega
  clear hS w
  rintro mm M w ⟨i,rfl,h0,h1,qa,rfl,hS⟩
  refine zsr<|(zP)<|zx7<|Ze ?_ ?_<;>intro hc
  ·
   refine zx3<|(zP)<|(zP)<|zlz<|(zP)<|(zP)<|(zP)<|(zV (xix (kk:=i) Zb hR.slh))<|(zV (xlr (u:= .int .i64 (f i)) pl_3 (hR.below hS.below)))<|zlc (xcc (vs:= [_]) ZkI) (Zna (x:=(f i)) (m:=m) w (hS.ref hp1)) ?_;rintro _ w ⟨rfl,hS'⟩
   replace hS:=hS.cmp hS';clear hS'
   refine zlt<|Ze ?_ ?_<;>intro hc
   ·
    refine zsr<|(zP)<|(zP)<|zx2<|zf1 ⟨_,rfl,?_⟩
    exact⟨i,rfl,.inr ⟨by omega,by omega,‹m<=f i›,qa⟩,hS⟩
   refine zx4<|(zV (Zh (r:=i+1)))<|(zP)<|zln<|zlq ⟨i+1,rfl,(by omega),(by omega),?_,rfl,hS⟩
   ·
    intro k h0' h1';rcases Int.lt_or_eq_of_le (show k<=i by omega) with hk|hk;exact qa k h0' hk;rw [hk];assumption
  refine zx8<|(zP)<|zx1<|zf1 ⟨_,rfl,?_⟩
  exact⟨-1,rfl,.inl ⟨rfl,fun k h0 h1=>qa k h0 (by omega)⟩,hS⟩
end Go.Proofs.YtkichmnjjblodaaGreat
namespace Go.Proofs.YtkichmnjjblodaaGreat
open Go Go.RowKit Go.Proofs.Gw
theorem ZkJ:Zc Tryz.prog 158=true:=by kernel_rfl
theorem Zku:Zc Tryz.prog 182=true:=by kernel_rfl
theorem ZcS:Zc Tryz.prog 67=true:=by kernel_rfl
theorem Ze6:ZY Tryz.prog 83=some (.slice none 0 0,1,24):=by kernel_rfl
theorem TK{vL vD:Value}{p:Prob}(w0:World)(h:PAt w0 vL vD p)(hok:p.Ok)(aA:psum (fun _=>1) p.D p.m.toNat<=1000):
    Calls Tryz.prog 123 [.agg #[vL,vD,.int .i64 p.stock,.int .i64 p.kerf]].toArray w0 fun e w=>∃v,e= .returned v/\∃r n2 pv2 ln2 pt2 qh,v=r/\NormR (TR (YT p.m (p.stock+p.kerf) (szP p) (pcsTo p.D p.m 0))) (plL n2 ln2 pt2 qh)/\0<=n2/\n2<=1000/\(∀k,0<=k->k<n2->1<=qh k/\qh k<=1000000)/\Slh r n2/\Sat w0 w [.own r 2 107 n2 (Zg pv2 qh),.sem (Frame.rows 3 n2 pv2 ln2 pt2)]:=by
  have hm:=h.L.slh.n0;have hm1:=h.L.slh.n1;have hd:=h.D.slh.n0;have hd1:=h.D.slh.n1;have hs:=h.is;have hk:=h.ik
  have hpd:=hok.d;have qz:=hok.m2;have zR:=hok.m1;have hs1:=hok.s1;have hs2:=hok.s2;have hk1:=hok.k1;have hk2:=hok.k2
  refine Zhg Tryz.func123 Tryz.ntmps123 fun w hS=> ?_
  refine hsq<|hrz ?_
  refine zla (xbx (cs:= [_,_,_,_]) hS) ?_;rintro _ w ⟨g1,rfl,hS⟩
  refine(zP)<|zln<|zh<|htn<|hsq<|hrz ?_
  refine zla (xal (cs:= [_]) Ze6 hS) ?_;rintro _ w ⟨g2,rfl,hS⟩
  refine zln<|zh<|htn<|hsq<|hrz ?_
  refine zla (xal (cs:= [_]) Z3 hS) ?_;rintro _ w ⟨g3,rfl,hS⟩
  refine zln<|zh<|htn<|hsq<|hsq<|hrz ?_
  refine(zV (xls 0 st_32 hS))<|zlc (xc0 ZkJ) (ZfZ (p:=p) w (h.below hS.below)) ?_;rintro _ w ⟨g4,rfl,hS'⟩
  replace hS:=(hS.comp hS').n4;clear hS'
  refine zln<|zh<|htn<|hbk ?_
  replace hS:=hS.addnil 1 22 (fun _=>Value.slice none 0 0)
  replace hS:=hS.addrows 3 (fun _=>Value.slice none 0 0) (fun _=>p.m) (fun _ _=>0)
  replace hS:=hS.addnil 1 3 (ints (fun _=>0))
  refine hrf (St:=FSt) (X:=Int) (Tt:=Unit) (fun s=> [.blk g1 [vL,vD,.int .i64 p.stock,.int .i64 p.kerf],.blk g2 [s.vB],.blk g3 [s.vL],.own s.vB 1 22 s.n s.vv,.sem (Frame.rows 3 s.n s.vv (fun _=>p.m) s.P),.own s.vL 1 3 s.n (ints s.L)]) (fun t=> []) (fun _=> .ret) FSt.zer (fun x M es=>M= [(0,.agg #[vL,vD,.int .i64 p.stock,.int .i64 p.kerf]),(1,.pointer (some ⟨g1,0,none⟩)),(2,.slice none 0 0),(3,.pointer (some ⟨g2,0,none⟩)),(4,.pointer (some ⟨g3,0,none⟩)),(11,.agg #[vL,vD,.int .i64 p.stock,.int .i64 p.kerf]),(12,.func (.func 182) #[] #[.pointer (some ⟨g4,0,none⟩)]),(13,.int .i64 x),(5,.int .i64 x)]/\es= []) (ZdP (gp:=g4) (fun s=>s.h) (FInv p) FSt.zer rfl (FInv.zer p) w0 h hok) (hS.pk [0,1,2,4,5,6,3]) Zku (fun _=>rfl) (fun _=> .inl rfl) ?_ ?_ ?_ ?_
  ·
   intro lq s x rest w qr qL hrr hS
   refine hrz ?_
   refine(zP)<|zln<|zh<|ZeJ ⟨rfl,rfl⟩ hS
  ·
   rintro lq s x _ _ rest w qr ⟨rfl,rfl⟩ qL hrr hS
   obtain⟨hIv,c,x0,x1,c0,c1,hh⟩:=qr
   have hlB:=hIv.2.1;have hlL:=hIv.2.2
   obtain⟨zn,xH⟩:=Ti (d:=p.D) (i:=x) (c:=c) (fun k k0 k1=>by have he:=hok.all k k0 k1;unfold Prob.each at he;omega) x0 (by omega) c0 (fun _=>by omega) (fun _=>by omega)
   rw [<-hh] at zn xH
   obtain⟨hn9,hrg⟩:=hIv.rng hok zn (by omega)
   have hex:=hok.all x x0 x1;unfold Prob.each at hex
   have hsn:=hlB.n0
   have hrB:=fun k (k0:0<=k) (k1:k<s.n)=>hS.slhIn 4 rfl k0 k1
   refine hbk<|hsq ?_
   refine hdst [0,1,2,3,4,5,6,7] [0,1,2,3,4,5,6,7] 9 mx_ hS ?_;clear hS;intro w hS
   refine(zDw 0 (xfb 0 fd_32_0))<|(zDl 1 (fun w hS=>(xlb 0 pl_22 hS)))<|(zDw 2 xmv)<|(zDw 3 (xix (kk:=x) Zb h.L.slh))<|zdla 4 (fun w hS=>(xlr (u:= .int .i64 (p.L x)) pl_3 (h.L.below hS.below))) ?_
   have hbv:=h.iL x
   refine(zDw 5 (xfb 3 fd_32_3))<|(zDl 6 (fun w hS=>(xlb 0 pl_3 hS)))<|(zDw 7 (Zh (r:=p.L x+p.kerf)))<|zda 8 (xal (cs:= [_]) Zt hS) ?_;rintro _ w ⟨g5,rfl,hS⟩
   refine⟨⟨fun _=>hS.pk [0,1,2,3,4,5,6,7],hS.pk [0,1,2,3,4,5,6,7]⟩,?_⟩
   refine zde 9 (xsb 8 pl_3 hS) ?_;clear hS;rintro w hS
   refine⟨⟨fun h=>absurd h (by decide),hS.pk [0,1,2,3,4,5,6,7]⟩,?_⟩
   refine zdd<|zh<|htn<|hsq<|hrz ?_
   refine(zV (xlb 2 pl_22 hS))<|(zV xmf)<|zlc (xc0 WO) (ZlA (n:=s.n) (m:=(p.L x+p.kerf)) (f:=s.L) w (hS.rowN 5 rfl) (hS.cellN 8 rfl rfl)) ?_;rintro _ w ⟨r1,rfl,hr1,hS'⟩
   replace hS:=hS.cmp hS';clear hS'
   have hrr:r1= -1\/(0<=r1/\r1<s.n):=by rcases hr1 with⟨h2,_⟩|⟨h2,h3,_⟩<;>omega
   have hbr:0<=r1->(0<=s.L r1/\s.L r1<=p.stock+p.kerf)/\0<=s.P r1 x/\s.P r1 x<=p.stock+p.kerf:=fun h=>by have h9:=hrg r1 h (by omega);exact⟨h9.1,h9.2 x x0 x1⟩
   refine(zP)<|zln<|zh<|htn<|hsq<|hsq<|hrz ?_
   refine(zP)<|(zP)<|zln<|zh<|htn ?_
   refine YZ ?_ ?_<;>intro hc
   ·
    refine hsq<|hrz ?_
    refine(zV (xlb 1 ZR hS))<|(zV (xln Zl hlB))<|(zP)<|zln<|zh<|htn<|hsq ?_
    refine hdst [0,1,2,6,7,8] [0,2,6,7,8] 7 mx_ hS ?_;clear hS;intro w hS
    refine zdl 0 (fun w hS=>(xlb 1 ZR hS)) ?_
    refine(zDw 1 (xfb 0 fd_32_0))<|(zDl 2 (fun w hS=>(xlb 0 pl_22 hS)))<|(zDw 3 (xln Zb h.L.slh))<|zda 4 (xmk Zb Zt hS) ?_;rintro v1 w ⟨hS,hv1⟩
    refine⟨⟨fun _=>hS.pk [0,1,2,6,7,8],hS.pk [0,2,6,7,8]⟩,?_⟩
    refine zda 5 (xli (n:=1) (len:=1) (pv:= [(0,v1)]) (cs:= [v1]) (c:=(fun _=>v1)) Zl Z3 hS (hf:=by obtain⟨_,_,_,_,rfl,_⟩:=hv1;kernel_rfl)) ?_;rintro v2 w ⟨hS,hv2⟩
    refine⟨⟨fun _=>hS.pk [0,1,2,6,7,8],hS.pk [0,2,6,7,8]⟩,?_⟩
    refine zda 6 (xap 3 (r:=s.n+1) Zl Z3 hS (hS.rowN 10 rfl) (Xu _ _ _) (h1:=fun _ _ _=>hv1.one)) ?_;rintro v3 w ⟨hS,hv3⟩
    replace hS:=Sat.merge (l1:= [_,_,_,_]) (l2:= [_,_,_,_]) (l3:= [_]) hS (by omega)
    have qW:=fun k (k0:0<=k) (k1:k<s.n+1)=>hS.slhIn 4 rfl k0 k1
    refine⟨⟨fun _=>hS.pk [0,1,2,6,7,8],hS.pk [0,2,6,7,8]⟩,?_⟩
    refine zde 7 (xsb 1 ZR hS (hv:=hv3.one)) ?_;clear hS;rintro w hS
    refine⟨⟨fun h=>absurd h (by decide),hS.pk [0,2,6,7,8]⟩,?_⟩
    refine zdd<|zh<|htn<|hrz ?_
    refine(zV (xlb 2 pl_22 hS))<|(zV (xfb 2 fd_32_2))<|(zV (xlb 0 pl_3 hS))<|(zV (xfb 3 fd_32_3))<|(zV (xlb 0 pl_3 hS))<|(zV (Zh (r:=p.stock+p.kerf)))<|zla (xli (n:=1) (len:=1) (pv:= [(0,.int .i64 (p.stock+p.kerf))]) (cs:= [.int .i64 (p.stock+p.kerf)]) (c:=ints (fun _=>p.stock+p.kerf)) Zb Zt hS) ?_;rintro v4 w ⟨hS,hv4⟩
    refine zla (xap 5 (r:=s.n+1) Zb Zt hS (hS.rowN 10 rfl) (Yv _ _ _)) ?_;rintro v5 w ⟨hS,hv5⟩
    rw [Rx] at hS qW
    have hz9:gsn s.P s.n (fun _=>0) s.n x=0:=by rw [ZL (by omega)]
    have hl9:snoc s.L s.n (p.stock+p.kerf) s.n=p.stock+p.kerf:=ZB (by omega)
    refine zle (xsb 2 pl_22 hS (hv:=hv5.one)) ?_;clear hS;rintro w hS
    refine zln<|zh<|htn<|hsq<|hrz ?_
    refine(zV (xlb 1 ZR hS))<|(zP)<|(zV (xix (kk:=s.n) Zl hv3))<|(zV (xlr (u:=((gsn s.vv s.n v1) s.n)) pl_22 (hS.rowN 3 rfl)))<|(zP)<|(zV (xix (kk:=x) Zb (qW s.n (by omega) (by omega))))<|(zV (xlr (u:= .int .i64 ((gsn s.P s.n (fun _=>0)) s.n x)) pl_3 (show Row _ _ 1 p.m _ from(hS.rowIn (k:=s.n) 4 rfl (by omega) (by omega)))))<|(zV (Zh (r:=((gsn s.P s.n (fun _=>0)) s.n x)+1)))<|(zV (xix (kk:=x) Zb (qW s.n (by omega) (by omega))))<|zle (xsr 4 pl_3 hS rfl) ?_;clear hS;rintro w hS
    refine zln<|zh<|htn ?_
    refine hdst [0,1,2,3,4,5,6,7,8,9,10] [0,1,2,3,4,6,7,8,9,10] 7 mx_ hS ?_;clear hS;intro w hS
    refine(zDl 0 (fun w hS=>(xlb 2 pl_22 hS)))<|(zDw 1 xmv)<|(zDw 2 (xix (kk:=s.n) Zb hv5))<|zdl 3 (fun w hS=>(xlr (u:= .int .i64 ((snoc s.L s.n (p.stock+p.kerf)) s.n)) pl_3 (hS.rowN 5 rfl))) ?_
    refine(zDl 4 (fun w hS=>(xlb 7 pl_3 hS)))<|(zDw 5 (Zp (r:=((snoc s.L s.n (p.stock+p.kerf)) s.n)-p.L x-p.kerf)))<|(zDw 6 (xix (kk:=s.n) Zb hv5))<|zde 7 (xso 5 pl_3 hS (Zq _ _ _)) ?_;clear hS;rintro w hS
    refine⟨⟨fun h=>absurd h (by decide),hS.pk [0,1,2,3,4,6,7,8,9,10]⟩,?_⟩
    refine zdd<|zh<|zbn<|ZbK ⟨s.h++ [x],v3,s.n+1,gsn s.vv s.n v1,upd (gsn s.P s.n (fun _=>0)) s.n (upd ((gsn s.P s.n (fun _=>0)) s.n) x (((gsn s.P s.n (fun _=>0)) s.n x)+1)),v5,(upd (snoc s.L s.n (p.stock+p.kerf)) s.n (((snoc s.L s.n (p.stock+p.kerf)) s.n)-p.L x-p.kerf))⟩ ⟨rfl,(by show plL _ _ _ _=YT _ _ _ (s.h++ [x]);rw [Tw,<-hIv.1];first|exact ZcE (sz:=szP p) hsn x0 (hr1.resolve_right (fun h=>by omega)).2 (by unfold szP;omega)|(have hr9:=hr1.resolve_left (fun h=>by omega);exact ZeW (sz:=szP p) hsn x0 hr9.1 hr9.2.1 hr9.2.2.1 hr9.2.2.2 (by unfold szP;omega))),hv3,hv5⟩ (hS.pk [0,1,2,3,4,5,6,7])
   refine hsk<|htn<|hsq<|hrz ?_
   refine(zV (xlb 1 ZR hS))<|(zP)<|(zV (xix (kk:=r1) Zl hlB))<|(zV (xlr (u:=(s.vv r1)) pl_22 (hS.rowN 3 rfl)))<|(zP)<|(zV (xix (kk:=x) Zb (hrB r1 (by omega) (by omega))))<|(zV (xlr (u:= .int .i64 (s.P r1 x)) pl_3 (show Row _ _ 1 p.m _ from(hS.rowIn (k:=r1) 4 rfl (by omega) (by omega)))))<|(zV (Zh (r:=(s.P r1 x)+1)))<|(zV (xix (kk:=x) Zb (hrB r1 (by omega) (by omega))))<|zle (xsr 4 pl_3 hS rfl) ?_;clear hS;rintro w hS
   refine zln<|zh<|htn ?_
   refine hdst [0,1,2,3,4,5,6,7,8] [0,1,2,3,4,6,7,8] 7 mx_ hS ?_;clear hS;intro w hS
   refine(zDl 0 (fun w hS=>(xlb 2 pl_22 hS)))<|(zDw 1 xmv)<|(zDw 2 (xix (kk:=r1) Zb hlL))<|zdl 3 (fun w hS=>(xlr (u:= .int .i64 (s.L r1)) pl_3 (hS.rowN 5 rfl))) ?_
   refine(zDl 4 (fun w hS=>(xlb 7 pl_3 hS)))<|(zDw 5 (Zp (r:=(s.L r1)-p.L x-p.kerf)))<|(zDw 6 (xix (kk:=r1) Zb hlL))<|zde 7 (xso 5 pl_3 hS (Zq _ _ _)) ?_;clear hS;rintro w hS
   refine⟨⟨fun h=>absurd h (by decide),hS.pk [0,1,2,3,4,6,7,8]⟩,?_⟩
   refine zdd<|zh<|zbn<|ZbK ⟨s.h++ [x],s.vB,s.n,s.vv,upd s.P r1 (upd (s.P r1) x ((s.P r1 x)+1)),s.vL,(upd s.L r1 ((s.L r1)-p.L x-p.kerf))⟩ ⟨rfl,(by show plL _ _ _ _=YT _ _ _ (s.h++ [x]);rw [Tw,<-hIv.1];first|exact ZcE (sz:=szP p) hsn x0 (hr1.resolve_right (fun h=>by omega)).2 (by unfold szP;omega)|(have hr9:=hr1.resolve_left (fun h=>by omega);exact ZeW (sz:=szP p) hsn x0 hr9.1 hr9.2.1 hr9.2.2.1 hr9.2.2.2 (by unfold szP;omega))),hlB,hlL⟩ (hS.pk [0,1,2,3,4,5,6,7])
  ·
   intro Dk s rest w qB hS
   obtain⟨hIv,hh⟩:=qB
   have hlB:=hIv.2.1;have hlL:=hIv.2.2
   obtain⟨zn,xH⟩:=Ti (d:=p.D) (i:=p.m) (c:=0) (fun k k0 k1=>by have he:=hok.all k k0 k1;unfold Prob.each at he;omega) (by omega) (by omega) (by omega) (fun h=>by omega) (fun _=>rfl)
   rw [<-hh] at zn xH
   obtain⟨hn9,hrg⟩:=hIv.rng hok zn (by omega)
   have hsn:=hlB.n0
   have hrB:=fun k (k0:0<=k) (k1:k<s.n)=>hS.slhIn 4 rfl k0 k1
   refine zbn<|htn<|hsq<|hrz ?_
   refine(zP)<|zln<|zh<|htn<|hsq<|hsq<|hrz ?_
   refine(zV (xlb 1 ZR hS))<|(zV (xln Zl hlB))<|(zP)<|zln<|zh<|htn<|hbk ?_
   replace hS:=hS.addnil 2 107 (Zg (fun _=>Value.slice none 0 0) (fun _=>0))
   refine hlp (fun mm M w=>∃(nC:Int) (wv:Int->Value) (cC:Int->Int) (i:Int) (wC:Value),mm=((s.n-i).toNat)/\(0<=i)/\(i<=s.n)/\(nC=i)/\(∀k,0<=k->k<i->wv k=s.vv k)/\(∀k,0<=k->k<i->cC k=1)/\(Slh wC nC)/\M= [(2,.slice none 0 0),(8,wC),(60,s.vB),(61,.int .i64 s.n),(62,.int .i64 i)]/\Sat w0 w [.blk g1 [vL,vD,.int .i64 p.stock,.int .i64 p.kerf],.blk g2 [s.vB],.blk g3 [s.vL],.own s.vB 1 22 s.n s.vv,.sem (Frame.rows 3 s.n s.vv (fun _=>p.m) s.P),.own s.vL 1 3 s.n (ints s.L),.blk g4 [vL,vD,.int .i64 p.stock,.int .i64 p.kerf],.sem rest,.sem (Frame.obj Dk (.deferred (some []))),.own wC 2 107 nC (Zg wv cC)]) ⟨0,(fun _=>Value.slice none 0 0),(fun _=>0),0,(.slice none 0 0),rfl,(by omega),(by omega),(by omega),?_,?_,?_,rfl,hS⟩ ?_
   ·
    intro k k0 k1;omega
   ·
    intro k k0 k1;omega
   ·
    exact slh_nil
   clear hS w
   rintro mm M w ⟨nC,wv,cC,i,wC,rfl,h0,h1,hnC,hwv,hcC,hwC,rfl,hS⟩
   refine hsq<|hrz ?_
   refine(zP)<|zln<|zh<|htn<|hsq ?_
   refine YZ ?_ ?_<;>intro hc
   ·
    refine hsk<|htn<|hsq<|hbk<|hsq<|hrz ?_
    refine(zV (xix (kk:=i) Zl hlB))<|(zV (xlr (u:=(s.vv i)) pl_22 (hS.rowN 3 rfl)))<|(zP)<|zln<|zh<|htn<|hrz ?_
    refine(zP)<|(zP)<|zlv (xany (v:= .agg #[(s.vv i),.int .i64 1]) (hr:=by have hz:=(hrB i (by omega) (by omega));revert hz;generalize (s.vv i)=z;rintro⟨_,_,_,_,rfl,_⟩;show _=_;kernel_rfl)) ?_
    refine zla (xli (n:=1) (len:=1) (pv:= [(0,.agg #[(s.vv i),.int .i64 1])]) (cs:= [(s.vv i),.int .i64 1]) (c:=Zg (fun _=>(s.vv i)) (fun _=>1)) ZO Yo hS (hf:=by have hz:=(hrB i (by omega) (by omega));revert hz;generalize (s.vv i)=z;rintro⟨_,_,_,_,rfl,_⟩;show _=_;kernel_rfl)) ?_;rintro v6 w ⟨hS,hv6⟩
    refine zla (xap 9 (r:=nC+1) ZO Yo hS (hS.rowN 10 rfl) (YQ _ _ _ _ _) (h1:=fun k _ _=>YP (fun _=>(hrB i (by omega) (by omega)).one) k)) ?_;rintro v7 w ⟨hS,hv7⟩
    refine(zP)<|zln<|zh<|zbn<|htn<|hrz ?_
    refine(zV (Zh (r:=i+1)))<|(zP)<|zln<|zh<|hlq ⟨nC+1,(gsn wv nC (s.vv i)),(snoc cC nC 1),i+1,v7,rfl,(by omega),(by omega),(by omega),?_,?_,?_,rfl,hS.pk [0,1,2,3,4,5,6,7,8,9]⟩
    ·
     intro k k0 k1;by_cases e:k<nC
     · rw [Zv e];exact hwv k k0 (by omega)
     · rw [ZL e,show k=i by omega]
    ·
     intro k k0 k1;by_cases e:k<nC
     · rw [ZA e];exact hcC k k0 (by omega)
     · rw [ZB e]
    ·
     exact hv7
   refine hxt<|ztx<|ztx<|zbh<|htn<|hsq<|hrz ?_
   refine zlv xmv ?_
   have hiN:i=s.n:=by omega
   have hnN:nC=s.n:=by omega
   subst hnN
   replace hS:=hS.recont 9 rfl (d:=Zg s.vv (fun _=>1)) (fun k k0 k1=>by unfold Zg;rw [hwv _ (by omega) (by omega),hcC _ (by omega) (by omega)])
   refine zlc (xc0 ZcS) (KP (u:=s.n) (pv:=s.vv) (ln:=(fun _=>p.m)) (pt:=s.P) (cnt:=(fun _=>1)) w (⟨(hS.rowN 9 rfl),fun k k0 k1=>hS.rowIn 4 rfl k0 k1,fun k k0 k1=>hS.roomIn 4 rfl k0 k1⟩:VAt _ wC s.n s.vv (fun _=>p.m) s.P (fun _=>1)) (by omega) (fun k k0 k1=>by omega) (fun k k0 k1=>by omega)) ?_;rintro xL w ⟨_,qH,xx,x8,yd,xI,rfl,xo,xt,yD,x7,xN,hS'⟩
   replace hS:=(hS.comp hS').n12;clear hS'
   have yq:=fun k (k0:0<=k) (k1:k<qH)=>hS.slhIn 11 rfl k0 k1
   refine(zP)<|zln<|zh<|htn<|hrt<|ZbL 8 hS fun w hS=>zf1 ⟨_,rfl,?_⟩
   exact⟨_,_,_,_,_,_,rfl,(by rw [<-hh,<-hIv.1,Zet];exact xo),xt,by omega,fun k k0 k1=>by have:=x7 k k0 k1;omega,xN,hS.pk [10,11]⟩
  ·
   intro Dk t rest w qB hS
   exact qB.elim
end Go.Proofs.YtkichmnjjblodaaGreat
namespace Go.Proofs.YtkichmnjjblodaaGreat
open Go Go.RowKit Go.Proofs.Gw
theorem wsum_plL(f:List Int->Int){ln:Int->Int}{pt:Int->Int->Int}{cnt:Int->Int}:∀n:Nat,wsum f (plL (n:Int) ln pt cnt)=psum (fun k=>f (lst (ln k) (pt k))) cnt n
  |0=>rfl
  | n+1=>by
    rw [show((n+1:Nat):Int)=(n:Int)+1 by omega,X9 (by omega),WF,wsum_plL f n]
    simp only [wsum,psum];omega
theorem Ya(f:List Int->Int){n:Int}{ln:Int->Int}{pt:Int->Int->Int}{cnt:Int->Int}(n0:0<=n):wsum f (plL n ln pt cnt)=psum (fun k=>f (lst (ln k) (pt k))) cnt n.toNat:=by
  have:=wsum_plL f (ln:=ln) (pt:=pt) (cnt:=cnt) n.toNat
  rwa [Int.toNat_of_nonneg n0] at this
theorem sum_range(f:Nat->Int):∀n:Nat,((List.range (n+1)).map f).sum=((List.range n).map f).sum+f n:=fun n=>by
  rw [List.range_succ,List.map_append,List.sum_append];simp
theorem Zen(sz:Int->Int)(f:Int->Int):∀n:Nat,Wn sz (lst (n:Int) f)=psum sz f n:=fun n=>by
  have key:∀j:Nat,j<=n->((List.range j).map fun(k:Nat)=>(lst (n:Int) f).getD k 0*sz k).sum=psum sz f j:=by
    intro j
    induction j with
    |zero=>intro _;rfl
    | succ j ih=>
      intro hj
      rw [sum_range,ih (by omega),psum,List.getD_eq_getElem?_getD,lst_get,if_pos (by omega),Int.mul_comm];rfl
  unfold Wn
  rw [YY,Int.toNat_natCast]
  exact key n (Nat.le_refl _)
theorem Rc(sz:Int->Int)(f:Int->Int){n:Int}(n0:0<=n):Wn sz (lst n f)=psum sz f n.toNat:=by
  have:=Zen sz f n.toNat
  rwa [Int.toNat_of_nonneg n0] at this
def FFitR(p:Prob)(l:Us)(e:Int):Prop:=ZgD p e/\(e=0->NormR (TR (YT p.m (p.stock+p.kerf) (szP p) (pcsTo p.D p.m 0))) l)/\(e≠0->l= [])
end Go.Proofs.YtkichmnjjblodaaGreat
namespace Go.Proofs.YtkichmnjjblodaaGreat
open Go Go.RowKit Go.Proofs.Gw
theorem Zfx:Zc Tryz.prog 122=true:=by kernel_rfl
theorem Zfw:Zc Tryz.prog 123=true:=by kernel_rfl
theorem ZlE{vL vD:Value}{p:Prob}(w0:World)(h:PAt w0 vL vD p):
    Calls Tryz.prog 85 [.agg #[vL,vD,.int .i64 p.stock,.int .i64 p.kerf]].toArray w0 fun e w=>∃v,e= .returned v/\∃r n pv ln pt cnt e,v= .tuple #[r,.int .i64 e]/\FFitR p (plL n ln pt cnt) e/\(∀k,0<=k->k<n->1<=cnt k/\cnt k<=1000000)/\n<=1000/\Slh r n/\Sat w0 w [.own r 2 107 n (Zg pv cnt),.sem (Frame.rows 3 n pv ln pt)]:=by
  have hm:=h.L.slh.n0;have hm1:=h.L.slh.n1;have hd:=h.D.slh.n0;have hd1:=h.D.slh.n1;have hs:=h.is;have hk:=h.ik
  refine zenG Tryz.func85 Tryz.ntmps85 fun w hS=> ?_
  refine zsr<|zla (xbx (cs:= [_,_,_,_]) hS) ?_;rintro _ w ⟨g1,rfl,hS⟩
  refine(zP)<|(zP)<|zx5<|(zV (xls 0 st_32 hS))<|zlc (xc0 Zfx) (Zc3 (p:=p) w (h.below hS.below)) ?_;rintro _ w ⟨c5,rfl,zX,hS'⟩
  replace hS:=hS.cmp hS';clear hS'
  refine(zP)<|zlz<|(zP)<|(zP)<|zlt<|Ze ?_ ?_<;>intro hc
  ·
   refine zsr<|(zP)<|(zP)<|(zP)<|zx14<|zf2 ⟨_,rfl,?_⟩
   exact⟨_,0,fun _=>undef,fun _=>0,fun _ _=>0,fun _=>0,_,rfl,⟨zX,fun h=>by omega,fun _=>rfl⟩,fun k k0 k1=>by omega,by omega,slh_nil,((hS.sub (.cons _ .slnil)).addnil 2 107 (Zg (fun _=>undef) (fun _=>0))).addrows 3 (fun _=>undef) (fun _=>0) (fun _ _=>0)⟩
  refine ZS<|zlv (xls 0 st_32 hS) ?_
  obtain⟨xE,aA⟩:p.Ok/\psum (fun _=>1) p.D p.m.toNat<=1000:=by rcases zX with⟨_,h9⟩|⟨_,_,h9⟩|⟨h8,h9,_⟩;omega;omega;exact⟨h8,h9⟩
  refine zlc (xc0 Zfw) (TK (p:=p) w (h.below hS.below) xE (by omega)) ?_;rintro xL w ⟨_,qH,xx,x8,yd,xI,rfl,xo,xt,yD,x7,xN,hS'⟩
  replace hS:=(hS.comp hS').n3;clear hS'
  have yq:=fun k (k0:0<=k) (k1:k<qH)=>hS.slhIn 2 rfl k0 k1
  refine(zP)<|(zP)<|zx1<|zf2 ⟨_,rfl,?_⟩
  exact⟨_,_,_,_,_,_,0,rfl,⟨(show c5=0 by omega)▸zX,fun _=>xo,fun h=>absurd rfl h⟩,x7,yD,xN,hS.pk [1,2]⟩
theorem V2{vV:Value}{u:Int}{pv:Int->Value}{ln:Int->Int}{pt:Int->Int->Int}{cnt:Int->Int}(w0:World)(hV:VAt w0 vV u pv ln pt cnt)(hu6:u<=1000000)(hbc:∀k,0<=k->k<u->0<=cnt k/\cnt k<=1000000000):
    Calls Tryz.prog 54 [vV].toArray w0 fun e w=>∃v,e= .returned v/\v= .int .i64 (psum (fun _=>1) cnt u.toNat)/\Sat w0 w []:=by
  have hn:=hV.row.slh.n0;have hn1:=hV.row.slh.n1
  refine zenG Tryz.func54 Tryz.ntmps54 fun w hS=> ?_
  refine zsr<|(zP)<|zlz<|(zP)<|zx5<|(zP)<|(zV (xln ZO hV.row.slh))<|(zP)<|zx6<|zlp (fun mm M w=>∃(s:Int) (i:Int),mm=((u-i).toNat)/\(0<=i)/\(i<=u)/\(s=psum (fun _=>1) cnt i.toNat)/\(0<=s/\s<=1000000000*i)/\M= [(2,.int .i64 0),(3,.int .i64 s),(6,vV),(7,.int .i64 u),(8,.int .i64 i)]/\Sat w0 w []) ⟨0,0,rfl,(by omega),(by omega),?_,(by omega),rfl,hS⟩ ?_
  ·
   rfl
  clear hS w
  rintro mm M w ⟨s,i,rfl,h0,h1,hs9,hsb,rfl,hS⟩
  refine zsr<|(zP)<|zx7<|Ze ?_ ?_<;>intro hc
  ·
   refine zx3<|(zV (xix (kk:=2*i) ZO hV.row.slh))<|zlv (xlw (cs:= [(pv i),.int .i64 (cnt i)]) ZH (hV.row.below hS.below) (ZD (k:=2*i) (i:=i) pv cnt (by omega))) ?_
   have hci:=hbc i h0 (by omega)
   refine zla (xal (cs:= [_,_]) Yo hS) ?_;rintro _ w ⟨g1,rfl,hS⟩
   refine zle (xsw 0 ZH hS (hd:=(Za (hV.p i (by omega) (by omega)).slh.one (Za rfl Zi)))) ?_;clear hS;rintro w hS
   refine zlt<|zrg<|(zP)<|(zV (xfb 1 fd_107_1))<|(zV (xlb 0 pl_3 hS))<|(zV (Zh (r:=s+(cnt i))))<|(zP)<|zx10<|(zV (Zh (r:=i+1)))<|(zP)<|zln<|zlq ⟨s+(cnt i),i+1,rfl,(by omega),(by omega),?_,(by omega),rfl,hS.nl⟩
   ·
    rw [YG _ _ h0,<-hs9];omega
  refine zx8<|(zP)<|(zP)<|zx1<|zf1 ⟨_,rfl,?_⟩
  obtain rfl:i=u:=by omega
  exact⟨congrArg (Value.int .i64) hs9,hS⟩
end Go.Proofs.YtkichmnjjblodaaGreat
namespace Go.Proofs.YtkichmnjjblodaaGreat
open Go Go.RowKit Go.Proofs.Gw
variable {cnt ln:Int->Int} {pt:Int->Int->Int} {pv:Int->Value} {gp:Nat} {vD vV:Value}
theorem Zk2:Zc Tryz.prog 121=true:=by kernel_rfl
theorem ZkM:Zc Tryz.prog 154=true:=by kernel_rfl
theorem ZkL:Zc Tryz.prog 156=true:=by kernel_rfl
theorem ZcQ:Zc Tryz.prog 84=true:=by kernel_rfl
theorem ZlR{vL:Value}{p:Prob}{vB:Value}{m b:Int}{g:Int->Int}(w0:World)(hG:(Ent.blk gp [vL,vD,.int .i64 p.stock,.int .i64 p.kerf]).holds w0)(h:PAt w0 vL vD p)(hB:Row w0 vB 1 m (ints g)):
    Calls Tryz.prog 154 [.agg #[vB,.int .i64 b],.pointer (some ⟨gp,0,none⟩)].toArray w0 fun e w=>∃v,e= .returned v/\v=B (¬(1<=b/\b<=1000/\FitsP p m g))/\Sat w0 w []:=by
  refine zenG Tryz.func154 Tryz.ntmps154 fun w hS=> ?_
  refine zsr<|zla (xbx (cs:= [_,_]) hS) ?_;rintro _ w ⟨g1,rfl,hS⟩
  refine(zP)<|zlz<|(zV (xfb 1 fd_107_1))<|(zV (xlb 0 pl_3 hS))<|(zP)<|(zP)<|zlb 7 ?_ ?_<;>intro hc;rotate_left
  refine(zV (xfb 1 fd_107_1))<|(zV (xlb 0 pl_3 hS))<|(zP)<|(zP)<|(zP)<|zlb 12 ?_ ?_<;>intro hc;rotate_left
  refine(zV (xlfs st_32 hG hS))<|(zV (xfb 0 fd_107_0))<|(zV (xlb 0 pl_22 hS))<|zlc (xc0 Zfs) (Zc0 (p:=p) w (h.below hS.below) (hB.below hS.below)) ?_;rintro _ w ⟨rfl,hS'⟩
  replace hS:=hS.cmp hS';clear hS'
  refine(zP)<|(zP)<|(zP)<|zx1<|zf1 ⟨_,rfl,?_⟩
  exact⟨Zm ⟨fun h1 hh=>h1 hh.2.2,fun h1 hh=>h1 ⟨by omega,by omega,hh⟩⟩,hS.nl⟩
  all_goals
   refine zOps ?_
   refine zx1<|zf1 ⟨_,rfl,?_⟩
   exact⟨ZX (by rintro⟨h1,h2,h3⟩;first|omega|exact absurd h3 ‹_›),hS.nl⟩
theorem Zh8{u:Int}{vL:Value}{p:Prob}(w0:World)(hV:VAt w0 vV u pv ln pt cnt)(hG:(Ent.blk gp [vL,vD,.int .i64 p.stock,.int .i64 p.kerf]).holds w0)(h:PAt w0 vL vD p):
    Calls Tryz.prog 92 [vV,.func (.func 154) #[] #[.pointer (some ⟨gp,0,none⟩)]].toArray w0 fun e w=>∃v,e= .returned v/\∃r:Int,v= .int .i64 r/\((r= -1/\∀k,0<=k->k<u->¬(¬(1<=(cnt k)/\(cnt k)<=1000/\FitsP p (ln k) (pt k))))\/(0<=r/\r<u/\(¬(1<=(cnt r)/\(cnt r)<=1000/\FitsP p (ln r) (pt r)))/\∀k,0<=k->k<r->¬(¬(1<=(cnt k)/\(cnt k)<=1000/\FitsP p (ln k) (pt k)))))/\Sat w0 w []:=by
  have hn:=hV.row.slh.n0;have hn1:=hV.row.slh.n1
  refine zenG Tryz.func92 Tryz.ntmps92 fun w hS=> ?_
  refine zsr<|(zP)<|zx5<|(zP)<|(zV (xln ZO hV.row.slh))<|(zP)<|zx6<|zlp (fun mm M w=>∃(i:Int),mm=((u-i).toNat)/\(0<=i)/\(i<=u)/\(∀k,0<=k->k<i->¬(¬(1<=(cnt k)/\(cnt k)<=1000/\FitsP p (ln k) (pt k))))/\M= [(0,vV),(1,.func (.func 154) #[] #[.pointer (some ⟨gp,0,none⟩)]),(7,.int .i64 u),(8,.int .i64 i)]/\Sat w0 w []) ⟨0,rfl,(by omega),(by omega),?_,rfl,hS⟩ ?_
  ·
   intro k h0 h1;omega
  clear hS w
  rintro mm M w ⟨i,rfl,h0,h1,qa,rfl,hS⟩
  refine zsr<|(zP)<|zx7<|Ze ?_ ?_<;>intro hc
  ·
   refine zx3<|(zP)<|(zP)<|zlz<|(zP)<|(zP)<|(zP)<|(zV (xix (kk:=2*i) ZO hV.row.slh))<|(zV (xlw (cs:= [(pv i),.int .i64 (cnt i)]) ZH (hV.row.below hS.below) (ZD (k:=2*i) (i:=i) pv cnt (by omega))))<|zlc (xcc (vs:= [_]) ZkM) (ZlR (p:=p) (m:=(ln i)) (g:=(pt i)) w (Sat.oldblk hS hG) (h.below hS.below) ((hV.p i (by omega) (by omega)).below hS.below)) ?_;rintro _ w ⟨rfl,hS'⟩
   replace hS:=hS.cmp hS';clear hS'
   refine zlt<|Ze ?_ ?_<;>intro hc
   ·
    refine zsr<|(zP)<|(zP)<|zx2<|zf1 ⟨_,rfl,?_⟩
    exact⟨i,rfl,.inr ⟨by omega,by omega,‹¬(1<=(cnt i)/\(cnt i)<=1000/\FitsP p (ln i) (pt i))›,qa⟩,hS⟩
   refine zx4<|(zV (Zh (r:=i+1)))<|(zP)<|zln<|zlq ⟨i+1,rfl,(by omega),(by omega),?_,rfl,hS⟩
   ·
    intro k h0' h1';rcases Int.lt_or_eq_of_le (show k<=i by omega) with hk|hk;exact qa k h0' hk;rw [hk];assumption
  refine zx8<|(zP)<|zx1<|zf1 ⟨_,rfl,?_⟩
  exact⟨-1,rfl,.inl ⟨rfl,fun k h0 h1=>qa k h0 (by omega)⟩,hS⟩
theorem Zig{u:Int}{vL:Value}{p:Prob}(w0:World)(hV:VAt w0 vV u pv ln pt cnt)(hG:(Ent.blk gp [vL,vD,.int .i64 p.stock,.int .i64 p.kerf]).holds w0)(h:PAt w0 vL vD p):
    Calls Tryz.prog 156 [vV,.func (.func 154) #[] #[.pointer (some ⟨gp,0,none⟩)]].toArray w0 fun e w=>∃v,e= .returned v/\v=B (∃k,0<=k/\k<u/\¬(1<=(cnt k)/\(cnt k)<=1000/\FitsP p (ln k) (pt k)))/\Sat w0 w []:=by
  refine zenG Tryz.func156 Tryz.ntmps156 fun w hS=> ?_
  refine zsr<|(zP)<|zlz<|(zP)<|(zP)<|zlc (xc0 Zfi) (Zh8 (u:=u) (pv:=pv) (ln:=ln) (pt:=pt) (cnt:=cnt) (p:=p) w (hV.below hS.below) (Sat.oldblk hS hG) (h.below hS.below)) ?_;rintro _ w ⟨r1,rfl,hr1,hS'⟩
  replace hS:=hS.cmp hS';clear hS'
  refine(zP)<|(zP)<|zx1<|zf1 ⟨_,rfl,?_⟩
  exact⟨Zm (by
   rcases hr1 with⟨h1,h2⟩|⟨h1,h2,h3,_⟩
   · exact⟨fun h=>by omega,fun⟨k,h4,h5,h6⟩=>absurd h6 (h2 k h4 h5)⟩
   · exact⟨fun _=>⟨_,h1,h2,h3⟩,fun _=>h1⟩),hS⟩
def PlanOk(p:Prob)(u:Int)(ln:Int->Int)(pt:Int->Int->Int)(cnt:Int->Int):Prop:=p.Ok/\u<=1000/\∀k,0<=k->k<u->1<=cnt k/\cnt k<=1000/\FitsP p (ln k) (pt k)
def Zw(u:Int)(pt:Int->Int->Int)(cnt:Int->Int):Int->Int:=fun j=>psum (fun k=>pt k j) cnt u.toNat
theorem Kp{p:Prob}{u:Int}:¬(∃k,0<=k/\k<u/\¬(1<=cnt k/\cnt k<=1000/\FitsP p (ln k) (pt k)))↔∀k,0<=k->k<u->1<=cnt k/\cnt k<=1000/\FitsP p (ln k) (pt k):=
  ⟨fun h k k0 k1=>Classical.not_not.1 fun hn=>h ⟨k,k0,k1,hn⟩,fun h ⟨k,k0,k1,hn⟩=>hn (h k k0 k1)⟩
theorem Xh{i j:Int}(i0:0<=i):Zw (i+1) pt cnt j=Zw i pt cnt j+pt i j*cnt i:=YG _ _ i0
theorem Wb{a b A B:Int}(a0:0<=a)(a1:a<=A)(b0:0<=b)(b1:b<=B):0<=a*b/\a*b<=A*B:=
  ⟨Int.mul_nonneg a0 b0,Int.mul_le_mul a1 b1 b0 (by omega)⟩
theorem XA{p:Prob}{u:Int}(h:∀k,0<=k->k<u->1<=cnt k/\cnt k<=1000/\FitsP p (ln k) (pt k)):∀{i:Int},0<=i->i<=u->∀{j:Int},0<=j->j<p.m->0<=Zw i pt cnt j/\Zw i pt cnt j<=2000000*i:=by
  intro i i0
  obtain⟨n,rfl⟩:=Int.eq_ofNat_of_zero_le i0
  induction n with
  |zero=>intro _ j _ _;exact⟨Int.le_refl _,by show(0:Int)<=_;omega⟩
  | succ n ih=>
    intro hi j j0 j1
    have h1:=ih (by omega) (by omega) j0 j1
    obtain⟨h2,h3,h4⟩:=h n (by omega) (by omega)
    have h5:=h4.all j j0 (by have:=h4.eq;omega)
    have h6:=Wb h5.1 h5.2 (show 0<=cnt n by omega) h3
    have h7:=Xh (pt:=pt) (cnt:=cnt) (i:=(n:Int)) (j:=j) (by omega)
    rw [show((n+1:Nat):Int)=(n:Int)+1 by omega,h7];omega
theorem ZfY{u:Int}{vL:Value}{p:Prob}(w0:World)(hV:VAt w0 vV u pv ln pt cnt)(h:PAt w0 vL vD p):
    Calls Tryz.prog 121 [.agg #[vL,vD,.int .i64 p.stock,.int .i64 p.kerf],vV].toArray w0 fun e w=>∃v,e= .returned v/\v=B (PlanOk p u ln pt cnt)/\Sat w0 w []:=by
  have hm:=h.L.slh.n0;have hm1:=h.L.slh.n1;have hd:=h.D.slh.n0;have hd1:=h.D.slh.n1;have hs:=h.is;have hk:=h.ik
  have hu:=hV.row.slh.n0;have hu1:=hV.row.slh.n1
  refine zenG Tryz.func121 Tryz.ntmps121 fun w hS=> ?_
  refine zsr<|zla (xbx (cs:= [_,_,_,_]) hS) ?_;rintro _ w ⟨g1,rfl,hS⟩
  refine(zP)<|zlz<|(zV xmf)<|(zP)<|zlz<|(zV (xls 0 st_32 hS))<|zlc (xc0 XK) (Yc (p:=p) w (h.below hS.below)) ?_;rintro _ w ⟨rfl,hS'⟩
  replace hS:=hS.cmp hS';clear hS'
  refine(zP)<|zlb 9 ?_ ?_<;>intro hc
  ·
   refine(zP)<|(zV (xln ZO hV.row.slh))<|(zP)<|(zP)<|(zP)<|zlb 14 ?_ ?_<;>intro hc
   ·
    refine(zP)<|(zP)<|zlc (xc0 ZkL) (Zig (u:=u) (pv:=pv) (ln:=ln) (pt:=pt) (cnt:=cnt) (p:=p) w (hV.below hS.below) (hS.holds _ (List.mem_of_getElem? (i:=0) rfl)) (h.below hS.below)) ?_;rintro _ w ⟨rfl,hS'⟩
    replace hS:=hS.cmp hS';clear hS'
    refine(zP)<|(zP)<|(zP)<|zx1<|zf1 ⟨_,rfl,?_⟩
    exact⟨Zm ⟨fun hh=>⟨by first|assumption|exact Classical.not_not.1 ‹_›,by omega,Kp.1 hh⟩,fun hh=>Kp.2 hh.2.2⟩,hS.nl⟩
   iterate 4 refine zlo ?_
   refine(zP)<|(zP)<|zx1<|zf1 ⟨_,rfl,?_⟩
   exact⟨Zf (by rintro⟨h1,h2,h3⟩;first|exact absurd h1 ‹_›|omega|exact absurd (Kp.2 h3) ‹_›),hS.nl⟩
  iterate 3 refine zlo ?_
  refine zs2 ?_
  iterate 4 refine zlo ?_
  refine(zP)<|(zP)<|zx1<|zf1 ⟨_,rfl,?_⟩
  exact⟨Zf (by rintro⟨h1,h2,h3⟩;first|exact absurd h1 ‹_›|omega|exact absurd (Kp.2 h3) ‹_›),hS.nl⟩
theorem UX{u:Int}{vL:Value}{p:Prob}(w0:World)(hV:VAt w0 vV u pv ln pt cnt)(h:PAt w0 vL vD p):
    Calls Tryz.prog 84 [.agg #[vL,vD,.int .i64 p.stock,.int .i64 p.kerf],vV].toArray w0 fun e w=>∃v,e= .returned v/\∃r n f e,v= .tuple #[r,.int .i64 e]/\((¬PlanOk p u ln pt cnt/\n=0/\e=1)\/(PlanOk p u ln pt cnt/\n=p.m/\f=Zw u pt cnt/\e=0))/\Slh r n/\Sat w0 w [.own r 1 3 n (ints f)]:=by
  have hm:=h.L.slh.n0;have hm1:=h.L.slh.n1;have hd:=h.D.slh.n0;have hd1:=h.D.slh.n1;have hs:=h.is;have hk:=h.ik
  have hu:=hV.row.slh.n0;have hu1:=hV.row.slh.n1
  refine zenG Tryz.func84 Tryz.ntmps84 fun w hS=> ?_
  refine zsr<|zla (xbx (cs:= [_,_,_,_]) hS) ?_;rintro _ w ⟨g1,rfl,hS⟩
  refine(zP)<|(zP)<|zx5<|(zV (xls 0 st_32 hS))<|(zP)<|zlc (xc0 Zk2) (ZfY (u:=u) (pv:=pv) (ln:=ln) (pt:=pt) (cnt:=cnt) (p:=p) w (hV.below hS.below) (h.below hS.below)) ?_;rintro _ w ⟨rfl,hS'⟩
  replace hS:=hS.cmp hS';clear hS'
  refine(zP)<|zlt<|Ze ?_ ?_<;>intro hc
  ·
   refine zsr<|(zP)<|(zP)<|zx14<|zf2 ⟨_,rfl,?_⟩
   exact⟨_,0,fun _=>0,1,rfl,.inl ⟨‹¬PlanOk p u ln pt cnt›,rfl,rfl⟩,slh_nil,(hS.sub (.cons _ .slnil)).addnil 1 3 (ints fun _=>0)⟩
  refine ZS<|zlv (xfb 0 fd_32_0) ?_
  have qx:PlanOk p u ln pt cnt:=by first|assumption|exact Classical.not_not.1 ‹_›
  have zR:=qx.1.m1;have qz:=qx.1.m2;have hu3:=qx.2.1
  refine(zV (xlb 0 pl_22 hS))<|(zV (xln Zb h.L.slh))<|zla (xmk Zb Zt hS) ?_;rintro v1 w ⟨hS,hv1⟩
  refine(zP)<|zx5<|(zP)<|(zV (xln ZO hV.row.slh))<|(zP)<|zx6<|zlp (fun mm M w=>∃(f:Int->Int) (i:Int),mm=((u-i).toNat)/\(0<=i)/\(i<=u)/\(∀k,0<=k->k<p.m->f k=Zw i pt cnt k)/\M= [(4,.slice none 0 0),(5,.int .i64 0),(6,v1),(19,vV),(20,.int .i64 u),(21,.int .i64 i)]/\Sat w0 w [.blk g1 [vL,vD,.int .i64 p.stock,.int .i64 p.kerf],.own v1 1 3 p.m (ints f)]) ⟨(fun _=>0),0,rfl,(by omega),(by omega),?_,rfl,hS⟩ ?_
  ·
   intro k _ _;rfl
  clear hS w
  rintro mm M w ⟨f,i,rfl,h0,h1,hf,rfl,hS⟩
  refine zsr<|(zP)<|zx7<|Ze ?_ ?_<;>intro hc
  ·
   refine zx3<|(zV (xix (kk:=2*i) ZO hV.row.slh))<|zlv (xlw (cs:= [(pv i),.int .i64 (cnt i)]) ZH (hV.row.below hS.below) (ZD (k:=2*i) (i:=i) pv cnt (by omega))) ?_
   obtain⟨hq1,hq2,hq3⟩:=qx.2.2 i h0 (by omega)
   have hq4:=hq3.eq
   refine zla (xal (cs:= [_,_]) Yo hS) ?_;rintro _ w ⟨g2,rfl,hS⟩
   refine zle (xsw 2 ZH hS (hd:=(Za (hV.p i (by omega) (by omega)).slh.one (Za rfl Zi)))) ?_;clear hS;rintro w hS
   refine zlz<|(zV (xfb 0 fd_107_0))<|(zV (xlb 2 pl_22 hS))<|(zV (xln Zb (hV.p i (by omega) (by omega)).slh))<|(zP)<|zx6<|zlp (fun mm M w=>∃(f2:Int->Int) (j:Int),mm=((ln i-j).toNat)/\(0<=j)/\(j<=ln i)/\(∀k,0<=k->k<p.m->f2 k=(if k<j then Zw (i+1) pt cnt k else Zw i pt cnt k))/\M= [(4,.slice none 0 0),(5,.int .i64 0),(6,v1),(8,.pointer (some ⟨g2,0,none⟩)),(19,vV),(20,.int .i64 u),(21,.int .i64 i),(26,(pv i)),(27,.int .i64 (ln i)),(28,.int .i64 j)]/\Sat w0 w [.blk g1 [vL,vD,.int .i64 p.stock,.int .i64 p.kerf],.own v1 1 3 p.m (ints f2),.blk g2 [(pv i),.int .i64 (cnt i)]]) ⟨f,0,rfl,(by omega),(by omega),?_,rfl,hS⟩ ?_
   ·
    intro k k0 k1;rw [if_neg (by omega)];exact hf k k0 k1
   clear hS w
   rintro mm M w ⟨f2,j,rfl,j0,j1,hf2,rfl,hS⟩
   refine zsr<|(zP)<|zx7<|Ze ?_ ?_<;>intro hc
   ·
    refine zx3<|(zP)<|(zV (xix (kk:=j) Zb (hV.p i (by omega) (by omega)).slh))<|zlv (xlr (u:= .int .i64 ((pt i) j)) pl_3 ((hV.p i (by omega) (by omega)).below hS.below)) ?_
    have hpj:=hq3.all j j0 (by omega)
    have hmr:=XA qx.2.2 h0 (by omega) (j:=j) j0 (by omega)
    have hfj:=hf2 j j0 (by omega)
    rw [if_neg (by omega)] at hfj
    have hmj:=Wb hpj.1 hpj.2 (show 0<=cnt i by omega) hq2
    refine(zP)<|(zP)<|zlt<|zdst [0,1,2] [0,2] 10 mx_ hS ?_;clear hS;intro w hS
    refine(zDw 0 xmv)<|(zDw 1 xmv)<|(zDw 2 (xix (kk:=j) Zb hv1))<|zdl 3 (fun w hS=>(xlr (u:= .int .i64 (f2 j)) pl_3 (hS.rowN 1 rfl))) ?_
    refine(zDw 4 xmv)<|(zDw 5 (xfb 1 fd_107_1))<|(zDl 6 (fun w hS=>(xlb 1 pl_3 hS)))<|(zDw 7 (Z7 (r:=(((pt i) j)*(cnt i))) (e:=rfl)))<|(zDw 8 (Zh (r:=f2 j+(((pt i) j)*(cnt i)))))<|(zDw 9 (xix (kk:=j) Zb hv1))<|zde 10 (xso 1 pl_3 hS (Zq _ _ _)) ?_;clear hS;rintro w hS
    refine⟨⟨fun h=>absurd h (by decide),hS.pk [0,2]⟩,?_⟩
    refine zdd<|zbn<|ztn<|zrg ?_
    refine(zV (Zh (r:=j+1)))<|(zP)<|zln<|zlq ⟨(upd f2 j (f2 j+(((pt i) j)*(cnt i)))),j+1,rfl,(by omega),(by omega),?_,rfl,hS⟩
    ·
     intro k k0 k1;unfold upd;by_cases e:k=j
     · rw [if_pos e,if_pos (by omega),e,Xh h0];omega
     · rw [if_neg e,hf2 k k0 k1];by_cases e2:k<j
       · rw [if_pos e2,if_pos (by omega)]
       · rw [if_neg e2,if_neg (by omega)]
   refine zx21<|(zV (Zh (r:=i+1)))<|(zP)<|zln<|zlq ⟨f2,i+1,rfl,(by omega),(by omega),?_,rfl,hS.pk [0,1]⟩
   ·
    intro k k0 k1;rw [hf2 k k0 k1,if_pos (by omega)]
  refine zx8<|(zP)<|(zP)<|(zP)<|zx1<|zf2 ⟨_,rfl,?_⟩
  have hiu:i=u:=by omega
  rw [hiu] at hf
  replace hS:=hS.recont 1 rfl (d:=ints (Zw u pt cnt)) (fun k k0 k1=>congrArg (Value.int .i64) (hf k k0 (by omega)))
  exact⟨_,_,_,0,rfl,.inr ⟨qx,rfl,rfl,rfl⟩,hv1,hS.pk [1]⟩
theorem TI{u:Int}{vL:Value}{p:Prob}(w0:World)(hV:VAt w0 vV u pv ln pt cnt)(h:PAt w0 vL vD p):
    Calls Tryz.prog 53 [.agg #[vL,vD,.int .i64 p.stock,.int .i64 p.kerf],vV].toArray w0 fun e w=>∃v,e= .returned v/\v=B (PlanOk p u ln pt cnt/\∀j,0<=j->j<p.m->p.D j<=Zw u pt cnt j)/\Sat w0 w []:=by
  have hm:=h.L.slh.n0;have hm1:=h.L.slh.n1;have hd:=h.D.slh.n0;have hd1:=h.D.slh.n1;have hs:=h.is;have hk:=h.ik
  refine zenG Tryz.func53 Tryz.ntmps53 fun w hS=> ?_
  refine zsr<|zla (xbx (cs:= [_,_,_,_]) hS) ?_;rintro _ w ⟨g1,rfl,hS⟩
  refine(zP)<|zlz<|(zV (xls 0 st_32 hS))<|(zP)<|zlc (xc0 ZcQ) (UX (u:=u) (pv:=pv) (ln:=ln) (pt:=pt) (cnt:=cnt) (p:=p) w (hV.below hS.below) (h.below hS.below)) ?_;rintro _ w ⟨qw,qf,qc,yE,rfl,qA,qo,hS'⟩
  replace hS:=(hS.comp hS').n2;clear hS'
  refine zs3 ?_
  have hnd:=qo.n0;have jS:=qo.n1
  have jR:qf<=p.d:=by
    rcases qA with⟨_,g2,_⟩|⟨g1,g2,_,_⟩
    · omega
    · have:=g1.1.d;omega
  refine(zP)<|(zP)<|zx5<|(zP)<|(zV (xln Zb qo))<|(zP)<|zx6<|zlp (fun mm M w=>∃(i:Int),mm=((qf-i).toNat)/\(0<=i)/\(i<=qf)/\(∀k,0<=k->k<i->p.D k<=qc k)/\M= [(2,.pointer (some ⟨g1,0,none⟩)),(6,.int .i64 yE),(15,qw),(16,.int .i64 qf),(17,.int .i64 i)]/\Sat w0 w [.blk g1 [vL,vD,.int .i64 p.stock,.int .i64 p.kerf],.own qw 1 3 qf (ints qc)]) ⟨0,rfl,(by omega),(by omega),?_,rfl,hS⟩ ?_
  ·
   intro k h0 h1;omega
  clear hS w
  rintro mm M w ⟨i,rfl,h0,h1,qa,rfl,hS⟩
  refine zsr<|(zP)<|zx7<|Ze ?_ ?_<;>intro hc
  ·
   refine zx3<|(zP)<|(zV (xix (kk:=i) Zb qo))<|(zV (xlr (u:= .int .i64 (qc i)) pl_3 (hS.rowN 1 rfl)))<|(zP)<|(zP)<|zlz<|(zP)<|(zV (xfb 1 fd_32_1))<|(zV (xlb 0 pl_22 hS))<|(zP)<|(zV (xix (kk:=i) Zb h.D.slh))<|zlv (xlr (u:= .int .i64 (p.D i)) pl_3 (h.D.below hS.below)) ?_
   have hbv:=h.iD i
   refine(zP)<|zlt<|Ze ?_ ?_<;>intro hc
   ·
    refine zsr<|(zP)<|zx2<|zf1 ⟨_,rfl,?_⟩
    refine⟨Zf ?_,hS.nl⟩
    rcases qA with⟨g1,g2,g3⟩|⟨g1,g2,g3,g4⟩
    · exact fun hh=>g1 hh.1
    · intro hh;subst g3;have h9:=hh.2 i h0 (by omega);omega
   refine zx4<|(zV (Zh (r:=i+1)))<|(zP)<|zln<|zlq ⟨i+1,rfl,(by omega),(by omega),?_,rfl,hS⟩
   ·
    intro k h0' h1';rcases Int.lt_or_eq_of_le (show k<=i by omega) with hk|hk;exact qa k h0' hk;rw [hk];omega
  refine zx8<|(zP)<|(zP)<|(zP)<|zx1<|zf1 ⟨_,rfl,?_⟩
  refine⟨Zm ?_,hS.nl⟩
  rcases qA with⟨g1,g2,g3⟩|⟨g1,g2,g3,g4⟩
  · exact⟨fun hh=>by omega,fun hh=>absurd hh.1 g1⟩
  · exact⟨fun _=>⟨g1,fun j j0 j1=>by have:=qa j j0 (by omega);rw [g3] at this;exact this⟩,fun _=>by omega⟩
end Go.Proofs.YtkichmnjjblodaaGreat
namespace Go.Proofs.Gw
open Go Go.RowKit
section
variable {P:Program} {l rest:List Oper} {Q Q':Exit->Act->World->Prop} {w w' w0:World} {o:Oper} {n d fuel i:Nat} {L M:List (Nat×Value)} {x y:Code} {c:Operand} {e:Exit} {p:Prop} {r:Option Nat} {ds:List Deferred} {listed:Array Bool} {K:Act->World->Prop}
def Hd(P:Program)(r:Option Nat)(n:Nat)(l:List Oper)(Q:Exit->Act->World->Prop)(fuel:Nat)(listed:Array Bool)(ds:List Deferred)(L:List (Nat×Value))(w:World):Prop:=∀a,Frd a n ds L->wpAnyIn (FZ r) 0 P .any l.toArray Q fuel listed a w
def Ho(P:Program)(r:Option Nat)(n:Nat)(l:List Oper)(Q:Exit->Act->World->Prop)(o:Oper)(K:Act->World->Prop)(ds:List Deferred)(L:List (Nat×Value))(w:World):Prop:=∀a,Frd a n ds L->if Region.wanted o (yielded l.toArray a.tmps)=true then o.wpIn (FZ r) 0 P a w K Q else(∀f,o.about P w a.eval=some f->(FZ r).fn f)/\K (a.put o.dst undef) w
theorem Ho.op{i:Nat}(h:Ho P r n l Q o K ds L w)(ho:l[i]? =some o){a:Act}(hF:Frd a n ds L):wpOpIn (FZ r) 0 P l.toArray Q i K a w:=by
  unfold wpOpIn
  rw [show l.toArray[i]? =some o by simpa using ho]
  exact h a hF
theorem hdr{id:Nat}{m:List Ent}(fuel:Nat)(hm:P.follows .mixedOrders=true)(hS:Sat w0 w m)(K:∀w,Sat w0 w m->Hd P r n l Q fuel (Array.replicate fuel false) ds L w)(hn:l.length=fuel:=by exact rfl):Hc P r n Q (.region id l.toArray true) ds L w:=fun a hF=>by
  subst hn
  exact wpIn_region_any hm (by have:=K _ hS.draw a hF;simpa using this)
theorem hd0(h:He n Q .normal ds L w)(hr:Region.ready .any l.toArray listed= []:=by kernel_rfl):Hd P r n l Q fuel listed ds L w:=fun a hF=>wpAnyIn_done hr (h a hF) _
theorem hd1(i:Nat){o:Oper}(h:Ho P r n l Q o (wpAnyIn (FZ r) 0 P .any l.toArray Q fuel (listed.setIfInBounds i true)) ds L w)(hr:Region.ready .any l.toArray listed= [i]:=by kernel_rfl)(ho:l[i]? =some o:=by exact rfl):Hd P r n l Q (fuel+1) listed ds L w:=fun a hF=>
  wpAnyIn_all hr (by simp) fun j hj => by obtain rfl:j=i:=by simpa using hj
                                          exact h.op ho hF
theorem hd2(i j:Nat){o o':Oper}(hi:Ho P r n l Q o (wpAnyIn (FZ r) 0 P .any l.toArray Q fuel (listed.setIfInBounds i true)) ds L w)(hj:Ho P r n l Q o' (wpAnyIn (FZ r) 0 P .any l.toArray Q fuel (listed.setIfInBounds j true)) ds L w)(hr:Region.ready .any l.toArray listed= [i,j]:=by kernel_rfl)(ho:l[i]? =some o:=by exact rfl)(ho':l[j]? =some o':=by exact rfl):Hd P r n l Q (fuel+1) listed ds L w:=fun a hF=>
  wpAnyIn_all hr (by simp) fun k hk=>by
    rcases List.mem_cons.1 hk with rfl|hk
    · exact hi.op ho hF
    · obtain rfl:k=j:=by simpa using hk
      exact hj.op ho' hF
theorem hov{v:Value}(hr:Runs P L w o (.value v) w')(K:Hd P r n l Q fuel listed ds ((d,v)::L) w')(hg:gdB l L o=some true:=by exact rfl)(hd:o.dst=some d:=by exact rfl)(hdn:Nat.blt d n=true:=by exact rfl)(hn:ndf o=true:=by exact rfl):Ho P r n l Q o (wpAnyIn (FZ r) 0 P .any l.toArray Q fuel listed) ds L w:=fun a hF=>by
  rw [if_pos (UE hF hg)]
  refine⟨fun _ _=>trivial,?_⟩
  rw [Wp hn,hr _ hF.agr,Oper.uponIn_value,hd]
  exact K _ (hF.put (by simpa [Nat.blt_eq] using hdn) v)
theorem hof(K:Hd P r n l Q fuel listed ds ((d,undef)::L) w)(hg:gdB l L o=some false:=by exact rfl)(hd:o.dst=some d:=by exact rfl)(hdn:Nat.blt d n=true:=by exact rfl):Ho P r n l Q o (wpAnyIn (FZ r) 0 P .any l.toArray Q fuel listed) ds L w:=fun a hF=>by
  rw [if_neg (by rw [UE hF hg];simp)]
  refine⟨fun _ _=>trivial,?_⟩
  rw [hd]
  exact K _ (hF.put (by simpa [Nat.blt_eq] using hdn) undef)
theorem hoc{f:FuncId}{args:Array Value}{R:Value->World->Prop}(hr:Runs P L w o (.enter f args) w)(hc:Calls P f args w fun e w'=>∃v,e= .returned v/\R v w')(K:∀v w',R v w'->Hd P r n l Q fuel listed ds ((d,v)::L) w')
    (hg:gdB l L o=some true:=by exact rfl) (hd:o.dst=some d:=by exact rfl) (hdn:Nat.blt d n=true:=by exact rfl) (hn:ndf o=true:=by exact rfl):Ho P r n l Q o (wpAnyIn (FZ r) 0 P .any l.toArray Q fuel listed) ds L w:=fun a hF=>by
  rw [if_pos (UE hF hg)]
  refine⟨fun _ _=>trivial,?_⟩
  rw [Wp hn,hr _ hF.agr,Oper.uponIn_enter]
  refine⟨fun h=>(by cases h),WT (hc.mono fun e w' ⟨v,he,hR⟩=> ?_)⟩
  subst he
  rw [hd]
  exact K v w' hR _ (hF.put (by simpa [Nat.blt_eq] using hdn) v)
theorem hoy{l0:Nat}{xs:Array Operand}{ts:Array TypeId}{vs:List Value}{z:Operand}{R:Value->World->Prop}(hY:Yld P l0 vs w R)(K:∀v w',R v w'->Hd P r n l Q fuel listed ds ((d,v)::L) w')
    (hop:o.op= .call {callee:= .value z,args:=xs,argTypes:=ts}:=by exact rfl) (hx:evL L z=some (.func (.yield l0) #[] #[]):=by exact rfl) (ha:Uz L xs vs:=by repeat' first|exact Zbg|apply Wf rfl)
    (hg:gdB l L o=some true:=by exact rfl) (hd:o.dst=some d:=by exact rfl) (hdn:Nat.blt d n=true:=by exact rfl):Ho P r n l Q o (wpAnyIn (FZ r) 0 P .any l.toArray Q fuel listed) ds L w:=fun a hF=>by
  obtain⟨fn,tmps,assign,body,hy,hR⟩:=hY
  have hr:=xyl (P:=P) (L:=L) (o:=o) hy hop hx ha
  rw [if_pos (UE hF hg)]
  refine⟨fun _ _=>trivial,?_⟩
  rw [Wp (by unfold ndf;rw [hop]),hr _ hF.agr,Oper.uponIn_round]
  refine⟨fun h=>(by cases h),(show RoundIn (FZ r) (0-1) P l0 fn tmps assign body w fun e w'=>∃v,e= .returned v/\R v w' from hR).mono fun e w' ⟨v,he,hR⟩=> ?_⟩
  subst he
  rw [hd]
  exact K v w' hR _ (hF.put (by simpa [Nat.blt_eq] using hdn) v)
theorem Zmf{f:FuncId}{fn:Func}{vs:List Value}{R:Ending->World->Prop}(hf:P.funcs[f]? =some fn)(hn:fn.ntmps=n)(K:Hc P none n (bodyPostM (FZ none) 0 P fn R) x [] (num 0 vs) w)(hb:fn.body=some x:=by exact rfl)(hv:Nat.ble vs.length n=true:=by exact rfl):Calls P f vs.toArray w R:=
  RW (r:=none) (n:=0) (callsIn_of_wp_marks hf hb trivial (by
    rw [hn]
    exact K _ ((Fr.enter (vs:=vs.toArray) (by simpa using Nat.le_of_ble_eq_true hv) fun t v ht=>by have:=(Kt vs 0 t v ht).2;simpa using this))))
theorem Zme{fn:Func}{R:Ending->World->Prop}{E:List Ent}{D:Nat}(i:Nat)(hS:Sat w0 w E)(K:∀w',Sat w0 w' (E.set i (dfE D false))->Ge n [] (bodyPost P fn R) .normal L w')(hi:E[i]? =some (dfE D true):=by exact rfl):He n (bodyPostM (FZ none) 0 P fn R) .normal [mrk D] L w:=fun a hF=>ZbL i hS (fun w' h a hF=>K w' h a hF) hi a hF
end
end Go.Proofs.Gw
namespace Go.Proofs.Gw
open Go Go.RowKit
section
variable {P:Program} {Q:Exit->Act->World->Prop} {w w' w0:World} {n:Nat} {L:List (Nat×Value)} {ds:List Deferred}
def ItG {St X Tt:Type} (P:Program) (w0:World) (gf:FuncId) (lb:List Value) (Sh:List Ent) (enc:X->List Value) (Gx:X->List Ent) (Pre:St->X->Frame->Prop) (Nx:St->X->St->Prop) (Sx:St->X->Tt->Prop) (s0:St) (Fin:St->Frame->Prop) (FinX:Tt->Frame->Prop):Prop:=
  ∀ (l:Nat) (C:St->Frame) (D:Tt->Frame) (w:World),Sat w0 w (.sem (C s0)::Sh)->
    (∀s x rest w,Pre s x rest->Sat w0 w (.sem (C s)::(Sh++(Gx x++ [.sem rest])))->Yld P l (enc x) w fun v w'=>
      (v= .bool true/\∃s',Nx s x s'/\Sat w0 w' (.sem (C s')::(Sh++ [.sem rest])))\/(v= .bool false/\∃t,Sx s x t/\Sat w0 w' (.sem (D t)::(Sh++ [.sem rest]))))->
    Calls P gf (.func (.yield l) #[] #[]::lb).toArray w fun e w'=>∃v,e= .returned v/\
      ((∃s rest,Fin s rest/\Sat w0 w' (.sem (C s)::(Sh++ [.sem rest])))\/(∃t rest,FinX t rest/\Sat w0 w' (.sem (D t)::(Sh++ [.sem rest]))))
theorem Zmd {St X Tt:Type} {gf:FuncId} {lb:List Value} {g:Operand} {ps:Array Tmp} {assign body:Code} {Sh:List Ent} {enc:X->List Value} {Gx:X->List Ent} {Pre:St->X->Frame->Prop} {Nx:St->X->St->Prop} {Sx:St->X->Tt->Prop} {Fin:St->Frame->Prop} {FinX:Tt->Frame->Prop}
    (C:St->List Ent) (D:Tt->List Ent) (jc:Tt->Code) (s0:St) (J:X->List (Nat×Value)->List Ent->Prop) (hit:ItG P w0 gf lb Sh enc Gx Pre Nx Sx s0 Fin FinX) (hS:Sat w0 w (C s0++Sh)) (hcl:Zc P gf=true)
    (hpl:∀x,(enc x).length=ps.size) (hjc:∀t,jc t= .ret\/∃id,jc t= .exit id)
    (yV:∀l s x rest w,Pre s x rest->∀rest',(∀w,rest'.holds w->rest.holds w)->Sat w0 w (C s++(Sh++(.sem rest'::Gx x)))->Hc P (some l) n (Exit.then (fun a w'=>∃M es,J x M es/\Frd a n [] M/\Sat w0 w' (C s++(Sh++(.sem rest'::es)))) (fun _ _ _=>False)) assign [] (R4 ps.toList (enc x) L) w)
    (aY:∀l s x M es rest w,Pre s x rest->J x M es->∀rest',(∀w,rest'.holds w->rest.holds w)->Sat w0 w (C s++(Sh++(.sem rest'::es)))->Hc P (some l) n (rdQ w0 C D jc Sh (Nx s x) (Sx s x) rest') body [] M w)
    (aU:∀Dk s rest w',Fin s rest->Sat w0 w' (C s++(Sh++ [.sem rest,dfE Dk true]))->He n Q .normal (mrk Dk::ds) L w')
    (aB:∀Dk t rest w',FinX t rest->Sat w0 w' (D t++(Sh++ [.sem rest,dfE Dk true]))->He n Q (ZeZ (jc t)) (mrk Dk::ds) L w')
    (hg:evL L g=some (.func (.func gf) #[] lb.toArray):=by exact rfl) (hpb:(ps.toList.all fun t=>Nat.blt t n)=true:=by exact rfl):Hc P none n Q (.rangeFunc g ps assign body) ds L w:=by
  intro a hF
  refine wpIn_rangeFunc ?_
  intro fn hfn
  obtain⟨rec,xc⟩:∃rec:LoopState->Option Code->Loop,rec=fun st pe=>{state:=st,pending:=pe,fn,tmps:=a.tmps,params:=ps,assign,body,defers:=w.heap.size}:=⟨_,rfl⟩
  obtain⟨W1,hW1⟩:∃W1,(w.alloc (.deferred (some []))).alloc (.loop (rec .ready none))=W1:=⟨_,rfl⟩
  obtain⟨l,hl⟩:∃l,w.heap.size+1=l:=⟨_,rfl⟩
  obtain⟨Dk,hDk⟩:∃Dk,w.heap.size=Dk:=⟨_,rfl⟩
  have hS1:Sat w0 W1 ((C s0++Sh)++ [dfE Dk true]++ [.sem (Frame.obj l (.loop (rec .ready none)))]):=by
    rw [<-hW1]
    refine(hS.alloc _ (e:=dfE Dk true) ?_ ?_).alloc _ (e:= .sem (Frame.obj l (.loop (rec .ready none)))) ?_ ?_
    · rw [<-hDk];exact heap_alloc_new w _
    · intro g hg;rw [<-hDk] at hg;exact hg
    · have:=heap_alloc_new (w.alloc (.deferred (some []))) (.loop (rec .ready none))
      rw [World.size_alloc,hl] at this;exact this
    · intro g hg;rw [World.size_alloc,hl];exact hg
  have eval:a.eval g= .func (.func gf) #[] lb.toArray:=hF.agr _ _ hg
  have cQ:∃fnn,P.funcs[gf]? =some fnn/\fnn.body.isSome=true/\(fnn.name== "runtime.NumGoroutine")=false:=by
    unfold Zc at hcl
    cases hf:P.funcs[gf]? with
    |none=>simp [hf] at hcl
    | some fnn=>
      simp only [hf,Bool.and_eq_true,Bool.not_eq_true'] at hcl
      exact⟨fnn,rfl,hcl.1,hcl.2⟩
  obtain⟨fnn,hf1,hf2,hf3⟩:=cQ
  have cU:fnn.body≠none:=by intro e;rw [e] at hf2;simp at hf2
  have cT:fnn.name≠ "runtime.NumGoroutine" :=by simpa using hf3
  let C':St->Frame:=fun s=>Frame.bun (C s++ [.sem (Frame.obj l (.loop (rec .ready none))),dfE Dk true])
  let D':Tt->Frame:=fun t=>Frame.bun (D t++ [.sem (Frame.obj l (.loop (rec .done (some (jc t))))),dfE Dk true])
  have hS2:Sat w0 W1 (.sem (C' s0)::Sh):=by
    have h1:Sat w0 W1 (Sh++(C s0++ [.sem (Frame.obj l (.loop (rec .ready none))),dfE Dk true])):=hS1.perm (Yg fun f=>by simp only [List.map_append,List.map_cons,List.map_nil,List.sum_append,List.sum_cons,List.sum_nil];omega)
    have h2:=h1.bundle
    exact h2.perm List.perm_append_comm
  refine⟨l, [mrk Dk],W1,{target:= .fn (.func gf) lb.toArray,args:= #[.func (.yield l) #[] #[]]},W1,gf, #[.func (.yield l) #[] #[]]++lb.toArray,W1,?_,?_,?_,?_,fun h=>(by cases h),?_⟩
  · rw [<-hW1,xc,<-hl,<-hDk];exact run_enterLoop_outer _ _ _ _ _
  · simp only [resolve,eval]
    simp [go_sem]
  · intro f' hf';trivial
  · simp [invoke,go_sem,callFunc,hf1,cU,cT]
  have eargs:(#[.func (.yield l) #[] #[]]++lb.toArray:Array Value)=(.func (.yield l) #[] #[]::lb).toArray:=by simp
  rw [eargs]
  refine WT ((hit l C' D' W1 hS2 ?_).mono ?_)
  ·
    intro s x rest W qr hSW
    have h1:Sat w0 W (C s++(Sh++(Gx x++ [.sem rest,.sem (Frame.obj l (.loop (rec .ready none))),dfE Dk true]))):=by
      have:=Sat.unbun (l1:= []) hSW
      exact this.perm (Yg fun f=>by simp only [List.map_append,List.map_cons,List.map_nil,List.sum_append,List.sum_cons,List.sum_nil];omega)
    have hlr:W.heap[l]? =some (.loop (rec .ready none)):=h1.holds (.sem (Frame.obj l (.loop (rec .ready none)))) (by simp)
    have hy:=run_yield (P:=P) (args:=(enc x).toArray) hlr (by rw [xc];simp [hpl x])
    rw [xc] at hy
    refine⟨fn,_,assign,body,hy,roundIn_of_wpIn trivial ?_⟩
    clear hy
    let r1:Frame:=Frame.bun [.sem rest,.sem (Frame.obj l (.loop (rec .ready none))),dfE Dk true]
    have h2:Sat w0 W (C s++(Sh++(.sem r1::Gx x))):=by
      have h1b:Sat w0 W ((C s++(Sh++Gx x))++ [.sem r1]):=by
        have h1c:Sat w0 W ((C s++(Sh++Gx x))++ [.sem rest,.sem (Frame.obj l (.loop (rec .ready none))),dfE Dk true]):=by
          rw [List.append_assoc,List.append_assoc];exact h1
        exact h1c.bundle
      exact h1b.perm (Yg fun f=>by simp only [List.map_append,List.map_cons,List.map_nil,List.sum_append,List.sum_cons,List.sum_nil];omega)
    have hfr:Frd {tmps:=(ps.zip (enc x).toArray).foldl (fun t (p,v)=>t.setIfInBounds p v) a.tmps,defers:= []} n [] (R4 ps.toList (enc x) L):=by
      have:=R3 (a:=a) (n:=n) ps.toList (enc x) a.tmps (L:=L) ⟨hF.size,rfl,hF.get⟩ hpb
      have e:(ps.zip (enc x).toArray).foldl (fun t (p,v)=>t.setIfInBounds p v) a.tmps=(ps.toList.zip (enc x)).foldl (fun t (p:Nat×Value)=>t.setIfInBounds p.1 p.2) a.tmps:=by
        rw [<-Array.foldl_toList,Array.toList_zip]
      rw [e];exact this
    refine Go.wpIn_mono (yV l s x rest W qr r1 (fun w h=>h.1 (.sem rest) (by simp)) h2 _ hfr) ?_
    intro e a1 Wa hp
    cases e<;>try exact hp.elim
    obtain⟨M,es,hJ,hFM,hSa⟩:=hp
    have h3:Sat w0 Wa ((C s++(Sh++([.sem rest]++es))++ [dfE Dk true])++ .sem (Frame.obj l (.loop (rec .ready none))):: []):=by
      have:=Sat.unbun (l1:=C s++Sh) (l3:=es) (by rw [List.append_assoc];exact hSa)
      exact this.perm (Yg fun f=>by simp only [List.map_append,List.map_cons,List.map_nil,List.sum_append,List.sum_cons,List.sum_nil];omega)
    have hlr:Wa.heap[l]? =some (.loop (rec .ready none)):=h3.get
    refine⟨_,run_beginRound hlr (by rw [xc]),?_⟩
    have h4:=h3.putObj (o':= .loop {rec .ready none with state:= .busy})
    let r2:Frame:=Frame.bun [.sem rest,.sem (Frame.obj l (.loop {rec .ready none with state:= .busy})),dfE Dk true]
    have h5:Sat w0 (Wa.putObj l (.loop {rec .ready none with state:= .busy})) (C s++(Sh++(.sem r2::es))):=by
      have h:Sat w0 (Wa.putObj l (.loop {rec .ready none with state:= .busy})) ((C s++(Sh++es))++ [.sem rest,.sem (Frame.obj l (.loop {rec .ready none with state:= .busy})),dfE Dk true]):=by
        exact h4.perm (Yg fun f=>by simp only [List.map_append,List.map_cons,List.map_nil,List.sum_append,List.sum_cons,List.sum_nil];omega)
      have hb:Sat w0 (Wa.putObj l (.loop {rec .ready none with state:= .busy})) ((C s++(Sh++es))++ [.sem r2]):=h.bundle
      exact hb.perm (Yg fun f=>by simp only [List.map_append,List.map_cons,List.map_nil,List.sum_append,List.sum_cons,List.sum_nil];omega)
    refine Go.wpIn_mono (aY l s x M es rest _ qr hJ r2 (fun w h=>h.1 (.sem rest) (by simp)) h5 _ hFM) ?_
    have fin:∀(jump:Option Code) (A:List Ent) (W3:World),Sat w0 W3 (A++(Sh++ [.sem r2]))->
        (Instr.endRound l jump).run P W3= .ok (.bool jump.isNone) (W3.putObj l (.loop (rec (if jump.isNone then .ready else .done) jump)))/\
        Sat w0 (W3.putObj l (.loop (rec (if jump.isNone then .ready else .done) jump))) (.sem (Frame.bun (A++ [.sem (Frame.obj l (.loop (rec (if jump.isNone then .ready else .done) jump))),dfE Dk true]))::(Sh++ [.sem rest])):=fun jump A W3 hA=>by
      have h6:Sat w0 W3 ((Sh++ [.sem rest]++(A++ [dfE Dk true]))++ .sem (Frame.obj l (.loop {rec .ready none with state:= .busy})):: []):=by
        have:=Sat.unbun (l1:=A++Sh) (l3:= []) (by rw [List.append_assoc];exact hA)
        exact this.perm (Yg fun f=>by simp only [List.map_append,List.map_cons,List.map_nil,List.sum_append,List.sum_cons,List.sum_nil];omega)
      have hlb:W3.heap[l]? =some (.loop {rec .ready none with state:= .busy}):=h6.get
      have hr:=run_endRound (P:=P) jump hlb
      have h7:=h6.putObj (o':= .loop (rec (if jump.isNone then .ready else .done) jump))
      refine⟨by rw [xc] at hr⊢;exact hr,?_⟩
      have h8:Sat w0 (W3.putObj l (.loop (rec (if jump.isNone then .ready else .done) jump))) ((Sh++ [.sem rest])++(A++ [.sem (Frame.obj l (.loop (rec (if jump.isNone then .ready else .done) jump))),dfE Dk true])):=by
        exact h7.perm (Yg fun f=>by simp only [List.map_append,List.map_cons,List.map_nil,List.sum_append,List.sum_cons,List.sum_nil];omega)
      exact h8.bundle.perm List.perm_append_comm
    intro e a3 W3 hp
    cases e with
    | normal=>
      obtain⟨s',hn,hA⟩:=hp
      obtain⟨hr,h6⟩:=fin none _ _ hA
      exact⟨_,_,hr,_,rfl,.inl ⟨rfl,s',hn,h6⟩⟩
    | ret=>
      obtain⟨t,hn,hj,hA⟩:=hp
      obtain⟨hr,h6⟩:=fin (some .ret) _ _ hA
      refine⟨_,_,hr,_,rfl,.inr ⟨rfl,t,hn,?_⟩⟩
      simp only [D',hj];exact h6
    | exit id=>
      obtain⟨t,hn,hj,hA⟩:=hp
      obtain⟨hr,h6⟩:=fin (some (.exit id)) _ _ hA
      refine⟨_,_,hr,_,rfl,.inr ⟨rfl,t,hn,?_⟩⟩
      simp only [D',hj];exact h6
    |goto t=>exact hp.elim
    |panic ch=>exact hp.elim
    |outgrown=>exact hp.elim
  ·
    have out:∀(st:LoopState) (pe:Option Code) (A:List Ent) (rest:Frame) (W2:World),st≠ .busy->Sat w0 W2 (.sem (Frame.bun (A++ [.sem (Frame.obj l (.loop (rec st pe))),dfE Dk true]))::(Sh++ [.sem rest]))->
        (Instr.endLoop l).run P W2= .ok pe (W2.putObj l (.loop {rec st pe with state:= .exhausted}))/\Sat w0 (W2.putObj l (.loop {rec st pe with state:= .exhausted})) (A++(Sh++ [.sem rest,dfE Dk true])):=fun st pe A rest W2 hst h=>by
      have h1:=Sat.unbun (l1:= []) h
      have h2:Sat w0 W2 ((A++(Sh++ [.sem rest,dfE Dk true]))++ .sem (Frame.obj l (.loop (rec st pe))):: []):=by
        exact h1.perm (Yg fun f=>by simp only [List.map_append,List.map_cons,List.map_nil,List.sum_append,List.sum_cons,List.sum_nil];omega)
      have hl:W2.heap[l]? =some (.loop (rec st pe)):=h2.get
      have h3:=h2.putObj (o':= .loop {rec st pe with state:= .exhausted})
      refine⟨?_,h3.sub (List.sublist_append_left _ _)⟩
      have:=run_endLoop (P:=P) hl (by rw [xc];exact hst)
      rw [xc] at this⊢;exact this
    rintro e W2 ⟨v,rfl,h⟩
    have hF':∀{L'},Frd a n ds L'->Frd {a with defers:= [mrk Dk]++a.defers} n (mrk Dk::ds) L':=fun h=>⟨h.size,by rw [<-h.defers];rfl,h.get⟩
    rcases h with⟨s,rest,qB,h⟩|⟨t,rest,qB,h⟩
    · obtain⟨h1,h2⟩:=out .ready none _ rest W2 (by simp) h
      exact⟨none,_,h1,aU Dk s rest _ qB h2 _ (hF' hF)⟩
    · obtain⟨h1,h2⟩:=out .done (some (jc t)) _ rest W2 (by simp) h
      refine⟨some (jc t),_,h1,?_⟩
      have h3:=aB Dk t rest _ qB h2 _ (hF' hF)
      rcases hjc t with hj|⟨id,hj⟩
      · rw [hj] at h3⊢;exact wpIn_ret h3
      · rw [hj] at h3⊢;exact wpIn_exit h3
end
end Go.Proofs.Gw
namespace Go.Proofs.YtkichmnjjblodaaGreat
open Go Go.RowKit Go.Proofs.Gw
variable {cnt ln:Int->Int} {pt:Int->Int->Int}
theorem pl_60:ZN Tryz.prog 60=true:=by kernel_rfl
def Up(u:Int):Nat->List Int
  |0=> []
  |t+1=>Up u t++ [u-1-t]
def dwn(u x:Int):List Int:=Up u (u-1-x).toNat
theorem Zfb{u x:Int}(h:x<u):dwn u (x-1)=dwn u x++ [x]:=by
  unfold dwn
  rw [show(u-1-(x-1)).toNat=(u-1-x).toNat+1 by omega,Up,show u-1-((u-1-x).toNat:Int)=x by omega]
theorem ZdH(u:Int):dwn u (u-1)= []:=by
  unfold dwn;rw [show(u-1-(u-1)).toNat=0 by omega];rfl
def WQ(ln:Int->Int)(pt:Int->Int->Int)(cnt:Int->Int)(l:List Int):List (List Int):=l.flatMap fun i=>List.replicate (cnt i).toNat (lst (ln i) (pt i))
theorem TL(ln:Int->Int)(pt:Int->Int->Int)(cnt:Int->Int)(l:List Int)(x:Int):WQ ln pt cnt (l++ [x])=WQ ln pt cnt l++List.replicate (cnt x).toNat (lst (ln x) (pt x)):=by simp [WQ]
theorem KR{ln cnt:Int->Int}{pt:Int->Int->Int}{u:Int}(u0:0<=u)(hc:∀k,0<=k->k<u->0<=cnt k):∀t:Nat,(t:Int)<=u->((WQ ln pt cnt (Up u t)).length:Int)=psum (fun _=>1) cnt u.toNat-psum (fun _=>1) cnt (u-t).toNat
  |0,_=>by simp [Up,WQ]
  | t+1,ht=>by
    have h1:=KR (ln:=ln) (pt:=pt) u0 hc t (by omega)
    have h2:=hc (u-1-t) (by omega) (by omega)
    have h3:=YG (fun _=>1) cnt (i:=u-1-t) (by omega)
    rw [Up,TL,List.length_append,List.length_replicate]
    rw [show u-1-(t:Int)+1=u-t by omega] at h3
    rw [show u-((t+1:Nat):Int)=u-1-t by omega]
    push_cast
    rw [h1,h3,Int.toNat_of_nonneg h2];omega
theorem UY{u x c:Int}(hc:∀k,0<=k->k<u->0<=cnt k)(x0:0<=x)(x1:x<u)(c0:0<=c)(c1:c<cnt x):((WQ ln pt cnt (dwn u x)++List.replicate c.toNat (lst (ln x) (pt x))).length:Int)<psum (fun _=>1) cnt u.toNat:=by
  have h1:=KR (ln:=ln) (pt:=pt) (by omega) hc (u-1-x).toNat (by omega)
  have h2:=YG (fun _=>1) cnt x0
  have h3:=W0 (d:=cnt) (f:=fun _=>1) (i:=0) (n:=x.toNat) (by omega) fun k hk=>by have:=hc k (by omega) (by omega);omega
  rw [List.length_append,List.length_replicate]
  unfold dwn
  push_cast
  rw [h1,show(u-((u-1-x).toNat:Int)).toNat=(x+1).toNat by omega,h2]
  simp only [psum] at h3
  omega
theorem Zij{vV:Value}{u:Int}{pv:Int->Value}(w0:World)(hV:VAt w0 vV u pv ln pt cnt):
    Calls Tryz.prog 196 [vV].toArray w0 fun e w=>∃v,e= .returned v/\∃g,v= .func (.func 213) #[] #[.pointer (some ⟨g,0,none⟩)]/\Sat w0 w [.blk g [vV]]:=by
  refine zenG Tryz.func196 Tryz.ntmps196 fun w hS=> ?_
  refine zsr<|zla (xbx (cs:= [_]) hS (hc:=Slh.cells hV.row.slh)) ?_;rintro _ w ⟨g1,rfl,hS⟩
  refine(zP)<|zlz<|(zV xmf)<|(zP)<|zx1<|zf1 ⟨_,rfl,?_⟩
  exact⟨_,rfl,hS⟩
theorem Zik{vV:Value}{u:Int}{pv:Int->Value}{pt:Int->Int->Int}{cnt:Int->Int}{gq:Nat}{St:Type}(qd:St->List Int)(Inv:St->Prop)(s0:St)(hs0:qd s0= [])(hI0:Inv s0)(w0:World)(hsV:Slh vV u)(hrV:∀k,0<=k->k<u->Slh (pv k) (ln k)):ItC (St:=St) (X:=Int) (Tt:=Unit) Tryz.prog w0 213 [.pointer (some ⟨gq,0,none⟩)] [.blk gq [vV],.own vV 2 107 u (Zg pv cnt),.sem (Frame.rows 3 u pv ln pt)] (fun x=> [.int .i64 x,.agg #[pv x,.int .i64 (cnt x)]]) (fun s x rest=>Inv s/\0<=x/\x<u/\qd s=dwn u x) (fun s x s1=>qd s1=qd s++ [x]/\Inv s1) (fun _ _ _=>False) (s0) (fun s rest=>Inv s/\qd s=dwn u (-1)) (fun _ _=>False):=by
  intro l C D w hS hY
  have hu:=hsV.n0;have hu1:=hsV.n1
  refine ZeI Tryz.func213 Tryz.ntmps213 ?_
  refine hsq<|hrz ?_
  refine zlv (xlb 1 pl_60 hS) ?_
  refine zlv (xln ZO hsV) ?_
  refine zlv (Zp (r:=u-1)) ?_
  refine zlv xas ?_
  refine zln<|zh<|htn<|hbk<|hlp (fun mm M w=>∃(s:St) (i:Int),mm=((i+1).toNat)/\(-1<=i)/\(i<u)/\(Inv s)/\(qd s=dwn u i)/\M= [(0,.func (.yield l) #[] #[]),(1,.pointer (some ⟨gq,0,none⟩)),(3,.int .i64 i)]/\Sat w0 w [.sem (C s),.blk gq [vV],.own vV 2 107 u (Zg pv cnt),.sem (Frame.rows 3 u pv ln pt)]) ⟨s0,u-1,rfl,(by omega),(by omega),?_,?_,rfl,hS⟩ ?_
  ·
   exact hI0
  ·
   rw [hs0];exact(ZdH u).symm
  clear hS w
  rintro mm M w ⟨s,i,rfl,h0,h1,hI,hh,rfl,hS⟩
  refine hsq<|hsq<|hrz ?_
  refine zs2 ?_
  refine zln<|zh<|htn ?_
  refine YZ ?_ ?_<;>intro hc
  ·
   refine hsk<|htn<|hsq<|hbk<|hsq<|hrg ?_
   iterate 2 refine hlv xmv ?_
   refine hlv (xlb 1 pl_60 hS) ?_
   refine hlv xmv ?_
   refine hlv (xix (kk:=2*i) ZO hsV) ?_
   refine hlv (xlw (cs:= [(pv i),.int .i64 (cnt i)]) ZH (hS.rowN 2 rfl) (ZD (k:=2*i) (i:=i) pv cnt (by omega))) ?_
   refine hly (hY s i _ w ⟨hI,by omega,by omega,hh⟩ (Sat.bundle (l1:= [_,_,_,_]) (l2:= []) hS)) ?_;rintro _ w (⟨rfl,sy1,qu,hS⟩|⟨rfl,ty1,xd,hS⟩)
   ·
    replace hS:=Sat.unbundle (l1:= [_,_,_,_]) (l3:= []) hS
    replace hS:=hS.n4
    refine hlv xnt ?_
    refine hln<|htn<|hcf<|hsk<|zbn<|htn<|hrz ?_
    refine zlv xmv ?_
    refine zlv (Zp (r:=i-1)) ?_
    refine zlv xas ?_
    refine zln<|zh<|hlq ⟨sy1,i-1,rfl,(by omega),(by omega),?_,?_,rfl,hS⟩
    ·
     exact qu.2
    ·
     rw [qu.1,hh];exact(Zfb h1).symm
   ·
    replace hS:=Sat.unbundle (l1:= [_,_,_,_]) (l3:= []) hS
    replace hS:=hS.n4
    refine hlv xnf ?_
    refine hln<|htn<|hct<|hrt<|zbr<|ztr<|ztr<|zbr<|zf0 ⟨_,rfl,?_⟩
    exact xd.elim
  refine hxt<|ztx<|ztx<|zbh<|XD ⟨_,rfl,?_⟩
  exact .inl ⟨s,_,⟨hI,by rw [hh,show i= -1 by omega]⟩,Sat.bundle (l1:= [_,_,_,_]) (l2:= []) hS⟩
end Go.Proofs.YtkichmnjjblodaaGreat
namespace Go.Proofs.YtkichmnjjblodaaGreat
open Go Go.RowKit Go.Proofs.Gw
theorem Zkk:Zc Tryz.prog 196=true:=by kernel_rfl
theorem Zka:Zc Tryz.prog 213=true:=by kernel_rfl
theorem pl_208:ZN Tryz.prog 208=true:=by kernel_rfl
structure BX where
  v:Value
  n:Int
  f:Int->Int
theorem Zii {vV:Value} {u:Int} {pv:Int->Value} {ln:Int->Int} {pt:Int->Int->Int} {cnt:Int->Int} {gq:Nat} {St:Type} (qd:St->List (List Int)) (Inv:St->Prop) (s0:St) (hs0:qd s0= []) (hI0:Inv s0) (w0:World) (hsV:Slh vV u) (hrV:∀k,0<=k->k<u->Slh (pv k) (ln k)) (hlc:∀k,0<=k->k<u->ln k<=1000000) (hcn:∀k,0<=k->k<u->0<=cnt k/\cnt k<=1000000000):ItG (St:=St) (X:=BX) (Tt:=Unit) Tryz.prog w0 195 [.pointer (some ⟨gq,0,none⟩)] [.blk gq [vV],.own vV 2 107 u (Zg pv cnt),.sem (Frame.rows 3 u pv ln pt)] (fun x=> [x.v]) (fun x=> [.own x.v 1 3 x.n (ints x.f)]) (fun s x rest=>Inv s/\Slh x.v x.n/\((qd s).length:Int)<psum (fun _=>1) cnt u.toNat/\∃i,0<=i/\i<u/\x.n=ln i/\x.f=pt i) (fun s x s1=>qd s1=qd s++ [lst x.n x.f]/\Inv s1) (fun _ _ _=>False) (s0) (fun s rest=>Inv s/\qd s=WQ ln pt cnt (dwn u (-1))) (fun _ _=>False):=by
  intro l C D w hS hY
  have hu:=hsV.n0;have hu1:=hsV.n1
  refine Zmf Tryz.func195 Tryz.ntmps195 ?_
  refine hsq<|hrz ?_
  refine zla (xbx (cs:= [_]) hS) ?_;rintro _ w ⟨g1,rfl,hS⟩
  replace hS:=hS.n5
  refine zln<|zh<|htn<|hsq<|hrz ?_
  refine zlv (xlb 1 pl_60 hS) ?_
  refine zlc (xc0 Zkk) (Zij (u:=u) (pv:=pv) (ln:=ln) (pt:=pt) (cnt:=cnt) w (⟨(hS.rowN 2 rfl),fun k k0 k1=>hS.rowIn 3 rfl k0 k1,fun k k0 k1=>hS.roomIn 3 rfl k0 k1⟩:VAt _ vV u pv ln pt cnt)) ?_;rintro _ w ⟨g2,rfl,hS'⟩
  replace hS:Sat w0 w [.sem (C s0),.blk gq [vV],.own vV 2 107 u (Zg pv cnt),.sem (Frame.rows 3 u pv ln pt),.blk g1 [.func (.yield l) #[] #[]],.blk g2 [vV]]:=hS.comp hS';clear hS'
  refine zln<|zh<|htn<|hbk<| ?_
  refine hrf (St:=St×List Int) (X:=Int) (Tt:=Unit) (fun s=> [.sem (C s.1),.blk gq [vV],.blk g1 [.func (.yield l) #[] #[]]]) (fun t=> []) (fun _=> .ret) (s0, []) (fun x M es=>∃(g3:Nat),M= [(0,.func (.yield l) #[] #[]),(1,.pointer (some ⟨gq,0,none⟩)),(2,.pointer (some ⟨g1,0,none⟩)),(5,vV),(6,.func (.func 213) #[] #[.pointer (some ⟨g2,0,none⟩)]),(7,.int .i64 x),(8,.agg #[(pv x),.int .i64 (cnt x)]),(4,.pointer (some ⟨g3,0,none⟩))]/\es= [.blk g3 [(pv x),.int .i64 (cnt x)]]) (Zik (gq:=g2) (fun s=>s.2) (fun s=>Inv s.1/\qd s.1=WQ ln pt cnt s.2) (s0, []) rfl ⟨hI0,hs0⟩ w0 hsV hrV) (hS.pk [0,1,4,5,2,3]) Zka (fun _=>rfl) (fun _=> .inl rfl) ?_ ?_ ?_ ?_
  ·
   intro lq s x rest w qr qL hrr hS
   obtain⟨⟨hI1,hh1⟩,x0,x1,hs2⟩:=qr
   have hlx:=hlc x x0 x1;have hcx:=hcn x x0 x1
   replace hS:=hS.n7
   refine hrz ?_
   refine zla (xal (cs:= [_,_]) Yo hS) ?_;rintro _ w ⟨g3,rfl,hS⟩
   replace hS:=hS.n8
   refine zle (xsw 7 ZH hS (hd:=(Za (hrV x (by omega) (by omega)).one (Za rfl Zi)))) ?_;clear hS;rintro w hS
   replace hS:=hS.n8
   refine zln<|zh<|ZeJ ⟨g3,rfl,rfl⟩ hS
  ·
   rintro lq s x _ _ rest w qr ⟨g3,rfl,rfl⟩ qL hrr hS
   obtain⟨⟨hI1,hh1⟩,x0,x1,hs2⟩:=qr
   have hlx:=hlc x x0 x1;have hcx:=hcn x x0 x1
   replace hS:=hS.n8
   refine hbk<|hsq<|hrz ?_
   refine zlv (xfb 1 fd_107_1) ?_
   refine zlv (xlb 7 pl_3 hS) ?_
   refine zlv xmv ?_
   refine zln<|zh<|htn<|hbk<|hlp (fun mm M w=>∃(s3:St) (c:Int),mm=((cnt x-c).toNat)/\(0<=c)/\(c<=cnt x)/\(Inv s3)/\(qd s3=WQ ln pt cnt s.2++List.replicate c.toNat (lst (ln x) (pt x)))/\M= [(2,.pointer (some ⟨g1,0,none⟩)),(4,.pointer (some ⟨g3,0,none⟩)),(10,.int .i64 (cnt x)),(11,.int .i64 c)]/\Sat w0 w [.sem (C s3),.blk gq [vV],.blk g1 [.func (.yield l) #[] #[]],.blk g2 [vV],.own vV 2 107 u (Zg pv cnt),.sem (Frame.rows 3 u pv ln pt),.sem qL,.blk g3 [(pv x),.int .i64 (cnt x)]]) ⟨s.1,0,rfl,(by omega),(by omega),?_,?_,rfl,hS⟩ ?_
   ·
    exact hI1
   ·
    rw [hh1];simp
   clear hS w
   rintro mm M w ⟨s3,c,rfl,c0,c1,hI3,hh3,rfl,hS⟩
   refine hsq<|hrz ?_
   refine zlv Z4 ?_
   refine zln<|zh<|htn<|hsq ?_
   refine YZ ?_ ?_<;>intro hc
   ·
    refine hsk<|htn<|hsq<|hbk<|hsq ?_
    refine hdr 6 mx_ hS ?_;clear hS;intro w hS
    refine hd2 0 1 ?_ ?_
    ·
     refine hov (xlb 2 pl_208 hS) ?_
     refine hd1 1 ?_
     refine hov (xfb 0 fd_107_0) ?_
     refine hd1 2 ?_
     refine hov (xlb 7 pl_22 hS) ?_
     refine hd1 3 ?_
     refine hoc (xc0 cl_65) (c_clone (n:=(ln x)) (f:=(pt x)) w (hS.rowIn (k:=x) 5 rfl (by omega) (by omega)) (by omega)) ?_;rintro vq1 w ⟨_,rfl,qb,hS'⟩
     replace hS:Sat w0 w [.sem (C s3),.blk gq [vV],.blk g1 [.func (.yield l) #[] #[]],.blk g2 [vV],.own vV 2 107 u (Zg pv cnt),.sem (Frame.rows 3 u pv ln pt),.sem qL,.blk g3 [(pv x),.int .i64 (cnt x)],.own vq1 1 3 (ln x) (ints (pt x))]:=hS.comp hS';clear hS'
     refine hd1 4 ?_
     replace hS:=hS.pk [0,1,4,5,2,3,6,7,8]
     replace hS:=hS.n9
     replace hS:=hS.pk [0,1,2,3,8,4,5,6,7]
     replace hS:=hS.n9
     refine hoy (hY s3 ⟨vq1,ln x,pt x⟩ _ w ⟨hI3,qb,by rw [hh3,hs2];exact UY (fun k k0 k1=>(hcn k k0 k1).1) x0 x1 c0 (by omega),x,x0,x1,rfl,rfl⟩ (Sat.bundle (l1:= [_,_,_,_,_]) hS)) ?_;rintro _ w (⟨rfl,sy1,qu,hS⟩|⟨rfl,ty1,xd,hS⟩)
     ·
      replace hS:=Sat.unbundle (l1:= [_,_,_,_]) (l3:= []) hS
      replace hS:=hS.n8
      refine hd1 5 ?_
      refine hov xnt ?_
      refine hd0<|htn<|hcf<|hsk<|zbn<|htn<|hrz ?_
      refine zlv (Zh (r:=c+1)) ?_
      refine zlv xmv ?_
      refine zln<|zh<|hlq ⟨sy1,c+1,rfl,(by omega),(by omega),?_,?_,rfl,hS.pk [0,1,4,5,2,3,6,7]⟩
      ·
       exact qu.2
      ·
       rw [qu.1,hh3,show(c+1).toNat=c.toNat+1 by omega,List.replicate_succ',List.append_assoc]
     ·
      replace hS:=Sat.unbundle (l1:= [_,_,_,_]) (l3:= []) hS
      replace hS:=hS.n8
      refine hd1 5 ?_
      refine hov xnf ?_
      refine hd0<|htn<|hct<|hrt<|zbr<|ztr<|ztr<|zbr<|zbr<|ZeH () xd.elim rfl (hS.pk [5,2,3,6])
    ·
     refine hov (xfb 0 fd_107_0) ?_
     refine hd2 0 2 ?_ ?_
     ·
      refine hov (xlb 2 pl_208 hS) ?_
      refine hd1 2 ?_
      refine hov (xlb 7 pl_22 hS) ?_
      refine hd1 3 ?_
      refine hoc (xc0 cl_65) (c_clone (n:=(ln x)) (f:=(pt x)) w (hS.rowIn (k:=x) 5 rfl (by omega) (by omega)) (by omega)) ?_;rintro vq1 w ⟨_,rfl,qb,hS'⟩
      replace hS:Sat w0 w [.sem (C s3),.blk gq [vV],.blk g1 [.func (.yield l) #[] #[]],.blk g2 [vV],.own vV 2 107 u (Zg pv cnt),.sem (Frame.rows 3 u pv ln pt),.sem qL,.blk g3 [(pv x),.int .i64 (cnt x)],.own vq1 1 3 (ln x) (ints (pt x))]:=hS.comp hS';clear hS'
      refine hd1 4 ?_
      replace hS:=hS.pk [0,1,4,5,2,3,6,7,8]
      replace hS:=hS.n9
      replace hS:=hS.pk [0,1,2,3,8,4,5,6,7]
      replace hS:=hS.n9
      refine hoy (hY s3 ⟨vq1,ln x,pt x⟩ _ w ⟨hI3,qb,by rw [hh3,hs2];exact UY (fun k k0 k1=>(hcn k k0 k1).1) x0 x1 c0 (by omega),x,x0,x1,rfl,rfl⟩ (Sat.bundle (l1:= [_,_,_,_,_]) hS)) ?_;rintro _ w (⟨rfl,sy1,qu,hS⟩|⟨rfl,ty1,xd,hS⟩)
      ·
       replace hS:=Sat.unbundle (l1:= [_,_,_,_]) (l3:= []) hS
       replace hS:=hS.n8
       refine hd1 5 ?_
       refine hov xnt ?_
       refine hd0<|htn<|hcf<|hsk<|zbn<|htn<|hrz ?_
       refine zlv (Zh (r:=c+1)) ?_
       refine zlv xmv ?_
       refine zln<|zh<|hlq ⟨sy1,c+1,rfl,(by omega),(by omega),?_,?_,rfl,hS.pk [0,1,4,5,2,3,6,7]⟩
       ·
        exact qu.2
       ·
        rw [qu.1,hh3,show(c+1).toNat=c.toNat+1 by omega,List.replicate_succ',List.append_assoc]
      ·
       replace hS:=Sat.unbundle (l1:= [_,_,_,_]) (l3:= []) hS
       replace hS:=hS.n8
       refine hd1 5 ?_
       refine hov xnf ?_
       refine hd0<|htn<|hct<|hrt<|zbr<|ztr<|ztr<|zbr<|zbr<|ZeH () xd.elim rfl (hS.pk [5,2,3,6])
     ·
      refine hov (xlb 7 pl_22 hS) ?_
      refine hd2 0 3 ?_ ?_
      ·
       refine hov (xlb 2 pl_208 hS) ?_
       refine hd1 3 ?_
       refine hoc (xc0 cl_65) (c_clone (n:=(ln x)) (f:=(pt x)) w (hS.rowIn (k:=x) 5 rfl (by omega) (by omega)) (by omega)) ?_;rintro vq1 w ⟨_,rfl,qb,hS'⟩
       replace hS:Sat w0 w [.sem (C s3),.blk gq [vV],.blk g1 [.func (.yield l) #[] #[]],.blk g2 [vV],.own vV 2 107 u (Zg pv cnt),.sem (Frame.rows 3 u pv ln pt),.sem qL,.blk g3 [(pv x),.int .i64 (cnt x)],.own vq1 1 3 (ln x) (ints (pt x))]:=hS.comp hS';clear hS'
       refine hd1 4 ?_
       replace hS:=hS.pk [0,1,4,5,2,3,6,7,8]
       replace hS:=hS.n9
       replace hS:=hS.pk [0,1,2,3,8,4,5,6,7]
       replace hS:=hS.n9
       refine hoy (hY s3 ⟨vq1,ln x,pt x⟩ _ w ⟨hI3,qb,by rw [hh3,hs2];exact UY (fun k k0 k1=>(hcn k k0 k1).1) x0 x1 c0 (by omega),x,x0,x1,rfl,rfl⟩ (Sat.bundle (l1:= [_,_,_,_,_]) hS)) ?_;rintro _ w (⟨rfl,sy1,qu,hS⟩|⟨rfl,ty1,xd,hS⟩)
       ·
        replace hS:=Sat.unbundle (l1:= [_,_,_,_]) (l3:= []) hS
        replace hS:=hS.n8
        refine hd1 5 ?_
        refine hov xnt ?_
        refine hd0<|htn<|hcf<|hsk<|zbn<|htn<|hrz ?_
        refine zlv (Zh (r:=c+1)) ?_
        refine zlv xmv ?_
        refine zln<|zh<|hlq ⟨sy1,c+1,rfl,(by omega),(by omega),?_,?_,rfl,hS.pk [0,1,4,5,2,3,6,7]⟩
        ·
         exact qu.2
        ·
         rw [qu.1,hh3,show(c+1).toNat=c.toNat+1 by omega,List.replicate_succ',List.append_assoc]
       ·
        replace hS:=Sat.unbundle (l1:= [_,_,_,_]) (l3:= []) hS
        replace hS:=hS.n8
        refine hd1 5 ?_
        refine hov xnf ?_
        refine hd0<|htn<|hct<|hrt<|zbr<|ztr<|ztr<|zbr<|zbr<|ZeH () xd.elim rfl (hS.pk [5,2,3,6])
      ·
       refine hoc (xc0 cl_65) (c_clone (n:=(ln x)) (f:=(pt x)) w (hS.rowIn (k:=x) 5 rfl (by omega) (by omega)) (by omega)) ?_;rintro vq1 w ⟨_,rfl,qb,hS'⟩
       replace hS:Sat w0 w [.sem (C s3),.blk gq [vV],.blk g1 [.func (.yield l) #[] #[]],.blk g2 [vV],.own vV 2 107 u (Zg pv cnt),.sem (Frame.rows 3 u pv ln pt),.sem qL,.blk g3 [(pv x),.int .i64 (cnt x)],.own vq1 1 3 (ln x) (ints (pt x))]:=hS.comp hS';clear hS'
       refine hd1 0 ?_
       refine hov (xlb 2 pl_208 hS) ?_
       refine hd1 4 ?_
       replace hS:=hS.pk [0,1,4,5,2,3,6,7,8]
       replace hS:=hS.n9
       replace hS:=hS.pk [0,1,2,3,8,4,5,6,7]
       replace hS:=hS.n9
       refine hoy (hY s3 ⟨vq1,ln x,pt x⟩ _ w ⟨hI3,qb,by rw [hh3,hs2];exact UY (fun k k0 k1=>(hcn k k0 k1).1) x0 x1 c0 (by omega),x,x0,x1,rfl,rfl⟩ (Sat.bundle (l1:= [_,_,_,_,_]) hS)) ?_;rintro _ w (⟨rfl,sy1,qu,hS⟩|⟨rfl,ty1,xd,hS⟩)
       ·
        replace hS:=Sat.unbundle (l1:= [_,_,_,_]) (l3:= []) hS
        replace hS:=hS.n8
        refine hd1 5 ?_
        refine hov xnt ?_
        refine hd0<|htn<|hcf<|hsk<|zbn<|htn<|hrz ?_
        refine zlv (Zh (r:=c+1)) ?_
        refine zlv xmv ?_
        refine zln<|zh<|hlq ⟨sy1,c+1,rfl,(by omega),(by omega),?_,?_,rfl,hS.pk [0,1,4,5,2,3,6,7]⟩
        ·
         exact qu.2
        ·
         rw [qu.1,hh3,show(c+1).toNat=c.toNat+1 by omega,List.replicate_succ',List.append_assoc]
       ·
        replace hS:=Sat.unbundle (l1:= [_,_,_,_]) (l3:= []) hS
        replace hS:=hS.n8
        refine hd1 5 ?_
        refine hov xnf ?_
        refine hd0<|htn<|hct<|hrt<|zbr<|ztr<|ztr<|zbr<|zbr<|ZeH () xd.elim rfl (hS.pk [5,2,3,6])
   refine hxt<|ztx<|ztx<|zbh<|zbn<|ZbK (s3,s.2++ [x]) ⟨rfl,hI3,by show qd s3=_;rw [hh3,TL,show c.toNat=(cnt x).toNat by omega]⟩ (hS.pk [0,1,2,3,4,5,6])
  ·
   intro Dk s rest w qB hS
   replace hS:=hS.n8
   refine zbn<|Zme 7 hS fun w hS=>XD ⟨_,rfl,?_⟩
   replace hS:=hS.pk [0,1,4,5,2,3,6,7]
   exact .inl ⟨s.1,_,⟨qB.1.1,by rw [qB.1.2,qB.2]⟩,Sat.bundle (l1:= [_,_,_,_]) hS⟩
  ·
   intro Dk t rest w qB hS
   replace hS:=hS.n5
   exact qB.elim
theorem Zf1{vV:Value}{u:Int}{pv:Int->Value}{ln:Int->Int}{pt:Int->Int->Int}{cnt:Int->Int}(w0:World)(hV:VAt w0 vV u pv ln pt cnt):
    Calls Tryz.prog 168 [vV].toArray w0 fun e w=>∃v,e= .returned v/\∃g,v= .func (.func 195) #[] #[.pointer (some ⟨g,0,none⟩)]/\Sat w0 w [.blk g [vV]]:=by
  refine zenG Tryz.func168 Tryz.ntmps168 fun w hS=> ?_
  refine zsr<|zla (xbx (cs:= [_]) hS (hc:=Slh.cells hV.row.slh)) ?_;rintro _ w ⟨g1,rfl,hS⟩
  refine(zP)<|zlz<|(zV xmf)<|(zP)<|zx1<|zf1 ⟨_,rfl,?_⟩
  exact⟨_,rfl,hS⟩
end Go.Proofs.YtkichmnjjblodaaGreat
namespace Go.Proofs.YtkichmnjjblodaaGreat
open Go Go.RowKit Go.Proofs.Gw
def tA(a m:List Int):List Int:=List.zipWith (fun x y=>x-min x y) a m
def tM(a m:List Int):List Int:=List.zipWith (fun x y=>y-min x y) a m
def WI(s:List Int×Us)(a:List Int):List Int×Us:=(tM a s.1,if(tA a s.1).any (fun x=>decide (0<x)) then s.2++ [(tA a s.1,1)] else s.2)
def V9(m0:List Int)(h:List (List Int)):List Int×Us:=h.foldl WI (m0, [])
theorem T5(m0:List Int)(h:List (List Int))(a:List Int):V9 m0 (h++ [a])=WI (V9 m0 h) a:=by simp [V9]
theorem XO(F:Int->Int->Int)(n:Int)(f g:Int->Int):List.zipWith F (lst n f) (lst n g)=lst n fun k=>F (f k) (g k):=by
  apply List.ext_getElem?
  intro k
  rw [List.getElem?_zipWith,lst_get,lst_get,lst_get]
  by_cases hk:(k:Int)<n
  · rw [if_pos hk,if_pos hk,if_pos hk]
  · rw [if_neg hk,if_neg hk,if_neg hk]
theorem V5{n:Int}{f:Int->Int}:(lst n f).any (fun x=>decide (0<x))=true↔∃k,0<=k/\k<n/\0<f k:=by
  rw [List.any_eq_true]
  constructor
  · rintro⟨x,hx,h0⟩
    unfold lst at hx
    obtain⟨k,hk,rfl⟩:=List.mem_map.1 hx
    have:=List.mem_range.1 hk
    exact⟨(k:Int),by omega,by omega,by simpa using h0⟩
  · rintro⟨k,k0,k1,h⟩
    refine⟨f k,?_,by simpa using h⟩
    have:=lst_get n f k.toNat
    rw [Int.toNat_of_nonneg k0,if_pos k1] at this
    exact List.mem_of_getElem? this
def Uu(l:Us):List (List Int):=l.reverse.flatMap fun u=>List.replicate u.2.toNat u.1
theorem RD(u:Int):∀t:Nat,Up (u+1) (t+1)=u::Up u t
  |0=>by simp [Up]
  | t+1=>by
    rw [Up,RD u t,Up,List.cons_append]
    congr 2
    congr 1
    push_cast;omega
theorem ZdY(ln:Int->Int)(pt:Int->Int->Int)(cnt:Int->Int){n:Int}(n0:0<=n):WQ ln pt cnt (dwn n (-1))=Uu (plL n ln pt cnt):=by
  obtain⟨k,rfl⟩:=Int.eq_ofNat_of_zero_le n0
  have e:∀k:Nat,(Up (k:Int) k).map (fun i=>(lst (ln i) (pt i),cnt i))=(plL (k:Int) ln pt cnt).reverse:=by
    intro k
    induction k with
    |zero=>simp [Up,plL]
    |succ k ih=>rw [show((k+1:Nat):Int)=(k:Int)+1 by omega,RD,List.map_cons,ih,X9 (by omega),List.reverse_append];rfl
  unfold WQ Uu dwn
  rw [show((k:Int)-1-(-1)).toNat=k by omega,<-e k,List.flatMap_map]
structure TSt where
  h:List (List Int)
  M:Int->Int
  vO:Value
  n:Int
  vv:Int->Value
  P:Int->Int->Int
  C:Int->Int
def TInv(p:Prob)(m0:List Int)(s:TSt):Prop:=(lst p.m s.M,plL s.n (fun _=>p.m) s.P s.C)=V9 m0 s.h/\Slh s.vO s.n/\(∀k,0<=k->k<p.m->0<=s.M k/\s.M k<=2000000000)/\s.n<=s.h.length/\∀k,0<=k->k<s.n->s.C k=1
theorem TInv.yes{p:Prob}{m0:List Int}{s:TSt}{a a2 M2:Int->Int}(hs:(lst p.m s.M,plL s.n (fun _=>p.m) s.P s.C)=V9 m0 s.h)(n0:0<=s.n)(ha:∀k,0<=k->k<p.m->a2 k=a k-min (a k) (s.M k))(hM:∀k,0<=k->k<p.m->M2 k=s.M k-min (a k) (s.M k))(hx:∃k,0<=k/\k<p.m/\0<a2 k){P2:Int->Int->Int}{C2:Int->Int}(hP:∀k,0<=k->k<s.n->P2 k=s.P k)(hP2:P2 s.n=a2)(hC:∀k,0<=k->k<s.n->C2 k=s.C k)(hC2:C2 s.n=1):
    (lst p.m M2,plL (s.n+1) (fun _=>p.m) P2 C2)=V9 m0 (s.h++ [lst p.m a]):=by
  rw [T5,<-hs]
  unfold WI tM tA
  dsimp only
  rw [XO,XO,Yj (f:=fun k=>a k-min (a k) (s.M k)) (g:=a2) fun k k0 k1=>(ha k k0 k1).symm,if_pos (V5.2 hx),Yj (f:=fun k=>s.M k-min (a k) (s.M k)) (g:=M2) fun k k0 k1=>(hM k k0 k1).symm]
  congr 1
  exact Th (ln:=fun _=>p.m) n0 (fun k k0 k1=>⟨rfl,hC k k0 k1,hP k k0 k1⟩) rfl hC2 hP2
theorem TInv.no{p:Prob}{m0:List Int}{s:TSt}{a a2 M2:Int->Int}(hs:(lst p.m s.M,plL s.n (fun _=>p.m) s.P s.C)=V9 m0 s.h)(ha:∀k,0<=k->k<p.m->a2 k=a k-min (a k) (s.M k))(hM:∀k,0<=k->k<p.m->M2 k=s.M k-min (a k) (s.M k))(hx:¬∃k,0<=k/\k<p.m/\0<a2 k):
    (lst p.m M2,plL s.n (fun _=>p.m) s.P s.C)=V9 m0 (s.h++ [lst p.m a]):=by
  rw [T5,<-hs]
  unfold WI tM tA
  dsimp only
  rw [XO,XO,Yj (f:=fun k=>a k-min (a k) (s.M k)) (g:=a2) fun k k0 k1=>(ha k k0 k1).symm,if_neg (fun h=>hx (V5.1 h)),Yj (f:=fun k=>s.M k-min (a k) (s.M k)) (g:=M2) fun k k0 k1=>(hM k k0 k1).symm]
def TrimR(p:Prob)(u:Int)(ln:Int->Int)(pt:Int->Int->Int)(cnt:Int->Int)(out:Us)(e:Int):Prop:=
  (¬PlanOk p u ln pt cnt/\out= []/\e=1)\/(PlanOk p u ln pt cnt/\¬(∀j,0<=j->j<p.m->p.D j<=Zw u pt cnt j)/\out= []/\e=18)\/
  (PlanOk p u ln pt cnt/\(∀j,0<=j->j<p.m->p.D j<=Zw u pt cnt j)/\e=0/\∃N,NormR (plL u ln pt cnt) N/\NormR (V9 (lst p.m fun j=>Zw u pt cnt j-p.D j) (Uu N)).2 out)
theorem Zdv{p:Prob}{u n2:Int}{ln cnt ln2 qh:Int->Int}{pt pt2:Int->Int->Int}(h:PlanOk p u ln pt cnt)(hN:NormR (plL u ln pt cnt) (plL n2 ln2 pt2 qh))(hl2:∀k,0<=k->k<n2->0<=ln2 k):∀k,0<=k->k<n2->ln2 k=p.m/\∀j,0<=j->j<p.m->0<=pt2 k j/\pt2 k j<=2000:=by
  intro k k0 k1
  have hm:(lst (ln2 k) (pt2 k),qh k)∈plL n2 ln2 pt2 qh:=List.mem_iff_getElem?.2 ⟨k.toNat,by rw [plL_get,Int.toNat_of_nonneg k0,if_pos k1]⟩
  obtain⟨y,hy,e1⟩:=hN.keys _ hm
  obtain⟨i,hi⟩:=List.mem_iff_getElem?.1 hy
  rw [plL_get] at hi
  split at hi
  · rename_i hlt
    injection hi with hi
    obtain⟨_,_,hf⟩:=h.2.2 i (by omega) hlt
    have hm1:=h.1.m1
    rw [<-hi] at e1
    dsimp only at e1
    obtain⟨q1,q2⟩:=(Uj (by have:=hf.eq;omega) (hl2 k k0 k1)).1 e1
    refine⟨by have:=hf.eq;omega,fun j j0 j1=> ?_⟩
    rw [<-q2 j j0 (by have:=hf.eq;omega)]
    exact hf.all j j0 (by have:=hf.eq;omega)
  · cases hi
theorem Zdw{p:Prob}{u n2:Int}{ln cnt ln2 qh:Int->Int}{pt pt2:Int->Int->Int}(u0:0<=u)(n0:0<=n2)(h:PlanOk p u ln pt cnt)(hN:NormR (plL u ln pt cnt) (plL n2 ln2 pt2 qh)):psum (fun _=>1) qh n2.toNat<=1000000:=by
  have h1:=hN.wsum fun _=>1
  rw [Ya _ u0,Ya _ n0] at h1
  rw [h1]
  have key:∀t:Nat,(t:Int)<=u->psum (fun _=>1) cnt t<=1000*t:=by
    intro t
    induction t with
    |zero=>intro _;simp [psum]
    |succ t ih=>intro ht;have:=ih (by omega);have:=(h.2.2 t (by omega) (by omega)).2.1;simp only [psum];push_cast;omega
  have h2:=key u.toNat (by omega)
  have h3:=h.2.1
  omega
theorem TB{p:Prob}(hp:p.Ok){k:Int}(k0:0<=k)(k1:k<p.m):0<=p.D k/\p.D k<=1000:=by
  have he:=hp.all k k0 k1
  unfold Prob.each at he;omega
theorem Zdm{C:Int->Int}{n:Int}(h:∀k,0<=k->k<n->C k=1):∀k,0<=k->k<n+1->snoc C n 1 k=1:=fun k k0 k1=>by
  by_cases e:k<n
  · rw [ZA e];exact h k k0 e
  · exact ZB e
end Go.Proofs.YtkichmnjjblodaaGreat
namespace Go.Proofs.YtkichmnjjblodaaGreat
open Go Go.RowKit Go.Proofs.Gw
theorem ZkA:Zc Tryz.prog 169=true:=by kernel_rfl
theorem Zlc{x:Int}(w0:World):
    Calls Tryz.prog 169 [.int .i64 x].toArray w0 fun e w=>∃v,e= .returned v/\v=B (0<x)/\Sat w0 w []:=by
  refine zenG Tryz.func169 Tryz.ntmps169 fun w hS=> ?_
  refine zsr<|(zP)<|zlz<|(zP)<|(zP)<|(zP)<|zx1<|zf1 ⟨_,rfl,?_⟩
  exact⟨Zm (by omega),hS⟩
theorem Zh4{v:Value}{n:Int}{f:Int->Int}(w0:World)(hR:Row w0 v 1 n (ints f)):
    Calls Tryz.prog 159 [v,.func (.func 169) #[] #[]].toArray w0 fun e w=>∃v,e= .returned v/\∃r:Int,v= .int .i64 r/\((r= -1/\∀k,0<=k->k<n->¬(0<f k))\/(0<=r/\r<n/\(0<f r)/\∀k,0<=k->k<r->¬(0<f k)))/\Sat w0 w []:=by
  have hn:=hR.slh.n0;have hn1:=hR.slh.n1
  refine zenG Tryz.func159 Tryz.ntmps159 fun w hS=> ?_
  refine zsr<|(zP)<|zx5<|(zP)<|(zV (xln Zb hR.slh))<|(zP)<|zx6<|zlp (fun mm M w=>∃(i:Int),mm=((n-i).toNat)/\(0<=i)/\(i<=n)/\(∀k,0<=k->k<i->¬(0<f k))/\M= [(0,v),(1,.func (.func 169) #[] #[]),(7,.int .i64 n),(8,.int .i64 i)]/\Sat w0 w []) ⟨0,rfl,(by omega),(by omega),?_,rfl,hS⟩ ?_
  ·
   intro k h0 h1;omega
  clear hS w
  rintro mm M w ⟨i,rfl,h0,h1,qa,rfl,hS⟩
  refine zsr<|(zP)<|zx7<|Ze ?_ ?_<;>intro hc
  ·
   refine zx3<|(zP)<|(zP)<|zlz<|(zP)<|(zP)<|(zP)<|(zV (xix (kk:=i) Zb hR.slh))<|(zV (xlr (u:= .int .i64 (f i)) pl_3 (hR.below hS.below)))<|zlc (xc0 ZkA) (Zlc (x:=(f i)) w) ?_;rintro _ w ⟨rfl,hS'⟩
   replace hS:=hS.cmp hS';clear hS'
   refine zlt<|Ze ?_ ?_<;>intro hc
   ·
    refine zsr<|(zP)<|(zP)<|zx2<|zf1 ⟨_,rfl,?_⟩
    exact⟨i,rfl,.inr ⟨by omega,by omega,‹0<f i›,qa⟩,hS⟩
   refine zx4<|(zV (Zh (r:=i+1)))<|(zP)<|zln<|zlq ⟨i+1,rfl,(by omega),(by omega),?_,rfl,hS⟩
   ·
    intro k h0' h1';rcases Int.lt_or_eq_of_le (show k<=i by omega) with hk|hk;exact qa k h0' hk;rw [hk];assumption
  refine zx8<|(zP)<|zx1<|zf1 ⟨_,rfl,?_⟩
  exact⟨-1,rfl,.inl ⟨rfl,fun k h0 h1=>qa k h0 (by omega)⟩,hS⟩
theorem Zid{v:Value}{n:Int}{f:Int->Int}(w0:World)(hR:Row w0 v 1 n (ints f)):
    Calls Tryz.prog 151 [v,.func (.func 169) #[] #[]].toArray w0 fun e w=>∃v,e= .returned v/\v=B (∃k,0<=k/\k<n/\0<f k)/\Sat w0 w []:=by
  refine zenG Tryz.func151 Tryz.ntmps151 fun w hS=> ?_
  refine zsr<|(zP)<|zlz<|(zP)<|(zP)<|zlc (xc0 WO) (Zh4 (n:=n) (f:=f) w (hR.below hS.below)) ?_;rintro _ w ⟨r1,rfl,hr1,hS'⟩
  replace hS:=hS.cmp hS';clear hS'
  refine(zP)<|(zP)<|zx1<|zf1 ⟨_,rfl,?_⟩
  exact⟨Zm (by
   rcases hr1 with⟨h1,h2⟩|⟨h1,h2,h3,_⟩
   · exact⟨fun h=>by omega,fun⟨k,h4,h5,h6⟩=>absurd h6 (h2 k h4 h5)⟩
   · exact⟨fun _=>⟨_,h1,h2,h3⟩,fun _=>h1⟩),hS⟩
end Go.Proofs.YtkichmnjjblodaaGreat
namespace Go.Proofs.YtkichmnjjblodaaGreat
open Go Go.RowKit Go.Proofs.Gw
theorem ZkB:Zc Tryz.prog 168=true:=by kernel_rfl
theorem Zkl:Zc Tryz.prog 195=true:=by kernel_rfl
theorem Zfk:Zc Tryz.prog 53=true:=by kernel_rfl
theorem ZiB:ZY Tryz.prog 60=some (.slice none 0 0,1,24):=by kernel_rfl
theorem ZfI{vV:Value}{u:Int}{pv:Int->Value}{ln:Int->Int}{pt:Int->Int->Int}{cnt:Int->Int}{vL vD:Value}{p:Prob}(w0:World)(hV:VAt w0 vV u pv ln pt cnt)(h:PAt w0 vL vD p):
    Calls Tryz.prog 126 [.agg #[vL,vD,.int .i64 p.stock,.int .i64 p.kerf],vV].toArray w0 fun e w=>∃v,e= .returned v/\∃r n2 pv2 ln2 pt2 qh e,v= .tuple #[r,.int .i64 e]/\TrimR p u ln pt cnt (plL n2 ln2 pt2 qh) e/\(∀k,0<=k->k<n2->1<=qh k/\qh k<=1000000000)/\n2<=1000000/\Slh r n2/\Sat w0 w [.own r 2 107 n2 (Zg pv2 qh),.sem (Frame.rows 3 n2 pv2 ln2 pt2)]:=by
  have hm:=h.L.slh.n0;have hm1:=h.L.slh.n1;have hd:=h.D.slh.n0;have hd1:=h.D.slh.n1;have hs:=h.is;have hk:=h.ik
  have hu:=hV.row.slh.n0;have hu1:=hV.row.slh.n1
  refine Zhg Tryz.func126 Tryz.ntmps126 fun w hS=> ?_
  refine hsq<|hrz ?_
  refine zla (xbx (cs:= [_,_,_,_]) hS) ?_;rintro _ w ⟨g1,rfl,hS⟩
  refine(zP)<|(zP)<|zln<|zh<|htn<|hsq<|hrz ?_
  refine(zV (xls 0 st_32 hS))<|(zP)<|zlc (xc0 ZcQ) (UX (u:=u) (pv:=pv) (ln:=ln) (pt:=pt) (cnt:=cnt) (p:=p) w (hV.below hS.below) (h.below hS.below)) ?_;rintro _ w ⟨qw,qf,qc,yE,rfl,qA,qo,hS'⟩
  replace hS:=(hS.comp hS').n2;clear hS'
  refine(zP)<|(zP)<|(zP)<|zla (xal (cs:= [_]) Z3 hS) ?_;rintro _ w ⟨g2,rfl,hS⟩
  refine zle (xsb 2 pl_22 hS (hv:=qo.one)) ?_;clear hS;rintro w hS
  refine(zP)<|zln<|zh<|htn<|hsq<|hsq<|hrz ?_
  refine(zP)<|(zP)<|zln<|zh<|htn ?_
  refine YZ ?_ ?_<;>intro hc
  ·
   refine hsq<|hrz ?_
   refine(zP)<|(zP)<|(zP)<|zln<|zh<|htn<|hrt<|ztr<|Zjg<|zf2 ⟨_,rfl,?_⟩
   have hmd:¬PlanOk p u ln pt cnt/\yE=1:=by rcases qA with⟨g1,_,g3⟩|⟨_,_,_,g4⟩;exact⟨g1,g3⟩;omega
   exact⟨_,0,fun _=>undef,fun _=>0,fun _ _=>0,fun _=>0,_,rfl,.inl ⟨hmd.1,rfl,by omega⟩,fun k k0 k1=>by omega,by omega,slh_nil,((hS.sub (.cons _ (.cons _ (.cons _ .slnil)))).addnil 2 107 (Zg (fun _=>undef) (fun _=>0))).addrows 3 (fun _=>undef) (fun _=>0) (fun _ _=>0)⟩
  refine hsk<|htn<|hsq<|hsq<|hrz ?_
  refine zlv (xls 0 st_32 hS) ?_
  obtain⟨qx,bp,zq⟩:PlanOk p u ln pt cnt/\qf=p.m/\qc=Zw u pt cnt:=by rcases qA with⟨_,_,g3⟩|⟨g1,g2,g3,_⟩;omega;exact⟨g1,g2,g3⟩
  have zR:=qx.1.m1;have qz:=qx.1.m2;have hpd:=qx.1.d;have hu3:=qx.2.1
  refine(zP)<|zlc (xc0 Zfk) (TI (u:=u) (pv:=pv) (ln:=ln) (pt:=pt) (cnt:=cnt) (p:=p) w (hV.below hS.below) (h.below hS.below)) ?_;rintro _ w ⟨rfl,hS'⟩
  replace hS:=hS.cmp hS';clear hS'
  refine(zP)<|zln<|zh<|htn ?_
  refine YZ ?_ ?_<;>intro hc
  ·
   refine hsq<|hrz ?_
   refine(zP)<|(zP)<|zln<|zh<|htn<|hrt<|ztr<|Zjg<|zf2 ⟨_,rfl,?_⟩
   exact⟨_,0,fun _=>undef,fun _=>0,fun _ _=>0,fun _=>0,_,rfl,.inr (.inl ⟨qx,fun hh=>‹¬(_/\_)› ⟨qx,hh⟩,rfl,rfl⟩),fun k k0 k1=>by omega,by omega,slh_nil,((hS.sub (.cons _ (.cons _ (.cons _ .slnil)))).addnil 2 107 (Zg (fun _=>undef) (fun _=>0))).addrows 3 (fun _=>undef) (fun _=>0) (fun _ _=>0)⟩
  refine hsk<|htn<|hsq<|hsq<|hrz ?_
  refine zlv (xlb 2 pl_22 hS) ?_
  have bM:∀j,0<=j->j<p.m->p.D j<=Zw u pt cnt j:=(Classical.not_not.1 ‹¬¬(_/\_)›).2
  refine(zV (xln Zb qo))<|(zP)<|zln<|zh<|htn<|hbk<|hlp (fun mm M w=>∃(fM:Int->Int) (i:Int),mm=((qf-i).toNat)/\(0<=i)/\(i<=qf)/\(∀k,0<=k->k<p.m->fM k=if k<i then Zw u pt cnt k-p.D k else Zw u pt cnt k)/\M= [(1,vV),(2,.pointer (some ⟨g1,0,none⟩)),(4,.slice none 0 0),(5,.int .i64 0),(6,.pointer (some ⟨g2,0,none⟩)),(27,.int .i64 qf),(28,.int .i64 i)]/\Sat w0 w [.blk g1 [vL,vD,.int .i64 p.stock,.int .i64 p.kerf],.own qw 1 3 qf (ints fM),.blk g2 [qw]]) ⟨qc,0,rfl,(by omega),(by omega),?_,rfl,hS⟩ ?_
  ·
   intro k k0 k1;rw [if_neg (by omega),zq]
  clear hS w
  rintro mm M w ⟨fM,i,rfl,h0,h1,hf,rfl,hS⟩
  refine hsq<|hrz ?_
  refine(zP)<|zln<|zh<|htn<|hsq ?_
  refine YZ ?_ ?_<;>intro hc
  ·
   refine hsk<|htn<|hsq<|hbk<|hsq<|hrz ?_
   refine zlv xmv ?_
   have hmi:=XA qx.2.2 hu (Int.le_refl _) (j:=i) h0 (by omega)
   have hdi:=TB qx.1 h0 (by omega:i<p.m)
   have hfi:=hf i h0 (by omega)
   rw [if_neg (by omega)] at hfi
   refine(zP)<|zln<|zh<|htn ?_
   refine hdst [0,1,2] [0,2] 11 mx_ hS ?_;clear hS;intro w hS
   refine(zDl 0 (fun w hS=>(xlb 1 pl_22 hS)))<|(zDw 1 xmv)<|(zDw 2 (xix (kk:=i) Zb qo))<|zdl 3 (fun w hS=>(xlr (u:= .int .i64 (fM i)) pl_3 (hS.rowN 1 rfl))) ?_
   refine(zDw 4 (xfb 1 fd_32_1))<|(zDl 5 (fun w hS=>(xlb 0 pl_22 hS)))<|(zDw 6 xmv)<|(zDw 7 (xix (kk:=i) Zb h.D.slh))<|zdla 8 (fun w hS=>(xlr (u:= .int .i64 (p.D i)) pl_3 (h.D.below hS.below))) ?_
   have hbv:=h.iD i
   refine(zDw 9 (Zp (r:=fM i-p.D i)))<|(zDw 10 (xix (kk:=i) Zb qo))<|zde 11 (xso 1 pl_3 hS (Zq _ _ _)) ?_;clear hS;rintro w hS
   refine⟨⟨fun h=>absurd h (by decide),hS.pk [0,2]⟩,?_⟩
   refine zdd<|zh<|zbn<|htn<|hrz ?_
   refine(zV (Zh (r:=i+1)))<|(zP)<|zln<|zh<|hlq ⟨(upd fM i (fM i-p.D i)),i+1,rfl,(by omega),(by omega),?_,rfl,hS⟩
   ·
    intro k k0 k1;unfold upd;by_cases e:k=i
    · rw [if_pos e,if_pos (by omega),e];omega
    · rw [if_neg e,hf k k0 k1];by_cases e2:k<i
      · rw [if_pos e2,if_pos (by omega)]
      · rw [if_neg e2,if_neg (by omega)]
  refine hxt<|ztx<|ztx<|zbh<|htn<|hsq<|hrz ?_
  refine zla (xal (cs:= [_]) ZiB hS) ?_;rintro _ w ⟨g3,rfl,hS⟩
  refine zln<|zh<|htn<|hsq<|hsq<|hrz ?_
  refine(zP)<|zlc (xc0 ZcS) (KP (u:=u) (pv:=pv) (ln:=ln) (pt:=pt) (cnt:=cnt) w (hV.below hS.below) (by omega) (fun k k0 k1=>by have h9:=(qx.2.2 k k0 k1).2.2.eq;omega) (fun k k0 k1=>by have h9:=qx.2.2 k k0 k1;exact⟨h9.1,h9.2.1⟩)) ?_;rintro xL w ⟨_,qH,xx,x8,yd,xI,rfl,xo,xt,yD,x7,xN,hS'⟩
  replace hS:=(hS.comp hS').n6;clear hS'
  have yq:=fun k (k0:0<=k) (k1:k<qH)=>hS.slhIn 5 rfl k0 k1
  have hfM:∀k,0<=k->k<p.m->fM k=Zw u pt cnt k-p.D k:=fun k k0 k1=>by rw [hf k k0 k1,if_pos (by omega)]
  have fH:=fun k k0 k1=>(yq k k0 k1).n0
  have yb:=Zdv qx xo fH
  have j4:=Zdw hu xt qx xo
  refine zlc (xc0 ZkB) (Zf1 (u:=qH) (pv:=xx) (ln:=x8) (pt:=yd) (cnt:=xI) w (⟨(hS.rowN 4 rfl),fun k k0 k1=>hS.rowIn 5 rfl k0 k1,fun k k0 k1=>hS.roomIn 5 rfl k0 k1⟩:VAt _ xL qH xx x8 yd xI)) ?_;rintro _ w ⟨g4,rfl,hS'⟩
  replace hS:=(hS.comp hS').n7;clear hS'
  refine zln<|zh<|htn<|hbk ?_
  replace hS:=hS.addnil 2 107 (Zg (fun _=>Value.slice none 0 0) (fun _=>0))
  replace hS:=hS.addrows 3 (fun _=>Value.slice none 0 0) (fun _=>p.m) (fun _ _=>0)
  refine Zmd (St:=TSt) (X:=BX) (Tt:=Unit) (fun s=> [.blk g1 [vL,vD,.int .i64 p.stock,.int .i64 p.kerf],.blk g2 [qw],.own qw 1 3 qf (ints s.M),.blk g3 [s.vO],.own s.vO 2 107 s.n (Zg s.vv s.C),.sem (Frame.rows 3 s.n s.vv (fun _=>p.m) s.P)]) (fun t=> []) (fun _=> .ret) (⟨[],fM,.slice none 0 0,0,fun _=> .slice none 0 0,fun _ _=>0,fun _=>0⟩:TSt) (fun x M es=>M= [(1,vV),(2,.pointer (some ⟨g1,0,none⟩)),(4,.slice none 0 0),(5,.int .i64 0),(6,.pointer (some ⟨g2,0,none⟩)),(27,.int .i64 qf),(28,.int .i64 i),(29,B (i<qf)),(9,.pointer (some ⟨g3,0,none⟩)),(43,vV),(44,xL),(45,.func (.func 195) #[] #[.pointer (some ⟨g4,0,none⟩)]),(46,x.v),(10,x.v)]/\es= [.own x.v 1 3 x.n (ints x.f)]) (Zii (gq:=g4) (fun s=>s.h) (TInv p (lst p.m fM)) (⟨[],fM,.slice none 0 0,0,fun _=> .slice none 0 0,fun _ _=>0,fun _=>0⟩:TSt) rfl ⟨rfl,slh_nil,fun k k0 k1=>by have h9:=hfM k k0 k1;have h8:=bM k k0 k1;have h7:=XA qx.2.2 hu (Int.le_refl _) k0 k1;have h6:=(TB qx.1 k0 k1).1;have h5:=qx.2.1;show 0<=fM k/\fM k<=_;omega,by simp,fun k k0 k1=>by(have k1:k<0:=k1);omega⟩ w0 xN yq (fun k k0 k1=>by have:=(yb k k0 k1).1;omega) (fun k k0 k1=>by have:=x7 k k0 k1;omega)) (hS.pk [0,2,1,3,7,8,6,4,5]) Zkl (fun _=>rfl) (fun _=> .inl rfl) ?_ ?_ ?_ ?_
  ·
   intro lq s x rest w qr qL hrr hS
   refine hrz ?_
   refine(zP)<|zln<|zh<|ZeJ ⟨rfl,rfl⟩ hS
  ·
   rintro lq s x _ _ rest w qr ⟨rfl,rfl⟩ qL hrr hS
   obtain⟨hIv,hxv,xH,i,i0,i1,hxn,hxf⟩:=qr
   obtain⟨hIp,hlO,hMr,hnh,hC1⟩:=hIv
   have hrO:=fun k (k0:0<=k) (k1:k<s.n)=>hS.slhIn 5 rfl k0 k1
   obtain⟨hfn,hfr⟩:=yb i i0 i1
   rw [<-hxn] at hfn
   rw [<-hxf] at hfr
   have hsn:=hlO.n0
   refine hbk<|hsq<|hsq<|hrz ?_
   refine(zP)<|(zV (xln Zb hxv))<|(zP)<|zln<|zh<|htn<|hbk<|hlp (fun mm M w=>∃(fa:Int->Int) (fm2:Int->Int) (j:Int),mm=((x.n-j).toNat)/\(0<=j)/\(j<=x.n)/\(∀k,0<=k->k<p.m->fa k=if k<j then x.f k-min (x.f k) (s.M k) else x.f k)/\(∀k,0<=k->k<p.m->fm2 k=if k<j then s.M k-min (x.f k) (s.M k) else s.M k)/\M= [(4,.slice none 0 0),(5,.int .i64 0),(6,.pointer (some ⟨g2,0,none⟩)),(9,.pointer (some ⟨g3,0,none⟩)),(10,x.v),(48,.int .i64 x.n),(49,.int .i64 j)]/\Sat w0 w [.blk g1 [vL,vD,.int .i64 p.stock,.int .i64 p.kerf],.blk g2 [qw],.own qw 1 3 qf (ints fm2),.blk g3 [s.vO],.own s.vO 2 107 s.n (Zg s.vv s.C),.sem (Frame.rows 3 s.n s.vv (fun _=>p.m) s.P),.blk g4 [xL],.own xL 2 107 qH (Zg xx xI),.sem (Frame.rows 3 qH xx x8 yd),.sem qL,.own x.v 1 3 x.n (ints fa)]) ⟨x.f,s.M,0,rfl,(by omega),(by omega),?_,?_,rfl,hS⟩ ?_
   ·
    intro k k0 k1;rw [if_neg (by omega)]
   ·
    intro k k0 k1;rw [if_neg (by omega)]
   clear hS w
   rintro mm M w ⟨fa,fm2,j,rfl,j0,j1,hfa,zU,rfl,hS⟩
   refine hsq<|hrz ?_
   refine(zP)<|zln<|zh<|htn<|hsq ?_
   refine YZ ?_ ?_<;>intro hc
   ·
    refine hsk<|htn<|hsq<|hbk<|hsq<|hrz ?_
    refine zlv xmv ?_
    have hxj:=hfr j j0 (by omega)
    have hMj:=hMr j j0 (by omega)
    have fP:=hfa j j0 (by omega)
    have fN:=zU j j0 (by omega)
    rw [if_neg (by omega)] at fP fN
    refine(zP)<|zln<|zh<|htn<|hsq ?_
    refine hdst [0,1,2,3,4,5,6,7,8,9,10] [0,1,2,3,4,5,6,7,8,9,10] 1000 mx_ hS ?_;clear hS;intro w hS
    refine(zDw 0 xmv)<|(zDw 1 xmv)<|(zDw 2 (xix (kk:=j) Zb hxv))<|(zDl 3 (fun w hS=>(xlr (u:= .int .i64 (fa j)) pl_3 (hS.rowN 10 rfl))))<|(zDl 4 (fun w hS=>(xlb 1 pl_22 hS)))<|(zDw 5 xmv)<|(zDw 6 (xix (kk:=j) Zb qo))<|(zDl 7 (fun w hS=>(xlr (u:= .int .i64 (fm2 j)) pl_3 (hS.rowN 2 rfl))))<|(zDw 8 (UJ (r:=(min (fa j) (fm2 j)))))<|(zDw 9 xas)<|zdd<|zh<|htn<|hsq<|hrz ?_
    refine(zP)<|(zP)<|(zV (xix (kk:=j) Zb hxv))<|(zV (xlr (u:= .int .i64 (fa j)) pl_3 (hS.rowN 10 rfl)))<|(zP)<|(zV (Zp (r:=fa j-(min (fa j) (fm2 j)))))<|(zV (xix (kk:=j) Zb hxv))<|zle (xso 10 pl_3 hS (Zq _ _ _)) ?_;clear hS;rintro w hS
    refine zln<|zh<|htn<|hrz ?_
    refine(zV (xlb 1 pl_22 hS))<|(zP)<|(zV (xix (kk:=j) Zb qo))<|(zV (xlr (u:= .int .i64 (fm2 j)) pl_3 (hS.rowN 2 rfl)))<|(zP)<|(zV (Zp (r:=fm2 j-(min (fa j) (fm2 j)))))<|(zV (xix (kk:=j) Zb qo))<|zle (xso 2 pl_3 hS (Zq _ _ _)) ?_;clear hS;rintro w hS
    refine zln<|zh<|zbn<|htn<|hrz ?_
    refine(zV (Zh (r:=j+1)))<|(zP)<|zln<|zh<|hlq ⟨(upd fa j (fa j-(min (fa j) (fm2 j)))),(upd fm2 j (fm2 j-(min (fa j) (fm2 j)))),j+1,rfl,(by omega),(by omega),?_,?_,rfl,hS⟩
    ·
     intro k k0 k1;unfold upd;by_cases e:k=j
     · rw [if_pos e,if_pos (by omega),e];omega
     · rw [if_neg e,hfa k k0 k1];by_cases e2:k<j
       · rw [if_pos e2,if_pos (by omega)]
       · rw [if_neg e2,if_neg (by omega)]
    ·
     intro k k0 k1;unfold upd;by_cases e:k=j
     · rw [if_pos e,if_pos (by omega),e];omega
     · rw [if_neg e,zU k k0 k1];by_cases e2:k<j
       · rw [if_pos e2,if_pos (by omega)]
       · rw [if_neg e2,if_neg (by omega)]
   refine hxt<|ztx<|ztx<|zbh<|htn<|hsq<|hrz ?_
   refine(zP)<|zlc (xc0 WP) (Zid (n:=x.n) (f:=fa) w (hS.rowN 10 rfl)) ?_;rintro _ w ⟨rfl,hS'⟩
   replace hS:=hS.cmp hS';clear hS'
   refine zln<|zh<|htn ?_
   refine YZ ?_ ?_<;>intro hc
   ·
    refine hrz ?_
    refine(zV (xlb 3 pl_60 hS))<|(zP)<|zlv (xany (v:= .agg #[x.v,.int .i64 1]) (hr:=by have hz:=hxv;revert hz;generalize x.v=z;rintro⟨_,_,_,_,rfl,_⟩;show _=_;kernel_rfl)) ?_
    refine zla (xli (n:=1) (len:=1) (pv:= [(0,.agg #[x.v,.int .i64 1])]) (cs:= [x.v,.int .i64 1]) (c:=Zg (fun _=>x.v) (fun _=>1)) ZO Yo hS (hf:=by have hz:=hxv;revert hz;generalize x.v=z;rintro⟨_,_,_,_,rfl,_⟩;show _=_;kernel_rfl)) ?_;rintro v1 w ⟨hS,hv1⟩
    refine zla (xap 4 (r:=s.n+1) ZO Yo hS (hS.rowN 11 rfl) (YQ _ _ _ _ _) (h1:=fun k _ _=>YP (fun _=>hxv.one) k)) ?_;rintro v2 w ⟨hS,hv2⟩
    replace hS:=Sat.merge (l1:= [_,_,_,_,_]) (l2:= [_,_,_,_]) (l3:= [_]) hS (by omega)
    have qW:=fun k (k0:0<=k) (k1:k<s.n+1)=>hS.slhIn 5 rfl k0 k1
    refine zle (xsb 3 pl_60 hS (hv:=hv2.one)) ?_;clear hS;rintro w hS
    refine zln<|zh<|zbn ?_
    rw [hfn,Rx] at hS
    refine ZbK ⟨s.h++ [lst x.n x.f],fm2,v2,s.n+1,gsn s.vv s.n x.v,gsn s.P s.n fa,(snoc s.C s.n 1)⟩ ⟨rfl,(by rw [hfn];exact TInv.yes (a2:=fa) hIp hsn (fun k k0 k1=>(hfa k k0 k1).trans (if_pos (by omega))) (fun k k0 k1=>(zU k k0 k1).trans (if_pos (by omega))) (by obtain⟨k,k0,k1,k2⟩:=hc;exact⟨k,k0,by omega,k2⟩) (fun k k0 k1=>Zv k1) (ZL (by omega)) (fun k k0 k1=>ZA k1) (ZB (by omega))),hv2,(fun k k0 k1=>by have h9:=hMr k k0 k1;have h8:=hfr k k0 k1;have h7:=zU k k0 k1;rw [if_pos (by omega)] at h7;show 0<=fm2 k/\fm2 k<=_;omega),by(show s.n+1<=((s.h++ [lst x.n x.f]).length:Int));rw [List.length_append];simp;omega,(Zdm hC1)⟩ (hS.pk [0,1,2,3,4,5,6,7,8,9])
   refine hsk<|zbn<|ZbK ⟨s.h++ [lst x.n x.f],fm2,s.vO,s.n,s.vv,s.P,s.C⟩ ⟨rfl,(by rw [hfn];exact TInv.no (a2:=fa) hIp (fun k k0 k1=>(hfa k k0 k1).trans (if_pos (by omega))) (fun k k0 k1=>(zU k k0 k1).trans (if_pos (by omega))) (fun⟨k,k0,k1,k2⟩=>hc ⟨k,k0,by omega,k2⟩)),hlO,(fun k k0 k1=>by have h9:=hMr k k0 k1;have h8:=hfr k k0 k1;have h7:=zU k k0 k1;rw [if_pos (by omega)] at h7;show 0<=fm2 k/\fm2 k<=_;omega),by(show s.n<=((s.h++ [lst x.n x.f]).length:Int));rw [List.length_append];simp;omega,hC1⟩ (hS.pk [0,1,2,3,4,5,6,7,8,9])
  ·
   intro Dk s rest w qB hS
   obtain⟨⟨hIp,hlO,hMr,hnh,hC1⟩,hh⟩:=qB
   have hrO:=fun k (k0:0<=k) (k1:k<s.n)=>hS.slhIn 5 rfl k0 k1
   have hsn:=hlO.n0
   have jh:s.n<=1000000:=by
     have h9:=KR (ln:=x8) (pt:=yd) (u:=qH) (cnt:=xI) xt (fun k k0 k1=>by have:=x7 k k0 k1;omega) (qH-1-(-1)).toNat (by omega)
     rw [hh] at hnh
     unfold dwn at hnh
     rw [show(qH-(qH-1-(-1)).toNat).toNat=0 by omega] at h9
     simp only [psum] at h9
     omega
   refine zbn<|htn<|hsq<|hrz ?_
   refine(zV (xlb 3 pl_60 hS))<|zlc (xc0 ZcS) (KP (u:=s.n) (pv:=s.vv) (ln:=(fun _=>p.m)) (pt:=s.P) (cnt:=s.C) w (⟨(hS.rowN 4 rfl),fun k k0 k1=>hS.rowIn 5 rfl k0 k1,fun k k0 k1=>hS.roomIn 5 rfl k0 k1⟩:VAt _ s.vO s.n s.vv (fun _=>p.m) s.P s.C) (by omega) (fun k k0 k1=>by omega) (fun k k0 k1=>by have h9:=hC1 k k0 k1;omega)) ?_;rintro jy w ⟨_,dv,jB,fb,f5,gz,rfl,dZ,jf,je,ed,dG,hS'⟩
   replace hS:=(hS.comp hS').n13;clear hS'
   have ja:=fun k (k0:0<=k) (k1:k<dv)=>hS.slhIn 12 rfl k0 k1
   refine(zP)<|(zP)<|zln<|zh<|htn<|hrt<|ZbL 10 hS fun w hS=>zf2 ⟨_,rfl,?_⟩
   have hmf:lst p.m fM=lst p.m (fun j=>Zw u pt cnt j-p.D j):=Yj fun k k0 k1=>hfM k k0 k1
   have hTR:NormR (V9 (lst p.m fun j=>Zw u pt cnt j-p.D j) (Uu (plL qH x8 yd xI))).2 (plL dv fb f5 gz):=by
     rw [<-ZdY _ _ _ xt,<-hh,<-hmf,<-hIp];exact dZ
   exact⟨_,_,_,_,_,_,0,rfl,.inr (.inr ⟨qx,bM,rfl,_,xo,hTR⟩),fun k k0 k1=>by have:=ed k k0 k1;omega,by omega,dG,hS.pk [11,12]⟩
  ·
   intro Dk t rest w qB hS
   exact qB.elim
end Go.Proofs.YtkichmnjjblodaaGreat
namespace Go.Proofs.Gw
open Go Go.RowKit
section
variable {P:Program} {L:List (Nat×Value)} {w w0:World} {o:Oper} {x y z:Operand} {T T':TypeId} {l:List Ent} {E:TypeId}
theorem UK{n:Int}{zv z0 z1:Value}{b:Nat}(ho:o.op= .call {callee:= .builtin .append,args:= #[x,y],argTypes:= #[T,T']})(ht:ZK P T=some (E,2))(hk:P.underlying T'=some (.int .i64))(he:ZY P E=some (zv,2,b))(hz:zv.cells= #[z0,z1])(hb0:1<=b)
    (hx:evL L x=some (.slice none 0 0)) (hy:evL L y=some (.int .i64 n)) (h1:1<=n) (hb:b*n<=140737488355328) (hS:Sat w0 w l):
    ∃u w',Runs P L w o (.value u) w'/\Sat w0 w' (l++ [.own u 2 E n (fun k=>if k%2=0 then z0 else z1)])/\Slh u n:=by
  obtain⟨hut,_⟩:=Z6 ht
  obtain⟨i,hi,hzz,hsz,hby⟩:=XZ he
  have hle:n<=b*n:=by
    have:=Int.mul_le_mul_of_nonneg_right (show(1:Int)<=b by omega) (show 0<=n by omega)
    omega
  have hw:IntKind.i64.wrap n=n:=by rw [IntKind.wrap_i64];omega
  have h48:¬(281474976710656<n*(i.bytes:Int)):=by rw [hby,Int.mul_comm];omega
  have hn0:¬n<0:=by omega
  have hbn:((n.toNat*i.bytes:Nat):Int)=b*n:=by rw [Int.natCast_mul,hby,Int.toNat_of_nonneg (by omega),Int.mul_comm]
  have cW:¬(281474976710656<Builtin.nextslicecap n.toNat 0*i.bytes):=by rw [nextslicecap_zero (by omega)];omega
  have h63:¬(9223372036854775807<(n.toNat:Int)):=by omega
  have hnz:¬n.toNat=0:=by omega
  have cD:¬n.toNat*i.size=0:=by rw [hsz];omega
  have hr:∀ty,(Builtin.append_ #[T,T'] ty #[.slice none 0 0,.int .i64 n]).run P w= .ok (.slice (some ⟨w.heap.size,0,none⟩) n.toNat (grownCap w n.toNat 0 E)) (w.drew.alloc (.cells (Builtin.zeroCells zv.cells n.toNat++Builtin.zeroCells zv.cells (grownCap w n.toNat 0 E-n.toNat)) E)):=fun ty=>by
    simp [Builtin.append_,run_underlying hut,run_underlying hk,sizeOf,typeInfo,zeroValue,hi,hzz,asInt,asIntOf,hw,hn0,h48,hnz,cW,h63,Question.forced,newRow,grownCap,Builtin.firstCells,cD]
    rw [if_neg (by omega),if_neg (by omega)]
  have hge:=grownCap_ge w n.toNat 0 E
  have hmx:=grownCap_le_maxLen w n.toNat 0 E (by unfold maxLen;omega)
  have hE:(Ent.own (.slice (some ⟨w.heap.size,0,none⟩) n.toNat (grownCap w n.toNat 0 E)) 2 E n (fun k=>if k%2=0 then z0 else z1)).holds (w.drew.alloc (.cells (Builtin.zeroCells zv.cells n.toNat++Builtin.zeroCells zv.cells (grownCap w n.toNat 0 E-n.toNat)) E)):=by
    refine⟨by omega,by omega,.inr ⟨_,_,_,rfl,by have:=heap_alloc_new w.drew (.cells (Builtin.zeroCells zv.cells n.toNat++Builtin.zeroCells zv.cells (grownCap w n.toNat 0 E-n.toNat)) E);simpa using this,hge,hmx,?_,fun k hk=> ?_⟩⟩
    · simp [Builtin.zeroCells,hz];omega
    · have hk2:k<n.toNat*2:=by omega
      rw [Array.getElem?_append_left (by simp [Builtin.zeroCells,hz];omega)]
      rcases Nat.mod_two_eq_zero_or_one k with hm|hm
      · simp [Builtin.zeroCells,hz,hk2,hm];intro hh;omega
      · simp [Builtin.zeroCells,hz,hk2,hm];intro hh;omega
  refine⟨_,_,fun ρ h=> ?_,hS.draw.alloc _ hE (fun g hg=>by simp [Ent.has,Value.ownBlock] at hg;simp [hg]),hE.row.slh⟩
  simp [execOp,ho,resolve,invoke,builtin,h _ _ hx,h _ _ hy,hr]
end
theorem Za7(p q:Int->Value)(c d:Int->Int)(n:Int):cat (n*2) (Zg p c) (Zg q d)=Zg (cat n p q) (cat n c d):=by
  funext k
  unfold cat Zg
  by_cases h:k<n*2
  · have h2:k/2<n:=by omega
    simp only [if_pos h,if_pos h2]
  · have h2:¬k/2<n:=by omega
    have h3:(k-n*2)/2=k/2-n:=by omega
    have h4:(k-n*2)%2=k%2:=by omega
    simp only [if_neg h,if_neg h2,h3,h4]
end Go.Proofs.Gw
namespace Go.Proofs.YtkichmnjjblodaaGreat
open Go Go.RowKit Go.Proofs.Gw
theorem Ze7:ZY Tryz.prog 32=some (.agg #[.slice none 0 0,.slice none 0 0,.int .i64 0,.int .i64 0],4,64):=by kernel_rfl
def YC(p:Prob)(f:Int->Int):Int->Int:=fun k=>if 0<=k/\k<p.m then max 0 (p.D k-f k) else 0
theorem ZdA{p:Prob}(hp:p.Ok){f:Int->Int}(hf:∀k,0<=k->k<p.m->0<=f k):∀k,-9223372036854775808<=YC p f k/\YC p f k<=9223372036854775807:=fun k=>by
  unfold YC
  by_cases h:0<=k/\k<p.m
  · rw [if_pos h];have:=TB hp h.1 h.2;have:=hf k h.1 h.2;omega
  · rw [if_neg h];omega
structure NUt (w:World) (v:Value) (n:Int) (vv:Int->Value) (ln:Int->Int) (pvs:Int->Int->Value) (cns:Int->Int->Int):Prop where
  row:Row w v 1 n vv
  p:∀i,0<=i->i<n->Row w (vv i) 2 (ln i) (Zg (pvs i) (cns i))
  one:∀i,0<=i->i<n->∀k,0<=k->k<ln i->(pvs i k).oneCell'=true
theorem Zad{pv:Int->Value}{cnt:Int->Int}{n:Int}(h:∀k,0<=k->k<n->(pv k).oneCell'=true):∀k,0<=k->k<n*2->(Zg pv cnt k).oneCell'=true:=fun k k0 k1=>by
  unfold Zg
  split
  · exact h _ (by omega) (by omega)
  · rfl
theorem NUt.below{w w':World}{v:Value}{n:Int}{vv:Int->Value}{ln:Int->Int}{pvs:Int->Int->Value}{cns:Int->Int->Int}(h:NUt w v n vv ln pvs cns)(hb:Below w.heap.size w w'):NUt w' v n vv ln pvs cns:=⟨h.row.below hb,fun i a b=>(h.p i a b).below hb,h.one⟩
def KM(ln:Int->Int)(f:Int->Int->Value):Nat->Int->Value
  |0=>fun _=>undef
  |k+1=>cat (tot ln k) (KM ln f k) (f k)
theorem catG_next(ln:Int->Int)(f:Int->Int->Value){i:Int}(h:0<=i):KM ln f (i+1).toNat=cat (tot ln i.toNat) (KM ln f i.toNat) (f i):=by
  rw [show(i+1).toNat=i.toNat+1 by omega,KM,Int.toNat_of_nonneg h]
theorem Znr{w:World}{v a b:Value}{n m:Int}{pa pb:Int->Value}{ca cb:Int->Int}(h:Row w v 1 2 (Z2 a b))(ha:Row w a 2 n (Zg pa ca))(hb:Row w b 2 m (Zg pb cb))(ha1:∀k,0<=k->k<n->(pa k).oneCell'=true)(hb1:∀k,0<=k->k<m->(pb k).oneCell'=true):NUt w v 2 (Z2 a b) (Z2 n m) (Z2 pa pb) (Z2 ca cb):=
  ⟨h, fun i i0 i1=>by
    by_cases e:i=0
    · subst e;exact ha
    · obtain rfl:i=1:=by omega
      exact hb,fun i i0 i1=>by
    by_cases e:i=0
    · subst e;exact ha1
    · obtain rfl:i=1:=by omega
      exact hb1⟩
theorem Zf6{vL vD:Value}{p:Prob}{vA:Value}{f:Int->Int}(w0:World)(h:PAt w0 vL vD p)(hok:p.Ok)(hA:Row w0 vA 1 p.m (ints f))(hfb:∀k,0<=k->k<p.m->0<=f k/\f k<=2000000000):
    Calls Tryz.prog 128 [.agg #[vL,vD,.int .i64 p.stock,.int .i64 p.kerf],vA].toArray w0 fun e w=>∃v,e= .returned v/\∃vL2 vD2,v= .agg #[vL2,vD2,.int .i64 p.stock,.int .i64 p.kerf]/\Slh vL2 p.m/\Slh vD2 p.d/\Sat w0 w [.own vL2 1 3 p.m (ints p.L),.own vD2 1 3 p.d (ints (YC p f))]:=by
  have hm:=h.L.slh.n0;have hm1:=h.L.slh.n1;have hd:=h.D.slh.n0;have hd1:=h.D.slh.n1;have hs:=h.is;have hk:=h.ik
  have zR:=hok.m1;have qz:=hok.m2;have hpd:=hok.d
  refine zenG Tryz.func128 Tryz.ntmps128 fun w hS=> ?_
  refine zsr<|zla (xbx (cs:= [_,_,_,_]) hS) ?_;rintro _ w ⟨g1,rfl,hS⟩
  refine zla (xal (cs:= [_,_,_,_]) Ze7 hS) ?_;rintro _ w ⟨g2,rfl,hS⟩
  refine zx7<|zdst [0,1] [1] 7 mx_ hS ?_;clear hS;intro w hS
  refine(zDw 0 (xfb 0 fd_32_0))<|zdl 1 (fun w hS=>(xlb 0 pl_22 hS)) ?_
  refine(zDw 3 (xfb 1 fd_32_1))<|zdl 4 (fun w hS=>(xlb 0 pl_22 hS)) ?_
  refine zdc 2 (xc0 cl_65) (c_clone (n:=p.m) (f:=p.L) w (h.L.below hS.below) (by omega)) ?_;rintro vq1 w ⟨_,rfl,qb,hS'⟩
  replace hS:=(hS.comp hS').n3;clear hS'
  refine⟨⟨fun _=>hS.pk [0,1],hS.pk [1]⟩,?_⟩
  refine(zDw 6 (xfb 0 fd_32_0))<|zdc 5 (xc0 cl_65) (c_clone (n:=p.d) (f:=p.D) w (h.D.below hS.below) (by omega)) ?_;rintro vq2 w ⟨_,rfl,qg,hS'⟩
  replace hS:=(hS.comp hS').n4;clear hS'
  refine⟨⟨fun _=>hS.pk [0,1],hS.pk [1]⟩,?_⟩
  refine zde 7 (xsb 0 pl_22 hS (hv:=qb.one)) ?_;clear hS;rintro w hS
  refine⟨⟨fun h=>absurd h (by decide),hS.pk [1]⟩,?_⟩
  refine(zDw 8 (xfb 1 fd_32_1))<|zde 9 (xsb 0 pl_22 hS (hv:=qg.one)) ?_;clear hS;rintro w hS
  refine⟨⟨fun h=>absurd h (by decide),hS.pk [1]⟩,?_⟩
  refine zdd<|ztn<|zsq<|zsr ?_
  refine(zP)<|(zV (xln Zb hA.slh))<|(zP)<|zx6<|zlp (fun mm M w=>∃(g:Int->Int) (i:Int),mm=((p.m-i).toNat)/\(0<=i)/\(i<=p.m)/\(∀k,0<=k->k<p.m->g k=if k<i then max 0 (p.D k-f k) else p.D k)/\M= [(2,.pointer (some ⟨g1,0,none⟩)),(4,.pointer (some ⟨g2,0,none⟩)),(15,vA),(16,.int .i64 p.m),(17,.int .i64 i)]/\Sat w0 w [.blk g1 [vq1,vq2,.int .i64 p.stock,.int .i64 p.kerf],.blk g2 [.slice none 0 0,.slice none 0 0,.int .i64 0,.int .i64 0],.own vq1 1 3 p.m (ints p.L),.own vq2 1 3 p.d (ints g)]) ⟨p.D,0,rfl,(by omega),(by omega),?_,rfl,hS⟩ ?_
  ·
   intro k k0 k1;rw [if_neg (by omega)]
  clear hS w
  rintro mm M w ⟨g,i,rfl,h0,h1,hg,rfl,hS⟩
  refine zsr<|(zP)<|zx7<|Ze ?_ ?_<;>intro hc
  ·
   refine zx3<|(zP)<|(zV (xix (kk:=i) Zb hA.slh))<|zlv (xlr (u:= .int .i64 (f i)) pl_3 (hA.below hS.below)) ?_
   have hdi:=TB hok h0 (by omega:i<p.m)
   have hfi:=hfb i h0 (by omega)
   have hgi:=hg i h0 (by omega)
   rw [if_neg (by omega)] at hgi
   refine(zP)<|(zP)<|zlt<|zdst [0,1,2,3] [0,1,2] 12 mx_ hS ?_;clear hS;intro w hS
   refine(zDw 0 (xfb 1 fd_32_1))<|(zDl 1 (fun w hS=>(xlb 0 pl_22 hS)))<|(zDw 2 xmv)<|(zDw 3 (xfb 1 fd_32_1))<|(zDl 4 (fun w hS=>(xlb 0 pl_22 hS)))<|(zDw 5 xmv)<|(zDw 6 (xix (kk:=i) Zb qg))<|zdl 7 (fun w hS=>(xlr (u:= .int .i64 (g i)) pl_3 (hS.rowN 3 rfl))) ?_
   refine(zDw 8 xmv)<|(zDw 9 (Zp (r:=g i-(f i))))<|(zDw 10 (Zbt (r:=(max 0 (g i-(f i))))))<|(zDw 11 (xix (kk:=i) Zb qg))<|zde 12 (xso 3 pl_3 hS (Zq _ _ _)) ?_;clear hS;rintro w hS
   refine⟨⟨fun h=>absurd h (by decide),hS.pk [0,1,2]⟩,?_⟩
   refine zdd<|zbn<|ztn<|zrg ?_
   refine(zV (Zh (r:=i+1)))<|(zP)<|zln<|zlq ⟨(upd g i (max 0 (g i-(f i)))),i+1,rfl,(by omega),(by omega),?_,rfl,hS⟩
   ·
    intro k k0 k1;unfold upd;by_cases e:k=i
    · rw [if_pos e,if_pos (by omega),e];omega
    · rw [if_neg e,hg k k0 k1];by_cases e2:k<i
      · rw [if_pos e2,if_pos (by omega)]
      · rw [if_neg e2,if_neg (by omega)]
  refine zx8<|(zV (xls 0 st_32 hS))<|zle (xsw 1 st_32 hS (hd:=(Za qb.one (Za qg.one (Za rfl (Za rfl Zi)))))) ?_;clear hS;rintro w hS
  refine zx1<|zfc 1 st_32 hS ⟨_,rfl,?_⟩
  have hin:i=p.m:=by omega
  replace hS:=hS.recont 3 rfl (d:=ints (YC p f)) (fun k k0 k1=>congrArg (Value.int .i64) (by rw [hg k k0 (by omega),if_pos (by omega)];unfold YC;rw [if_pos ⟨k0,by omega⟩]))
  exact⟨_,_,rfl,qb,qg,hS.pk [2,3]⟩
end Go.Proofs.YtkichmnjjblodaaGreat
namespace Go.Proofs.YtkichmnjjblodaaGreat
open Go Go.RowKit Go.Proofs.Gw
theorem Zkz:Zc Tryz.prog 170=true:=by kernel_rfl
theorem Tc:ZK Tryz.prog 227=some (60,1):=by kernel_rfl
theorem Zh9{n:Int}(w0:World)(h0:0<=n)(h1:n<=100000000):
    Calls Tryz.prog 170 [.slice none 0 0,.int .i64 n].toArray w0 fun e w=>∃v,e= .returned v/\∃r,v=r/\Slh r 0/\Sat w0 w [.own r 2 107 0 (Zg (fun _=>Value.slice none 0 0) (fun _=>0))]:=by
  refine zenG Tryz.func170 Tryz.ntmps170 fun w hS=> ?_
  refine zsr<|(zP)<|zx5<|(zP)<|(zV (xkf Z4))<|zlt<|zcf<|zsk<|ztn<|zsq<|zsr ?_
  refine(zP)<|(zP)<|R0 rfl rfl rfl (Wt rfl ZO rfl) ?_
  refine(zP)<|(zV (xln ZO slh_nil))<|(zV (Zp (r:=0)))<|(zV (Zp (r:=n)))<|(zP)<|zlz<|(zP)<|(zP)<|zlt<|Ze ?_ ?_<;>intro hc
  ·
   refine zrg<|(zP)<|(zP)<|R0 rfl rfl rfl (Wt rfl ZO rfl) ?_
   refine(zV (xany (v:= .slice none 0 0)))<|(zP)<|R2 rfl rfl rfl (UK rfl ZO Tryz.underlying3 Yo rfl (by omega) rfl rfl (by omega) (by omega) hS) ?_;rintro v1 w ⟨hS,hv1⟩
   refine(zP)<|(zV (xln ZO slh_nil))<|R0 rfl rfl rfl (VX rfl ZO rfl rfl hv1) ?_
   replace hS:=hS.cut 0 rfl (Zg (fun _=>Value.slice none 0 0) (fun _=>0))
   refine(zP)<|zlz<|(zP)<|(zP)<|zx1<|zf1 ⟨_,rfl,?_⟩
   exact⟨_,rfl,(ZcN hv1),hS⟩
  refine ZS<|(zP)<|(zP)<|zx1<|zf1 ⟨_,rfl,?_⟩
  exact⟨_,rfl,slh_nil,(hS.sub .slnil).addnil 2 107 (Zg (fun _=>Value.slice none 0 0) (fun _=>0))⟩
theorem ZdW{v:Value}{n:Int}{vv:Int->Value}{ln:Int->Int}{pvs:Int->Int->Value}{cns:Int->Int->Int}(w0:World)(hM:NUt w0 v n vv ln pvs cns)(ht:∀k,0<=k->k<=n->tot ln k.toNat<=10000000):
    Calls Tryz.prog 127 [v].toArray w0 fun e w=>∃v,e= .returned v/\∃r,v=r/\Slh r (tot ln n.toNat)/\Sat w0 w [.own r 2 107 (tot ln n.toNat) (Zg (KM ln pvs n.toNat) (Vg ln cns n.toNat))]:=by
  have hn:=hM.row.slh.n0;have hn1:=hM.row.slh.n1
  refine zenG Tryz.func127 Tryz.ntmps127 fun w hS=> ?_
  refine zsr<|(zP)<|zlz<|(zP)<|zx5<|(zP)<|(zV (xln Tc hM.row.slh))<|(zP)<|zx6<|zlp (fun mm M w=>∃(s:Int) (i:Int),mm=((n-i).toNat)/\(0<=i)/\(i<=n)/\(s=tot ln i.toNat)/\(0<=s)/\M= [(0,v),(2,.slice none 0 0),(3,.int .i64 s),(9,v),(10,.int .i64 n),(11,.int .i64 i)]/\Sat w0 w []) ⟨0,0,rfl,(by omega),(by omega),?_,(by omega),rfl,hS⟩ ?_
  ·
   rfl
  clear hS w
  rintro mm M w ⟨s,i,rfl,h0,h1,hs,hs0,rfl,hS⟩
  refine zsr<|(zP)<|zx7<|Ze ?_ ?_<;>intro hc
  ·
   refine zx3<|(zV (xix (kk:=i) Tc hM.row.slh))<|zlv (xlr (u:=(vv i)) pl_60 (hM.row.below hS.below)) ?_
   have hl:=(hM.p i h0 (by omega)).slh.n0;have ht1:=ht (i+1) (by omega) (by omega);rw [Xn ln h0] at ht1
   refine(zP)<|zlz<|(zP)<|(zP)<|(zV (xln ZO (hM.p i (by omega) (by omega)).slh))<|(zV (Zh (r:=s+(ln i))))<|(zP)<|zlz<|(zP)<|(zV (xkf Z4))<|zlt<|zcf<|zsk<|zbn<|ztn<|zrg ?_
   refine(zV (Zh (r:=i+1)))<|(zP)<|zln<|zlq ⟨s+(ln i),i+1,rfl,(by omega),(by omega),?_,(by omega),rfl,hS⟩
   ·
    rw [Xn ln h0,hs]
  refine zx8<|zlv xmv ?_
  have hin:i=n:=by omega
  have ht2:=ht n hn (Int.le_refl _);rw [<-hin] at ht2
  refine zlc (xc0 Zkz) (Zh9 (n:=s) w (by omega) (by omega)) ?_;rintro vq1 w ⟨_,rfl,qb,hS'⟩
  replace hS:=(hS.comp hS').n1;clear hS'
  refine(zP)<|zx5<|(zP)<|(zV (xln Tc hM.row.slh))<|(zP)<|zx6<|zlp (fun mm M w=>∃(m:Int) (gq:Int->Value) (gc:Int->Int) (j:Int) (vb:Value),mm=((n-j).toNat)/\(0<=j)/\(j<=n)/\(m=tot ln j.toNat)/\(0<=m)/\(∀k,0<=k->k<m->gq k=KM ln pvs j.toNat k)/\(∀k,0<=k->k<m->gc k=Vg ln cns j.toNat k)/\(Slh vb m)/\M= [(2,.slice none 0 0),(6,vb),(25,v),(26,.int .i64 n),(27,.int .i64 j)]/\Sat w0 w [.own vb 2 107 m (Zg gq gc)]) ⟨0,(fun _=>Value.slice none 0 0),(fun _=>0),0,vq1,rfl,(by omega),(by omega),?_,(by omega),?_,?_,?_,rfl,hS⟩ ?_
  ·
   rfl
  ·
   intro k k0 k1;omega
  ·
   intro k k0 k1;omega
  ·
   exact qb
  clear hS w
  rintro mm M w ⟨m,gq,gc,j,vb,rfl,h0,h1,hm,hm0,hg,hc9,hvb,rfl,hS⟩
  refine zsr<|(zP)<|zx7<|Ze ?_ ?_<;>intro hc
  ·
   refine zx3<|(zV (xix (kk:=j) Tc hM.row.slh))<|zlv (xlr (u:=(vv j)) pl_60 (hM.row.below hS.below)) ?_
   have hl:=(hM.p j h0 (by omega)).slh.n0;have ht1:=ht (j+1) (by omega) (by omega);rw [Xn ln h0] at ht1
   refine(zP)<|zlt<|zrg<|(zP)<|(zP)<|zla (xap 0 (r:=m+(ln j)) (f:=Zg (cat m gq (pvs j)) (cat m gc (cns j))) ZO Yo hS ((hM.p j (by omega) (by omega)).below hS.below) (by exact Za7 _ _ _ _ _) (h1:=(Zad (hM.one j (by omega) (by omega))))) ?_;rintro v1 w ⟨hS,hv1⟩
   refine(zP)<|zx10<|(zV (Zh (r:=j+1)))<|(zP)<|zln<|zlq ⟨m+(ln j),(cat m gq (pvs j)),(cat m gc (cns j)),j+1,v1,rfl,(by omega),(by omega),?_,(by omega),?_,?_,?_,rfl,hS⟩
   ·
    rw [Xn ln h0,hm]
   ·
    intro k k0 k1;rw [catG_next ln pvs h0,<-hm];unfold cat;by_cases e:k<m
    · rw [if_pos e,if_pos e];exact hg k k0 e
    · rw [if_neg e,if_neg e]
   ·
    intro k k0 k1;rw [catN_next ln cns h0,<-hm];unfold cat;by_cases e:k<m
    · rw [if_pos e,if_pos e];exact hc9 k k0 e
    · rw [if_neg e,if_neg e]
   ·
    exact hv1
  refine zx8<|(zP)<|(zP)<|zx1<|zf1 ⟨_,rfl,?_⟩
  obtain rfl:j=n:=by omega
  subst hm
  replace hS:=hS.recont 0 rfl (d:=Zg (KM ln pvs j.toNat) (Vg ln cns j.toNat)) (fun k k0 k1=>by unfold Zg;rw [hg _ (by omega) (by omega),hc9 _ (by omega) (by omega)])
  exact⟨_,rfl,hvb,hS⟩
end Go.Proofs.YtkichmnjjblodaaGreat
