import Derived.Test.YtpnamgfdakfccaaGreatTgC
import Derived.OrdersIn
set_option linter.unusedVariables false
set_option linter.unusedSimpArgs false
set_option maxRecDepth 20000
set_option maxHeartbeats 4000000
namespace Go.Proofs.Gw
variable {c e hi i j k lo m mid x y z:Int} {a b t:Of}
def iH(lo hi:Int)(a b:Of):Prop:=∃p q:Of,(∀k,p (q k)=k/\q (p k)=k)/\(∀k,¬(lo<=k/\k<hi)->p k=k)/\∀k,b k=a (p k)
theorem iH.refl(lo hi:Int)(a:Of):iH lo hi a a:=⟨id,id,fun _=>⟨rfl,rfl⟩,fun _ _=>rfl,fun _=>rfl⟩
theorem iH.trans{c:Of}(h:iH lo hi a b)(k:iH lo hi b c):iH lo hi a c:=by
 obtain⟨p,q,h1,W,U⟩:=h
 obtain⟨D,F,I,O,N⟩:=k
 refine⟨fun x=>p (D x),fun x=>F (q x),fun x=>⟨?_,?_⟩,fun x J=> ?_,fun x=> ?_⟩
 {
 show p (D (F (q x)))=x
 rw [(I _).1,(h1 _).1]}
 {
 show F (q (p (D x)))=x
 rw [(h1 _).2,(I _).2]}
 {
 show p (D x)=x
 rw [O x J,W x J]}
 · rw [N,U]
theorem iH.mono{D F:Int}(h:iH lo hi a b)(U:D<=lo)(h1:hi<=F):iH D F a b:=by
 obtain⟨p,q,N,J,I⟩:=h
 exact⟨p,q,N,fun k O=>J k Oa,I⟩
theorem iH.out(h:iH lo hi a b)(D:¬(lo<=k/\k<hi)):b k=a k:=by
 obtain⟨p,q,J,I,F⟩:=h
 rw [F,I k D]
theorem iH.fr(h:iH lo hi a b)(I:lo<=k)(F:k<hi):∃j,lo<=j/\j<hi/\b k=a j:=by
 obtain⟨p,q,D,U,O⟩:=h
 by_cases hj:lo<=p k/\p k<hi
 · exact⟨p k,hj.1,hj.2,O k⟩
 {
 have N:=U (p k) hj
 have J:p k=k:=by
   have:=congrArg q N
   rw [(D _).2,(D _).2] at this;exact this
 rw [J] at hj
 exact absurd ⟨I,F⟩ hj}
theorem iH.symm{lo hi:Int}{a b:Of}(h:iH lo hi a b):iH lo hi b a:=by
 obtain⟨p,q,D,J,I⟩:=h
 refine⟨q,p,fun k=>⟨(D k).2,(D k).1⟩,fun k F=> ?_,fun k=> ?_⟩
 {
 have:=congrArg q (J k F)
 rw [(D k).2] at this;exact this.symm}
 · rw [I,(D k).1]
def swp(a:Of)(i j:Int):Of:=fun k=>if k=i then a j else if k=j then a i else a k
theorem TX(I:lo<=i)(F:i<hi)(D:lo<=j)(h:j<hi):iH lo hi a (swp a i j):=by
 have e:∀k,(fun k=>if k=i then j else if k=j then i else k:Of) ((fun k=>if k=i then j else if k=j then i else k:Of) k)=k:=fun k=>by
   dsimp only;split<;>(try split)<;>(try split)<;>(try split)<;>omega
 refine⟨fun k=>if k=i then j else if k=j then i else k,fun k=>if k=i then j else if k=j then i else k,fun k=>⟨e k,e k⟩,fun k J=> ?_,fun k=> ?_⟩
 · dsimp only;rw [if_neg Oa,if_neg Oa]
 {
 unfold swp;dsimp only;split
 · rfl
 · split<;>rfl}
def rP(R:Int->Int->Prop)(lo hi:Int)(a:Of):Prop:=∀i j,lo<=i->i<j->j<hi->R (a i) (a j)
theorem rP.mono{R:Int->Int->Prop}{D F:Int}(h:rP R lo hi a)(O:lo<=D)(h1:F<=hi):rP R D F a:=fun i j N I J=>h i j Oa I Oa
theorem rP.congr{R:Int->Int->Prop}(h:rP R lo hi a)(e:∀k,lo<=k->k<hi->b k=a k):rP R lo hi b:=fun i j F I D=>by
 rw [e i F Oa,e j Oa D];exact h i j F I D
def Tie(lt:Int->Int->Prop):Int->Int->Prop:=fun x y=>lt x y\/(¬lt y x/\x<y)
structure AL (lt:Int->Int->Prop):Prop where
  asym:∀x y,lt x y->¬lt y x
  trans:∀x y z,lt x y->lt y z->lt x z
  inc:∀x y z,¬lt x y->¬lt y z->¬lt x z
theorem Tie.trans{lt:Int->Int->Prop}(h:AL lt){x y z:Int}(a:Tie lt x y)(b:Tie lt y z):Tie lt x z:=by
 rcases a with a|⟨F,a2⟩<;>rcases b with b|⟨D,I⟩
 · exact .inl (h.trans _ _ _ a b)
 · left;exact Classical.byContradiction fun hn=>h.inc _ _ _ hn D a
 · left;exact Classical.byContradiction fun hn=>h.inc _ _ _ F hn b
 · exact .inr ⟨h.inc _ _ _ D F,Oa⟩
theorem Tie.of{lt:Int->Int->Prop}(h:AL lt)(D:x<y)(hn:¬lt y x):Tie lt x y:=by
 by_cases hl:lt x y
 · exact .inl hl
 · exact .inr ⟨hn,D⟩
def sD(lo c hi:Int)(a:Of):Prop:=∀i j,lo<=i->i<c->c<=j->j<hi->a i<a j
def Tw(lo hi:Int)(a:Of):Prop:=∀i j,lo<=i->i<j->j<hi->a i<a j
structure Ins (lt:Int->Int->Prop) (lo i j:Int) (a b:Of):Prop where
  perm:iH lo (i+1) a b
  rest:∀p q,lo<=p->p<q->q<=i->p≠j->q≠j->Tie lt (b p) (b q)
  less:∀q,j<q->q<=i->Tie lt (b j) (b q)
  big:∀p,lo<=p->p<j->b p<b j
theorem Ins.start{lt:Int->Int->Prop}(W:lo<=i)(I:rP (Tie lt) lo i a)(J:∀p,lo<=p->p<i->a p<a i):Ins lt lo i i a a:=
 ⟨.refl _ _ _,fun p q F D h U N=>I p q F D Oa,fun q O h=>Oa,J⟩
theorem Ins.step{lt:Int->Int->Prop}(j0:lo<j)(j1:j<=i)(h:Ins lt lo i j a b)(Y:lt (b j) (b (j-1))):Ins lt lo i (j-1) a (swp b j (j-1)):=by
 have J:swp b j (j-1) j=b (j-1):=by unfold swp;rw [if_pos rfl]
 have O:swp b j (j-1) (j-1)=b j:=by unfold swp;rw [if_neg Oa,if_pos rfl]
 have D:∀k,k≠j->k≠j-1->swp b j (j-1) k=b k:=fun k h1 Z=>by unfold swp;rw [if_neg h1,if_neg Z]
 refine⟨h.perm.trans (TX Oa Oa Oa Oa),fun p q I U F W N=> ?_,fun q q0 F=> ?_,fun p I p1=> ?_⟩
 {
 by_cases hp:p=j
 · rw [hp,J,D q Oa N];exact h.rest (j-1) q Oa Oa F Oa Oa
 {
 rw [D p hp W]
 by_cases hq:q=j
 · rw [hq,J];exact h.rest p (j-1) I Oa Oa hp Oa
 · rw [D q hq N];exact h.rest p q I U F hp hq}}
 {
 rw [O]
 by_cases hq:q=j
 · rw [hq,J];exact .inl Y
 · rw [D q hq Oa];exact h.less q Oa F}
 · rw [O,D p Oa Oa];exact h.big p I Oa
theorem Ins.fin{lt:Int->Int->Prop}(J:AL lt)(Y:lo<=j)(W:j<=i)(h:Ins lt lo i j a b)(F:j=lo\/¬lt (b j) (b (j-1))):rP (Tie lt) lo (i+1) b:=fun p q D N O=>by
 have I:∀p,lo<=p->p<j->Tie lt (b p) (b j):=fun p D U=>by
   rcases F with F|F
   · omega
   {
   have h1:Tie lt (b (j-1)) (b j):=Tie.of J (h.big (j-1) Oa Oa) F
   by_cases hp:p=j-1
   · rw [hp];exact h1
   · exact(h.rest p (j-1) D Oa Oa Oa Oa).trans J h1}
 by_cases hp:p=j
 · rw [hp];exact h.less q Oa Oa
 {
 by_cases hq:q=j
 · rw [hq];exact I p D Oa
 · exact h.rest p q D N Oa hp hq}
def wS(a:Of)(x y n:Int):Of:=fun k=>if x<=k/\k<x+n then a (k-x+y) else if y<=k/\k<y+n then a (k-y+x) else a k
theorem ZbT(a:Of)(x y:Int):wS a x y 0=a:=by
 funext k;unfold wS;rw [if_neg Oa,if_neg Oa]
theorem ZbU(F:0<=i)(h:x+i<y\/y+i<x)(hd:x+i<y\/y+i<x)(D:x<=y):swp (wS a x y i) (x+i) (y+i)=wS a x y (i+1):=by
 funext k;unfold swp wS
 by_cases h1:k=x+i
 {
 subst h1
 rw [if_pos rfl,if_neg Oa,if_neg Oa,if_pos Oa];congr 1<;>omega}
 {
 rw [if_neg h1]
 by_cases h2:k=y+i
 · subst h2
   rw [if_pos rfl,if_neg Oa,if_neg Oa,if_neg Oa,if_pos Oa];congr 1<;>omega
 {
 rw [if_neg h2]
 by_cases h3:x<=k/\k<x+i
 · rw [if_pos h3,if_pos Oa]
 {
 rw [if_neg h3]
 by_cases h4:y<=k/\k<y+i
 · rw [if_pos h4,if_neg Oa,if_pos Oa]
 · rw [if_neg h4,if_neg Oa,if_neg Oa]}}}
def pJ(a:Of)(lo c hi:Int):Of:=fun k=>if lo<=k/\k<lo+(hi-c) then a (k+(c-lo)) else if lo+(hi-c)<=k/\k<hi then a (k-(hi-c)) else a k
theorem Ub(D:1<=j)(h:j<i):pJ (wS a (c-i) c j) (c-i+j) c (c+j)=pJ a (c-i) c (c+j):=by
 funext k;unfold pJ wS
 by_cases h1:c-i<=k/\k<c-i+j
 · rw [if_neg Oa,if_neg Oa,if_pos h1,if_pos Oa];congr 1<;>omega
 {
 by_cases h2:c-i+j<=k/\k<c-i+j+j
 {
 rw [if_pos Oa,if_neg (show¬(c-i<=k/\k<c-i+(c+j-c)) by omega),if_pos (show c-i+(c+j-c)<=k/\k<c+j by omega)]
 by_cases h3:c-i<=k+(c-(c-i+j))/\k+(c-(c-i+j))<c-i+j
 · exfalso;omega
 {
 rw [if_neg h3]
 by_cases h4:c<=k+(c-(c-i+j))/\k+(c-(c-i+j))<c+j
 · rw [if_pos h4];congr 1<;>omega
 · exfalso;omega}}
 {
 by_cases h3:c-i+j+j<=k/\k<c+j
 · rw [if_neg (by(try omega)),if_pos (by(try omega)),if_neg (by(try omega)),if_neg (by(try omega)),if_neg (by(try omega)),if_pos (by(try omega))]
 · rw [if_neg Oa,if_neg Oa,if_neg Oa,if_neg Oa,if_neg Oa,if_neg Oa]}}
theorem Vp(D:1<=i)(h:i<j):pJ (wS a (c-i) (c+j-i) i) (c-i) c (c+j-i)=pJ a (c-i) c (c+j):=by
 funext k;unfold pJ wS
 by_cases h1:c-i<=k/\k<c+j-i-i
 · rw [if_pos Oa,if_neg Oa,if_neg Oa,if_pos Oa]
 {
 by_cases h2:c+j-i-i<=k/\k<c+j-i
 {
 by_cases h5:k<c-i
 · exfalso;omega
 · rw [if_neg Oa,if_pos Oa,if_pos Oa,if_pos Oa];congr 1<;>omega}
 {
 by_cases h3:c+j-i<=k/\k<c+j
 · rw [if_neg Oa,if_neg Oa,if_neg Oa,if_pos Oa,if_neg Oa,if_pos Oa];congr 1<;>omega
 · rw [if_neg Oa,if_neg Oa,if_neg Oa,if_neg Oa,if_neg Oa,if_neg Oa]}}
theorem Zb9(h:0<=i):wS a (c-i) c i=pJ a (c-i) c (c+i):=by
 funext k;unfold pJ wS
 by_cases h1:c-i<=k/\k<c
 · rw [if_pos Oa,if_pos Oa];congr 1<;>omega
 {
 by_cases h2:c<=k/\k<c+i
 · rw [if_neg Oa,if_pos Oa,if_neg Oa,if_pos Oa];congr 1<;>omega
 · rw [if_neg Oa,if_neg Oa,if_neg Oa,if_neg Oa]}
theorem Yu(D:lo<=c)(h1:c<=hi):iH lo hi a (pJ a lo c hi):=by
 refine⟨fun k=>if lo<=k/\k<lo+(hi-c) then k+(c-lo) else if lo+(hi-c)<=k/\k<hi then k-(hi-c) else k,fun k=>if lo<=k/\k<c then k+(hi-c) else if c<=k/\k<hi then k-(c-lo) else k,fun k=>⟨?_,?_⟩,fun k h=> ?_,fun k=> ?_⟩
 {
 dsimp only
 by_cases g1:lo<=k/\k<c
 · rw [if_pos g1,if_neg Oa,if_pos Oa];omega
 {
 rw [if_neg g1]
 by_cases g2:c<=k/\k<hi
 · rw [if_pos g2,if_pos Oa];omega
 · rw [if_neg g2,if_neg Oa,if_neg Oa]}}
 {
 dsimp only
 by_cases g1:lo<=k/\k<lo+(hi-c)
 · rw [if_pos g1,if_neg Oa,if_pos Oa];omega
 {
 rw [if_neg g1]
 by_cases g2:lo+(hi-c)<=k/\k<hi
 · rw [if_pos g2,if_pos Oa];omega
 · rw [if_neg g2,if_neg Oa,if_neg Oa]}}
 · dsimp only;rw [if_neg Oa,if_neg Oa]
 {
 unfold pJ;dsimp only;split
 · rfl
 · split<;>rfl}
theorem Zb5(a:Of)(lo:Int):pJ a lo (lo+1) (lo+1)=a:=by
 funext k;unfold pJ
 by_cases h:lo<=k/\k<lo+1
 · rw [if_neg Oa,if_pos Oa];congr 1<;>omega
 · rw [if_neg Oa,if_neg Oa]
theorem Zb6(h:lo<=k):swp (pJ a lo (lo+1) (k+1)) k (k+1)=pJ a lo (lo+1) (k+1+1):=by
 funext j;unfold swp pJ
 by_cases h1:j=k
 {
 subst h1
 rw [if_pos rfl,if_neg Oa,if_neg Oa,if_pos Oa];congr 1<;>omega}
 {
 rw [if_neg h1]
 by_cases h2:j=k+1
 · subst h2
   rw [if_pos rfl,if_neg Oa,if_pos Oa,if_neg Oa,if_pos Oa];congr 1<;>omega
 {
 rw [if_neg h2]
 by_cases h3:lo<=j/\j<k
 · rw [if_pos Oa,if_pos Oa]
 · rw [if_neg Oa,if_neg Oa,if_neg Oa,if_neg Oa]}}
theorem Zb3(a:Of)(c:Int):pJ a c c (c+1)=a:=by
 funext k;unfold pJ
 by_cases h:c<=k/\k<c+1
 · rw [if_pos Oa];congr 1<;>omega
 · rw [if_neg Oa,if_neg Oa]
theorem Zb4(h:k<=c):swp (pJ a k c (c+1)) k (k-1)=pJ a (k-1) c (c+1):=by
 funext j;unfold swp pJ
 by_cases h1:j=k
 {
 subst h1
 rw [if_pos rfl,if_neg Oa,if_neg Oa,if_neg Oa,if_pos Oa];congr 1<;>omega}
 {
 rw [if_neg h1]
 by_cases h2:j=k-1
 · subst h2
   rw [if_pos rfl,if_pos Oa,if_pos Oa];congr 1<;>omega
 {
 rw [if_neg h2]
 by_cases h3:k+1<=j/\j<c+1
 · rw [if_neg Oa,if_pos Oa,if_neg Oa,if_pos Oa]
 · rw [if_neg Oa,if_neg Oa,if_neg Oa,if_neg Oa]}}
theorem KC{lt:Int->Int->Prop}(J:AL lt){a b:Int}{s:Of}(h:rP (Tie lt) (a+1) b s)(hb:∀j,a+1<=j->j<b->s a<s j)(W:a+1<=e)(e1:e<=b)
   (h1:e=a+1\/lt (s (e-1)) (s a)) (F:e=b\/¬lt (s e) (s a)):rP (Tie lt) a b (pJ s a (a+1) e):=fun i j i0 Z I=>by
 have O:∀k,a<=k->k<e-1->pJ s a (a+1) e k=s (k+1):=fun k Y k1=>by unfold pJ;rw [if_pos Oa];congr 1<;>omega
 have N:pJ s a (a+1) e (e-1)=s a:=by unfold pJ;rw [if_neg Oa,if_pos Oa];congr 1<;>omega
 have D:∀k,e<=k->pJ s a (a+1) e k=s k:=fun k Y=>by unfold pJ;rw [if_neg Oa,if_neg Oa]
 by_cases hi:i<e-1
 {
 rw [O i i0 hi]
 by_cases hj:j<e-1
 · rw [O j Oa hj];exact h _ _ Oa Oa Oa
 {
 by_cases hj2:j=e-1
 {
 rw [hj2,N]
 rcases h1 with h1|h1
 · omega
 · by_cases hie:i+1=e-1
   · rw [hie];exact .inl h1
   · exact(h (i+1) (e-1) Oa Oa Oa).trans J (.inl h1)}
 · rw [D j Oa];exact h _ _ Oa Oa I}}
 {
 by_cases hi2:i=e-1
 {
 rw [hi2,N,D j Oa]
 rcases F with F|F
 · omega
 {
 have U:Tie lt (s a) (s e):=Tie.of J (hb e W Oa) F
 by_cases hje:j=e
 · rw [hje];exact U
 · exact U.trans J (h e j W Oa I)}}
 · rw [D i Oa,D j Oa];exact h i j Oa Z I}
theorem Rp{lt:Int->Int->Prop}(N:AL lt){a:Int}{s:Of}(D:rP (Tie lt) a m s)(hb:∀i,a<=i->i<m->s i<s m)(e0:a<=e)(e1:e<=m)
   (h1:e=a\/¬lt (s m) (s (e-1))) (F:e=m\/lt (s m) (s e)):rP (Tie lt) a (m+1) (pJ s e m (m+1)):=fun i j h Z J=>by
 have U:∀k,k<e->pJ s e m (m+1) k=s k:=fun k Y=>by unfold pJ;rw [if_neg Oa,if_neg Oa]
 have O:pJ s e m (m+1) e=s m:=by unfold pJ;rw [if_pos Oa];congr 1<;>omega
 have I:∀k,e<k->k<m+1->pJ s e m (m+1) k=s (k-1):=fun k Y k1=>by unfold pJ;rw [if_neg Oa,if_pos Oa];congr 1<;>omega
 have hlo:∀i,a<=i->i<e->Tie lt (s i) (s m):=fun i h i1=>by
   rcases h1 with h1|h1
   · omega
   {
   have W:Tie lt (s (e-1)) (s m):=Tie.of N (hb (e-1) Oa Oa) h1
   by_cases hie:i=e-1
   · rw [hie];exact W
   · exact(D i (e-1) h Oa Oa).trans N W}
 by_cases hi:i<e
 {
 rw [U i hi]
 by_cases hj:j<e
 · rw [U j hj];exact D i j h Z Oa
 {
 by_cases hj2:j=e
 · rw [hj2,O];exact hlo i h hi
 · rw [I j Oa J];exact D i (j-1) h Oa Oa}}
 {
 by_cases hi2:i=e
 {
 rw [hi2,O,I j Oa J]
 rcases F with F|F
 · omega
 · by_cases hje:j-1=e
   · rw [hje];exact .inl F
   · exact Tie.trans N (.inl F) (D e (j-1) e0 Oa Oa)}
 · rw [I i Oa Oa,I j Oa J];exact D (i-1) (j-1) Oa Oa Oa}
structure Halves (lt:Int->Int->Prop) (a s mid e b:Int) (t:Of):Prop where
  l1:rP (Tie lt) a s t
  l2:rP (Tie lt) s mid t
  r1:rP (Tie lt) mid e t
  r2:rP (Tie lt) e b t
  pl:sD a s mid t
  pr:sD mid e b t
  cross:∀i j,a<=i->i<mid->mid<=j->j<b->Tie lt (t i) (t j)
theorem Ul{lt:Int->Int->Prop}(U:AL lt){a b s:Int}(h1:rP (Tie lt) a m t)(Y:rP (Tie lt) m b t)(hp:sD a m b t)(he:s+e=mid+m)(s0:a<=s)(s1:s<=m)(e0:m<=e)(e1:e<=b)
   (Z:s=a\/e=b\/¬lt (t e) (t (s-1))) (J:s=m\/e=m\/lt (t (e-1)) (t s)):Halves lt a s mid e b (pJ t s m e):=by
 have r0:∀k,k<s->pJ t s m e k=t k:=fun k k0=>by unfold pJ;rw [if_neg Oa,if_neg Oa]
 have r1:∀k,s<=k->k<mid->pJ t s m e k=t (k+(m-s)):=fun k k0 k1=>by unfold pJ;rw [if_pos Oa]
 have O:∀k,mid<=k->k<e->pJ t s m e k=t (k-(e-m)):=fun k k0 k1=>by unfold pJ;rw [if_neg Oa,if_pos Oa]
 have N:∀k,e<=k->pJ t s m e k=t k:=fun k k0=>by unfold pJ;rw [if_neg Oa,if_neg Oa]
 have c1:∀i j,a<=i->i<s->e<=j->j<b->Tie lt (t i) (t j):=fun i j h I F D=>by
   rcases Z with Z|Z|Z
   · omega
   · omega
   {
   have h3:Tie lt (t (s-1)) (t e):=Tie.of U (hp (s-1) e Oa Oa e0 Oa) Z
   have W:Tie lt (t i) (t e):=by
     by_cases hi:i=s-1
     · rw [hi];exact h3
     · exact(h1 i (s-1) h Oa Oa).trans U h3
   by_cases hj:j=e
   · rw [hj];exact W
   · exact W.trans U (Y e j e0 Oa D)}
 have c2:∀i j,m<=i->i<e->s<=j->j<m->Tie lt (t i) (t j):=fun i j h I F D=>by
   rcases J with J|J|J
   · omega
   · omega
   {
   have W:Tie lt (t i) (t s):=by
     by_cases hi:i=e-1
     · rw [hi];exact .inl J
     · exact(Y i (e-1) h Oa Oa).trans U (.inl J)
   by_cases hj:j=s
   · rw [hj];exact W
   · exact W.trans U (h1 s j Oa Oa D)}
 refine⟨fun i j h ij D=> ?_,fun i j h ij D=> ?_,fun i j h ij D=> ?_,fun i j h ij D=> ?_,fun i j h I F D=> ?_,fun i j h I F D=> ?_,fun i j h I F D=> ?_⟩
 · rw [r0 i Oa,r0 j D];exact h1 i j h ij Oa
 · rw [r1 i h Oa,r1 j Oa D];exact Y _ _ Oa Oa Oa
 · rw [O i h Oa,O j Oa D];exact h1 _ _ Oa Oa Oa
 · rw [N i h,N j Oa];exact Y _ _ Oa Oa Oa
 · rw [r0 i I,r1 j F D];exact hp _ _ h Oa Oa Oa
 · rw [O i h I,N j F];exact hp _ _ Oa Oa Oa Oa
 {
 by_cases hi:i<s
 {
 rw [r0 i hi]
 by_cases hj:j<e
 · rw [O j F hj];exact h1 _ _ Oa Oa Oa
 · rw [N j Oa];exact c1 i j h hi Oa D}
 {
 rw [r1 i Oa I]
 by_cases hj:j<e
 · rw [O j F hj];exact c2 _ _ Oa Oa Oa Oa
 · rw [N j Oa];exact Y _ _ Oa Oa Oa}}
theorem Halves.left{lt:Int->Int->Prop}{a s b:Int}(h:Halves lt a s mid e b t)(hn:¬(a<s/\s<mid))(F:a<=s)(D:s<=mid):rP (Tie lt) a mid t:=by
 by_cases h1:a<s
 {
 obtain rfl:s=mid:=Oa
 exact h.l1}
 {
 obtain rfl:a=s:=Oa
 exact h.l2}
theorem Halves.right{lt:Int->Int->Prop}{a s b:Int}(h:Halves lt a s mid e b t)(hn:¬(mid<e/\e<b))(F:mid<=e)(D:e<=b):rP (Tie lt) mid b t:=by
 by_cases h1:mid<e
 {
 obtain rfl:e=b:=Oa
 exact h.r1}
 {
 obtain rfl:mid=e:=Oa
 exact h.r2}
theorem Halves.join{lt:Int->Int->Prop}(hw:AL lt){a s b:Int}{u v:Of}(h:Halves lt a s mid e b t)(a0:a<=mid)(b0:mid<=b)(h1:iH a mid t u)(W:rP (Tie lt) a mid u)(D:iH mid b u v)(U:rP (Tie lt) mid b v):rP (Tie lt) a b v:=fun i j J I F=>by
 by_cases hj:j<mid
 · rw [D.out Oa,D.out Oa];exact W i j J I hj
 {
 by_cases hi:i<mid
 {
 rw [D.out Oa]
 obtain⟨O,g0,Z,Y⟩:=h1.fr J hi
 obtain⟨N,f0,f1,f2⟩:=D.fr (show mid<=j by omega) F
 rw [Y,f2,h1.out Oa]
 exact h.cross O N g0 Z f0 f1}
 · exact U i j Oa I F}
theorem sD.keep(h:sD lo c hi a)(D:iH x y a b)(x0:lo<=x)(y0:y<=hi)(hc:y<=c\/c<=x):sD lo c hi b:=fun i j O N J I=>by
 have W:∃i',lo<=i'/\i'<c/\b i=a i':=by
   by_cases hx:x<=i/\i<y
   · obtain⟨i',Z,Y,F⟩:=D.fr hx.1 hx.2
     exact⟨i',Oa,Oa,F⟩
   · exact⟨i,O,N,D.out hx⟩
 have U:∃j',c<=j'/\j'<hi/\b j=a j':=by
   by_cases hx:x<=j/\j<y
   · obtain⟨j',Z,Y,F⟩:=D.fr hx.1 hx.2
     exact⟨j',Oa,Oa,F⟩
   · exact⟨j,J,I,D.out hx⟩
 obtain⟨i',a1,a2,a3⟩:=W
 obtain⟨j',b1,b2,b3⟩:=U
 rw [a3,b3];exact h i' j' a1 a2 b1 b2
def oW(lt:Int->Int->Prop)(s n x y:Int)(t:Of):Prop:=∀c,x<=c->c<y->s∣c->rP (Tie lt) c (min (c+s) n) t/\sD 0 c n t
theorem oW.keep{lt:Int->Int->Prop}{s n x y p q:Int}{t u:Of}(h:oW lt s n x y t)(D:iH p q t u)(J:0<=p)(I:q<=n)(hc:∀c,x<=c->c<y->s∣c->min (c+s) n<=p/\c<=p\/q<=c):oW lt s n x y u:=fun c F c1 cd=>by
 have h1:=h c F c1 cd
 have U:=hc c F c1 cd
 exact⟨h1.1.congr fun k O N=>D.out Oa,h1.2.keep D J I Oa⟩
theorem TJ{s a:Int}(F:0<s)(h1:s∣c)(D:s∣a)(h:c<a):c+s<=a:=by
 have:=Int.le_of_dvd (show 0<a-c by omega) (Int.dvd_sub D h1)
 omega
theorem iH.dom{n N:Int}(h:iH lo hi a b)(U:0<=lo)(h1:hi<=n\/n<=lo)(hd:∀k,0<=k->k<n->0<=a k/\a k<N):∀k,0<=k->k<n->0<=b k/\b k<N:=fun k F D=>by
 by_cases hk:lo<=k/\k<hi
 {
 obtain⟨j,O,J,I⟩:=h.fr hk.1 hk.2
 rw [I];exact hd j Oa Oa}
 · rw [h.out hk];exact hd k F D
theorem SY{a b:Int}{s:Of}(h:iH a i s t)(D:Tw a b s)(hi:i<b):∀p,a<=p->p<i->t p<t i:=fun p I F=>by
 obtain⟨j,O,N,J⟩:=h.fr I F
 rw [J,h.out Oa];exact D j i O N hi
theorem Ua(D:x<=m)(h1:m<=e)(h:¬(x<m/\m<e)):pJ a x m e=a:=by
 funext k;unfold pJ
 by_cases g1:x<=k/\k<x+(e-m)
 · rw [if_pos g1];congr 1;omega
 {
 rw [if_neg g1]
 by_cases g2:x+(e-m)<=k/\k<e
 · rw [if_pos g2];congr 1;omega
 · rw [if_neg g2]}
theorem WG{lt:Int->Int->Prop}{n a b:Int}{s u:Of}(O:0<z)(J:Tw 0 n s)(hr:oW lt z n 0 a t)(a0:0<=a)(hd:z∣a)(F:iH 0 a s t)(D:iH a b t u)(hs:rP (Tie lt) a b u)(hb:b=a+z/\b<=n\/b=n/\n<a+z)(ab:a<=b):oW lt z n 0 b u:=fun c W c1 cd=>by
 by_cases hc:c<a
 · exact(hr.keep D a0 Oa (fun c W c1 cd=> .inl (by have:=TJ O cd hd c1;omega))) c W hc cd
 {
 have I:c=a:=by
   by_cases h:a<c
   · have:=TJ O hd cd h;omega
   · omega
 subst I
 refine⟨hs.mono Oa Oa,fun i j i0 i1 Z Y=> ?_⟩
 obtain⟨N,U,g1,g2⟩:=F.fr i0 i1
 rw [D.out Oa,g2]
 by_cases hj:j<b
 · obtain⟨j',f0,f1,f2⟩:=D.fr Z hj
   rw [f2,F.out Oa];exact J N j' U Oa Oa
 · rw [D.out Oa,F.out Oa];exact J N j U Oa Y}
theorem V8{lt:Int->Int->Prop}{n a b:Int}(O:0<z)(Y:0<=a)(hd:z∣a)(h:oW lt z n a n t)(U:a+z<b)(W:b<=a+2*z)(hn:b<=n):rP (Tie lt) a (a+z) t/\rP (Tie lt) (a+z) b t/\sD a (a+z) b t:=by
 have h1:=h a (Int.le_refl _) Oa hd
 have D:=h (a+z) Oa Oa (Int.dvd_add hd (Int.dvd_refl z))
 exact⟨h1.1.mono Oa Oa,D.1.mono Oa Oa,fun i j N I F J=>D.2 i j Oa I F Oa⟩
theorem Yq{lt:Int->Int->Prop}{n a b:Int}{u:Of}(Z:0<z)(J:0<=a)(hd:2*z∣a)(U:oW lt (2*z) n 0 a t)(h1:oW lt z n a n t)(D:iH a b t u)(O:rP (Tie lt) a b u)(hb:b=a+2*z/\b<=n\/b=n/\n<a+2*z)(ab:a<b):oW lt (2*z) n 0 b u/\oW lt z n b n u:=by
 refine⟨fun c I c1 cd=> ?_,fun c I c1 cd=> ?_⟩
 {
 by_cases hc:c<a
 · exact(U.keep D J Oa (fun c I c1 cd=> .inl (by have:=TJ Oa cd hd c1;omega))) c I hc cd
 {
 have F:c=a:=by
   by_cases h:a<c
   · have:=TJ Oa hd cd h;omega
   · omega
 subst F
 exact⟨O.mono Oa Oa,(h1 c Oa Oa (Int.dvd_trans (Int.dvd_mul_left 2 z) cd)).2.keep D J Oa (.inr (Int.le_refl _))⟩}}
 {
 have N:=h1 c Oa c1 cd
 exact⟨N.1.congr fun k Y W=>D.out Oa,N.2.keep D J Oa (.inl Oa)⟩}
theorem Zb8{lt:Int->Int->Prop}{n:Int}(h:oW lt z n 0 n t)(J:n<=z):rP (Tie lt) 0 n t:=fun i j F D I=>by
 exact(h 0 (Int.le_refl _) Oa (Int.dvd_zero z)).1 i j F D Oa
theorem Halves.after{lt:Int->Int->Prop}{a s b:Int}{u:Of}(h:Halves lt a s mid e b t)(D:iH a mid t u)(Y:rP (Tie lt) a mid u)(e0:mid<=e)(e1:e<=b):Halves lt a a mid e b u:=by
 refine⟨fun i j I ij F=>Oa,Y,h.r1.congr fun k U O=>D.out Oa,h.r2.congr fun k U O=>D.out Oa,fun i j I N J F=>Oa,fun i j I N J F=> ?_,fun i j I N J F=> ?_⟩
 · rw [D.out Oa,D.out Oa];exact h.pr i j I N J F
 {
 obtain⟨W,g0,g1,Z⟩:=D.fr I N
 rw [Z,D.out (k:=j) Oa];exact h.cross W j g0 g1 J F}
theorem Vx{a n:Int}{s:Of}(D:iH 0 a s t)(h:Tw 0 n s)(O:0<=a)(N:a<=lo)(h1:hi<=n):Tw lo hi t:=fun i j J F I=>by
 rw [D.out Oa,D.out Oa];exact h i j Oa F Oa
theorem V9{lt:Int->Int->Prop}{n a:Int}(F:0<z)(I:0<=a)(hd:2*z∣a)(D:oW lt (2*z) n 0 a t)(h1:oW lt z n a n t)(N:a<=n)(J:n<=a+z):oW lt (2*z) n 0 n t:=by
 by_cases h:a<n
 · exact(Yq F I hd D h1 (.refl _ _ _) ((h1 a (Int.le_refl _) h (Int.dvd_trans (Int.dvd_mul_left 2 z) hd)).1.mono (Int.le_refl _) Oa) (.inr ⟨rfl,Oa⟩) h).1
 {
 obtain rfl:a=n:=Oa
 exact D}
end Go.Proofs.Gw
namespace Go.Proofs.Gw
variable {m:Int} {cnt f g ln:Of} {pt:Og} {a b:List Int}
def lst(n:Int)(f:Of):List Int:=(List.range n.toNat).map fun(k:Nat)=>f (k:Int)
theorem Y9(n:Int)(f:Of):(lst n f).length=n.toNat:=by simp [lst]
theorem lY(n:Int)(f:Of)(k:Nat):(lst n f)[k]? =if(k:Int)<n then some (f k) else none:=by
 unfold lst
 by_cases h:(k:Int)<n
 · rw [if_pos h,List.getElem?_map,List.getElem?_range Oa];rfl
 · rw [if_neg h];simp;omega
theorem UT{n:Int}(n0:0<=n)(N:0<=m):lst n f=lst m g↔n=m/\∀k,0<=k->k<n->f k=g k:=by
 constructor
 {
 intro h
 have J:=congrArg List.length h
 rw [Y9,Y9] at J
 refine⟨by omega,fun k I F=> ?_⟩
 have h1:=congrArg (fun l=>l[k.toNat]?) h
 simp only [lY] at h1
 rw [Int.toNat_of_nonneg I,if_pos F,if_pos Oa] at h1
 injection h1}
 {
 rintro⟨rfl,h⟩
 apply List.ext_getElem?
 intro k
 rw [lY,lY]
 by_cases D:(k:Int)<n
 · rw [if_pos D,if_pos D,h k Oa D]
 · rw [if_neg D,if_neg D]}
theorem Yn{n:Int}(h:∀k,0<=k->k<n->f k=g k):lst n f=lst n g:=by
 apply List.ext_getElem?
 intro k
 rw [lY,lY]
 by_cases hk:(k:Int)<n
 · rw [if_pos hk,if_pos hk,h k Oa hk]
 · rw [if_neg hk,if_neg hk]
def Di:Option Int->Option Int->Prop
  |none,some _=>True
  |some x,some y=>x<y
  |_,_=>False
theorem MQ:∀a,¬Di a a
 |none=>id
 |some x=>by simp [Di]
theorem Kz:∀{a b c},Di a b->Di b c->Di a c
 |none,some _,some _,_,_=>trivial
 |some x,some y,some z,h,k=>by simp only [Di] at*;omega
theorem ZjX:∀{a b:Option Int},a≠b->Di a b\/Di b a
 |none,none,h=>absurd rfl h
 |none,some _,_=> .inl trivial
 |some _,none,_=> .inr trivial
 |some x,some y,h=>by simp only [Di];have:x≠y:=fun e=>h (by rw [e]);omega
def AA(a b:List Int):Prop:=∃j:Nat,(∀k<j,a[k]? =b[k]?)/\Di b[j]? a[j]?
theorem UD(h:AA a b):¬AA b a:=by
 rintro⟨j,h1,D⟩
 obtain⟨i,I,F⟩:=h
 rcases Nat.lt_trichotomy i j with h|h|h
 · rw [h1 i h] at F;exact MQ _ F
 · subst h;exact MQ _ (Kz F D)
 · rw [I j h] at D;exact MQ _ D
theorem Zah{c:List Int}(h:AA a b)(k:AA b c):AA a c:=by
 obtain⟨i,F,J⟩:=h
 obtain⟨j,h1,I⟩:=k
 rcases Nat.lt_trichotomy i j with h|h|h
 · exact⟨i,fun k D=>(F k D).trans (h1 k Oa),by rw [<-h1 i h];exact J⟩
 · subst h;exact⟨i,fun k D=>(F k D).trans (h1 k D),Kz I J⟩
 · exact⟨j,fun k D=>(F k Oa).trans (h1 k D),by rw [F j h];exact I⟩
theorem U_(h:a≠b):AA a b\/AA b a:=by
 have hex:∃k:Nat,a[k]? ≠b[k]? :=Classical.byContradiction fun hn=>h (List.ext_getElem? fun k=>Classical.byContradiction fun F=>hn ⟨k,F⟩)
 have J:∃k:Nat,a[k]? ≠b[k]? /\∀j<k,a[j]? =b[j]? :=by
   obtain⟨k,F⟩:=hex
   induction k using Nat.strongRecOn with
   | ind k ih=>
     by_cases hb:∃j,j<k/\a[j]? ≠b[j]?
     · obtain⟨j,I,D⟩:=hb;exact ih j I D
     · exact⟨k,F,fun j I=>Classical.byContradiction fun D=>hb ⟨j,I,D⟩⟩
 obtain⟨k,F,hlt⟩:=J
 rcases ZjX F with h1|h1
 · exact .inr ⟨k,fun j I=>(hlt j I).symm,h1⟩
 · exact .inl ⟨k,hlt,h1⟩
theorem Zlq(a:List Int):¬AA a a:=fun h=>UD h h
theorem O7{n:Int}{j:Int}(I:0<=j)(D:j<n)(F:j<m)(J:∀k,0<=k->k<j->f k=g k)(h:g j<f j):AA (lst n f) (lst m g):=by
 refine⟨j.toNat,fun k N=> ?_,?_⟩
 · rw [lY,lY,if_pos Oa,if_pos Oa,J k Oa Oa]
 · rw [lY,lY,Int.toNat_of_nonneg I,if_pos D,if_pos F];exact h
theorem Zc7{n:Int}(D:0<=m)(h:m<n)(F:∀k,0<=k->k<m->f k=g k):AA (lst n f) (lst m g):=by
 refine⟨m.toNat,fun k I=> ?_,?_⟩
 · rw [lY,lY,if_pos Oa,if_pos Oa,F k Oa Oa]
 · rw [lY,lY,Int.toNat_of_nonneg D,if_neg Oa,if_pos h];trivial
theorem Zja{n:Int}(h:∀k,0<=k->k<n->f k=g k):¬AA (lst n f) (lst n g):=by
 rw [Yn h];exact Zlq _
abbrev Us:=List (List Int×Int)
def nY(n:Int)(ln:Of)(pt:Og)(cnt:Of):Us:=(List.range n.toNat).map fun(i:Nat)=>(lst (ln (i:Int)) (pt (i:Int)),cnt (i:Int))
theorem rY(n:Int)(ln:Of)(pt:Og)(cnt:Of):(nY n ln pt cnt).length=n.toNat:=by simp [nY]
theorem nH(n:Int)(ln:Of)(pt:Og)(cnt:Of)(k:Nat):(nY n ln pt cnt)[k]? =if(k:Int)<n then some (lst (ln k) (pt k),cnt k) else none:=by
 unfold nY
 by_cases h:(k:Int)<n
 · rw [if_pos h,List.getElem?_map,List.getElem?_range Oa];rfl
 · rw [if_neg h];simp;omega
theorem Ku{n:Int}{vT:Of}{D:Og}{cnt':Of}(h:∀k,0<=k->k<n->ln k=vT k/\cnt k=cnt' k/\∀j,0<=j->j<ln k->pt k j=D k j):nY n ln pt cnt=nY n vT D cnt':=by
 apply List.ext_getElem?
 intro k
 rw [nH,nH]
 by_cases hk:(k:Int)<n
 {
 obtain⟨h1,I,F⟩:=h k Oa hk
 rw [if_pos hk,if_pos hk,I,<-h1,Yn F]}
 · rw [if_neg hk,if_neg hk]
theorem Wp{i:Int}(h:0<=i):nY (i+1) ln pt cnt=nY i ln pt cnt++ [(lst (ln i) (pt i),cnt i)]:=by
 unfold nY
 rw [show(i+1).toNat=i.toNat+1 by omega,List.range_succ,List.map_append,List.map_singleton,Int.toNat_of_nonneg h]
theorem Rj{n:Int}{vT:Of}{F:Og}{D:Of}(n0:0<=n)(h:∀k,0<=k->k<n->vT k=ln k/\D k=cnt k/\F k=pt k){l c:Int}{p:Of}(h1:vT n=l)(O:D n=c)(N:F n=p):nY (n+1) vT F D=nY n ln pt cnt++ [(lst l p,c)]:=by
 rw [Wp n0,h1,O,N]
 congr 1
 exact Ku fun k J I=>⟨(h k J I).1,(h k J I).2.1,fun j _ _=>by rw [(h k J I).2.2]⟩
def XC:Us->List Int×Int->Us
  | [],u=> [u]
  |v::r,u=>if v.1=u.1 then(v.1,v.2+u.2)::r else v::XC r u
def V7(l:Us):Us:=l.foldl XC []
theorem Zc9:∀{a:Us} {u:List Int×Int},(∀v∈a,v.1≠u.1)->XC a u=a++ [u]
 | [],_,_=>rfl
 | v::r,u,h=>by
   rw [XC,if_neg (h v (by simp)),Zc9 fun w D=>h w (by simp [D])];rfl
theorem T_:∀{a:Us} {u:List Int×Int} {j:Nat} {v:List Int×Int},a[j]? =some v->v.1=u.1->(∀k<j,∀w,a[k]? =some w->w.1≠u.1)->XC a u=a.set j (v.1,v.2+u.2)
 | [],_,_,_,h,_,_=>by simp at h
 | w::r,u,0,v,h,e,_=>by
   simp at h;subst h
   rw [XC,if_pos e];rfl
 | w::r,u,j+1,v,h,e,hk=>by
   simp at h
   rw [XC,if_neg (hk 0 Oa w (by simp)),T_ h e fun k F x D=>hk (k+1) Oa x (by simpa using D)];rfl
theorem U9:∀{a:Us} {u:List Int×Int},∀x∈XC a u,x.1=u.1\/∃y∈a,y.1=x.1
 | [],u,x,h=>by simp [XC] at h;exact .inl (by rw [h])
 | v::r,u,x,h=>by
   rw [XC] at h
   split at h
   {
   rcases List.mem_cons.1 h with h|h
   · right;exact⟨v,by simp,by rw [h]⟩
   · right;exact⟨x,by simp [h],rfl⟩}
   {
   rcases List.mem_cons.1 h with h|h
   · right;exact⟨v,by simp,by rw [h]⟩
   · rcases U9 x h with h|⟨y,D,e⟩
     · exact .inl h
     · exact .inr ⟨y,by simp [D],e⟩}
theorem Zai:∀{a:Us} {u:List Int×Int},a.Pairwise (fun x y=>x.1≠y.1)->(XC a u).Pairwise (fun x y=>x.1≠y.1)
 | [],u,_=>by simp [XC]
 | v::r,u,h=>by
   have h1:=List.pairwise_cons.1 h
   rw [XC]
   split
   · exact List.pairwise_cons.2 ⟨h1.1,h1.2⟩
   {
   rename_i D
   refine List.pairwise_cons.2 ⟨fun x I=> ?_,Zai h1.2⟩
   rcases U9 x I with e|⟨y,F,e⟩
   · rw [e];exact D
   · rw [<-e];exact h1.1 y F}
theorem Rw:∀(l a:Us),a.Pairwise (fun x y=>x.1≠y.1)->(l.foldl XC a).Pairwise (fun x y=>x.1≠y.1)
 | [],_,h=>h
 |u::l,a,h=>Rw l _ (Zai h)
theorem Zfi(l:Us):(V7 l).Pairwise (fun x y=>x.1≠y.1):=Rw l [] .nil
theorem Kg(l:Us)(u:List Int×Int):V7 (l++ [u])=XC (V7 l) u:=by simp [V7]
theorem Zc8:∀{a:Us} {u:List Int×Int},(∀x∈a,1<=x.2)->1<=u.2->∀x∈XC a u,1<=x.2
 | [],u,_,hu,x,h=>by simp [XC] at h;rw [h];exact hu
 | v::r,u,ha,hu,x,h=>by
   have hv:=ha v (by simp)
   rw [XC] at h
   split at h
   {
   rcases List.mem_cons.1 h with h|h
   · rw [h];dsimp only;omega
   · exact ha x (by simp [h])}
   {
   rcases List.mem_cons.1 h with h|h
   · rw [h];exact hv
   · exact Zc8 (fun y D=>ha y (by simp [D])) hu x h}
theorem KQ:∀(l a:Us),(∀x∈a,1<=x.2)->(∀x∈l,1<=x.2)->∀x∈l.foldl XC a,1<=x.2
 | [],_,h,_=>h
 |u::l,a,h,hl=>KQ l _ (Zc8 h (hl u (by simp))) fun x D=>hl x (by simp [D])
theorem Zgu{l:Us}(h:∀x∈l,1<=x.2):∀x∈V7 l,1<=x.2:=KQ l [] (by simp) h
def ni(f:List Int->Int):Us->Int
  | []=>0
  |u::l=>f u.1*u.2+ni f l
theorem WX(f:List Int->Int):∀a b:Us,ni f (a++b)=ni f a+ni f b
 | [],b=>by simp [ni]
 |u::a,b=>by simp only [List.cons_append,ni,WX f a b];omega
theorem R7(f:List Int->Int):∀(a:Us) (u:List Int×Int),ni f (XC a u)=ni f a+f u.1*u.2
 | [],u=>by simp [XC,ni]
 | v::r,u=>by
   rw [XC]
   split
   · rename_i e
     simp only [ni,e,Int.mul_add];omega
   · simp only [ni,R7 f r u];omega
theorem TT(f:List Int->Int):∀(l a:Us),ni f (l.foldl XC a)=ni f a+ni f l
 | [],a=>by simp [ni]
 |u::l,a=>by rw [List.foldl_cons,TT f l,R7,ni];omega
theorem Zfc(f:List Int->Int)(l:Us):ni f (V7 l)=ni f l:=by rw [V7,TT];simp [ni]
theorem Zfd(f:List Int->Int){a b:Us}(h:a.Perm b):ni f a=ni f b:=by
 induction h with
 |nil=>rfl
 |cons x _ ih=>simp only [ni,ih]
 |swap x y l=>simp only [ni];omega
 |trans _ _ i1 i2=>rw [i1,i2]
def pX(l out:Us):Prop:=out.Perm (V7 l)/\out.Pairwise (fun u v=>AA u.1 v.1)
theorem pX.ni{l a:Us}(h:pX l a)(f:List Int->Int):ni f a=ni f l:=(Zfd f h.1).trans (Zfc f l)
theorem pX.pos{l a:Us}(h:pX l a)(F:∀x∈l,1<=x.2):∀x∈a,1<=x.2:=fun x D=>Zgu F x (h.1.mem_iff.1 D)
theorem Kh:∀(l a:Us),∀x∈l.foldl XC a,(∃y∈a,y.1=x.1)\/∃y∈l,y.1=x.1
 | [],a,x,h=> .inl ⟨x,h,rfl⟩
 | u::l,a,x,h=>by
   rcases Kh l _ x h with⟨y,hy,e⟩|⟨y,hy,e⟩
   {
   rcases U9 y hy with D|⟨z,F,D⟩
   · exact .inr ⟨u,by simp,by rw [<-D,e]⟩
   · exact .inl ⟨z,F,by rw [D,e]⟩}
   · exact .inr ⟨y,by simp [hy],e⟩
theorem pX.keys{l a:Us}(h:pX l a):∀x∈a,∃y∈l,y.1=x.1:=fun x D=>by
 rcases Kh l [] x (h.1.mem_iff.1 D) with⟨y,hy,_⟩|h
 · simp at hy
 · exact h
theorem ZdC{α:Type}{n:Int}{t:Of}(n0:0<=n)(h:iH 0 n (fun k=>k) t)(G:Int->α):((List.range n.toNat).map fun(i:Nat)=>G (t (i:Int))).Perm ((List.range n.toNat).map fun(i:Nat)=>G (i:Int)):=by
 have h1:((List.range n.toNat).map fun(i:Nat)=>t (i:Int)).Perm ((List.range n.toNat).map fun(i:Nat)=>(i:Int)):=by
   obtain⟨p,q,I,N,D⟩:=h
   refine(List.perm_ext_iff_of_nodup ?_ ?_).2 fun x=> ?_
   {
   refine List.pairwise_map.2 (List.Pairwise.imp (R:=fun a b=>a≠b) (fun {a b} hab hh=> ?_) List.nodup_range)
   rw [D,D] at hh
   have:=congrArg q hh
   simp only [(I _).2] at this
   omega}
   · exact List.pairwise_map.2 (List.Pairwise.imp (R:=fun a b=>a≠b) (fun {a b} hab hh=>Oa) List.nodup_range)
   {
   simp only [List.mem_map,List.mem_range]
   constructor
   · rintro⟨a,U,rfl⟩
     obtain⟨j,J,O,F⟩:=iH.fr (a:=fun k=>k) (b:=t) ⟨p,q,I,N,D⟩ (show(0:Int)<=(a:Int) by omega) (show(a:Int)<n by omega)
     exact⟨j.toNat,Oa,by rw [F];omega⟩
   · rintro⟨a,U,rfl⟩
     obtain⟨j,J,O,F⟩:=iH.fr (iH.symm (a:=fun k=>k) (b:=t) ⟨p,q,I,N,D⟩) (show(0:Int)<=(a:Int) by omega) (show(a:Int)<n by omega)
     exact⟨j.toNat,Oa,by rw [Int.toNat_of_nonneg J,<-F]⟩}
 have W:=h1.map G
 simpa [List.map_map,Function.comp_def] using W
theorem Zjw(f:Int->List Int):AL (fun x y=>AA (f x) (f y)):=
 ⟨fun x y h=>UD h,fun x y z h k=>Zah h k,fun x y z h k D=>by
   by_cases e:f x=f y
   · rw [e] at D;exact k D
   {
   rcases U_ e with h1|h1
   · exact h h1
   · exact k (Zah h1 D)}⟩
theorem pX.Cj{l:Us}{n:Int}{t:Of}(n0:0<=n)(W:nY n ln pt cnt=V7 l)(J:iH 0 n (fun k=>k) t)(ho:rP (Tie (fun x y=>AA (lst (ln x) (pt x)) (lst (ln y) (pt y)))) 0 n t):
   pX l (nY n (fun k=>ln (t k)) (fun k=>pt (t k)) (fun k=>cnt (t k))):=by
 refine⟨?_,?_⟩
 {
 rw [<-W]
 exact ZdC n0 J fun x=>(lst (ln x) (pt x),cnt x)}
 {
 rw [List.pairwise_iff_getElem]
 intro i j hi hj aa
 rw [rY] at hi hj
 have g:∀(k:Nat) (F:k<(nY n (fun k=>ln (t k)) (fun k=>pt (t k)) (fun k=>cnt (t k))).length),(nY n (fun k=>ln (t k)) (fun k=>pt (t k)) (fun k=>cnt (t k)))[k]=(lst (ln (t k)) (pt (t k)),cnt (t k)):=fun k F=>by
   have h1:=nH n (fun k=>ln (t k)) (fun k=>pt (t k)) (fun k=>cnt (t k)) k
   rw [rY] at F
   rw [if_pos Oa,List.getElem?_eq_getElem (by rw [rY];exact F)] at h1
   injection h1
 rw [g,g]
 have h1:=ho i j Oa Oa Oa
 rcases h1 with h1|⟨h1,h2⟩
 · exact h1
 {
 obtain⟨a,a0,a1,a2⟩:=J.fr (show(0:Int)<=(i:Int) by omega) (show(i:Int)<n by omega)
 obtain⟨b,b0,b1,I⟩:=J.fr (show(0:Int)<=(j:Int) by omega) (show(j:Int)<n by omega)
 have hd:=Zfi l
 rw [<-W,List.pairwise_iff_getElem] at hd
 have gg:∀(k:Int) (U:0<=k) (F:k<n),∃h:k.toNat<(nY n ln pt cnt).length,(nY n ln pt cnt)[k.toNat]=(lst (ln k) (pt k),cnt k):=fun k U F=>by
   have h1:=nH n ln pt cnt k.toNat
   have D:k.toNat<(nY n ln pt cnt).length:=by rw [rY];omega
   rw [Int.toNat_of_nonneg U,if_pos F,List.getElem?_eq_getElem D] at h1
   exact⟨D,by injection h1⟩
 have O:a≠b:=fun e=>by rw [<-a2,<-I] at*;omega
 obtain⟨Z,ea⟩:=gg a a0 a1
 obtain⟨Y,eb⟩:=gg b b0 b1
 have N:lst (ln a) (pt a)≠lst (ln b) (pt b):=by
   rcases Int.lt_or_gt_of_ne O with D|D
   · have:=hd a.toNat b.toNat Z Y Oa;rw [ea,eb] at this;exact this
   · have:=hd b.toNat a.toNat Y Z Oa;rw [ea,eb] at this;exact fun e=>this e.symm
 rcases U_ N with D|D
 · dsimp only at a2 I⊢;rw [a2,I];exact D
 · exact absurd (by dsimp only at a2 I⊢;rw [a2,I];exact D) h1}}
end Go.Proofs.Gw
namespace Go.Proofs.Gw
open Go Go.RowKit
section
variable {P:Program} {L:List (Nat×Value)} {w w0:World} {o:Oper} {x y:Operand} {T T':TypeId} {l:List iO}
theorem Tf{m r:Int}(I:o.op= .binOp .shr T x y T':=by exact rfl)(F:iZ L x=some (.int .u64 m):=by exact rfl)(D:iZ L y=some (.int .u64 1):=by exact rfl)(e:r=m/2:=by exact rfl):Runs P L w o (.value (.int .u64 r)) w:=fun ρ h=>by
 subst e
 simp [execOp,I,h _ _ F,h _ _ D,go_sem]
theorem Zit(v:Value)(k:Int)(D:0<=k):(pW v k).add 1=pW v (k+1)\/∀a len cap,v≠ .slice (some a) len cap:=by
 cases v with
 | slice a len cap=>cases a with
   |none=>right;intro a len cap h;cases h
   | some a=>
     left
     have:(k+1).toNat=k.toNat+1:=Oa
     simp [pW,Addr.add,this,Nat.add_assoc]
 |_=>right;intro a len cap h;cases h
theorem Ah(j:Nat){v J N:Value}{E:TypeId}{n k:Int}{c d:Ov}(ht:ZC P T=some 2)(hS:Sat w0 w l)(e:upd (upd c k J) (k+1) N=d)(ho:o.op= .store T x y:=by exact rfl)(hi:l[j]? =some (.own v 2 E n c):=by exact rfl)(hx:iZ L x=some (.pointer (some (pW v k))):=by exact rfl)(hy:iZ L y=some (.agg #[J,N]):=by exact rfl)
   (hv:J.oneCell'=true:=by exact rfl) (hu:N.oneCell'=true:=by exact rfl) (Y:0<=k:=by omega) (h1:k+1<n*2:=by omega):∃w',Runs P L w o .skip w'/\Sat w0 w' (l.set j (.own v 2 E n d)):=by
 subst e
 obtain⟨_,hsz⟩:=Xo (w:=w) ht
 have D:=hS
 rw [Z3 hi] at D
 have hr0:=D.get.row
 have dZ:(pW v k).add 1=pW v (k+1):=by
   rcases Zit v k Y with h|h
   · exact h
   {
   exfalso
   obtain⟨q0,Z,a,cap,rfl,F⟩:=hr0.fP
   rcases F with F|⟨b,off,rfl⟩
   · omega
   · exact h _ _ _ rfl}
 have gz:(pW v k).add 0=pW v k:=by simp [Addr.add]
 have c0:=hr0.cell Y Oa
 have f0:w.frozen? (pW v k)=false:=by
   rcases D.get.freeRow k with h|h
   {
   exact absurd h (by
     obtain⟨q0,Z,a,cap,rfl,F⟩:=hr0.fP
     rcases F with F|⟨b,off,rfl⟩
     · omega
     · intro U;cases U)}
   · exact h
 have I:=D.A_ k Y Oa J
 have O:=I.get.row
 have c1:=O.cell (k:=k+1) Oa Oa
 have f1:(w.setCell (pW v k) J).frozen? (pW v (k+1))=false:=by
   rcases I.get.freeRow (k+1) with h|h
   {
   exact absurd h (by
     obtain⟨q0,Z,a,cap,rfl,F⟩:=hr0.fP
     rcases F with F|⟨b,off,rfl⟩
     · omega
     · intro U;cases U)}
   · exact h
 have W:=I.A_ (k+1) Oa Oa N
 rw [YE hi]
 refine⟨_,fun ρ h=> ?_,W⟩
 simp [execOp,ho,h _ _ hx,h _ _ hy,Instr.storeAt,Instr.sureAddr,storeVar,Value.cells,hsz,storeCells,gz,dZ,run_store P w _ J _ hv,c0,f0,run_store P _ _ N _ hu,c1,f1]
end
theorem X0(pv:Ov)(cnt:Of){i k:Int}(s:Value)(x:Int)(h:k=2*i):upd (upd (Ze pv cnt) k s) (k+1) (.int Oi x)=Ze (fun q=>if q=i then s else pv q) (fun q=>if q=i then x else cnt q):=by
 subst h
 funext q
 unfold upd Ze
 by_cases h1:q=2*i+1
 · subst h1;rw [if_pos rfl,if_neg Oa];dsimp only;rw [if_pos Oa]
 {
 rw [if_neg h1]
 by_cases h2:q=2*i
 · subst h2;rw [if_pos rfl,if_pos Oa];dsimp only;rw [if_pos Oa]
 {
 rw [if_neg h2]
 by_cases h3:q%2=0
 · rw [if_pos h3,if_pos h3];dsimp only;rw [if_neg Oa]
 · rw [if_neg h3,if_neg h3];dsimp only;rw [if_neg Oa]}}
theorem WE(pv:Ov)(cnt s:Of)(i j:Int):Ze (fun q=>if q=j then pv (s i) else(fun q=>if q=i then pv (s j) else(fun k=>pv (s k)) q) q) (fun q=>if q=j then cnt (s i) else(fun q=>if q=i then cnt (s j) else(fun k=>cnt (s k)) q) q)=Ze (fun k=>pv (swp s i j k)) (fun k=>cnt (swp s i j k)):=by
 congr 1
 {
 funext q;unfold swp;dsimp only
 by_cases h1:q=j
 {
 rw [if_pos h1]
 by_cases h2:q=i
 · rw [if_pos h2];congr 2;omega
 · rw [if_neg h2,if_pos h1]}
 {
 rw [if_neg h1]
 by_cases h2:q=i
 · rw [if_pos h2,if_pos h2]
 · rw [if_neg h2,if_neg h2,if_neg h1]}}
 {
 funext q;unfold swp;dsimp only
 by_cases h1:q=j
 {
 rw [if_pos h1]
 by_cases h2:q=i
 · rw [if_pos h2];congr 2;omega
 · rw [if_neg h2,if_pos h1]}
 {
 rw [if_neg h1]
 by_cases h2:q=i
 · rw [if_pos h2,if_pos h2]
 · rw [if_neg h2,if_neg h2,if_neg h1]}}
theorem Uq(s:Of)(i j:Int):upd (upd (ints s) i (.int Oi (s j))) j (.int Oi (s i))=ints (swp s i j):=by
 funext q;unfold upd ints swp
 by_cases h1:q=j
 {
 rw [if_pos h1]
 by_cases h2:q=i
 · rw [if_pos h2];congr 2;omega
 · rw [if_neg h2,if_pos h1]}
 {
 rw [if_neg h1]
 by_cases h2:q=i
 · rw [if_pos h2,if_pos h2]
 · rw [if_neg h2,if_neg h2,if_neg h1]}
theorem iH.inj{lo hi:Int}{t:Of}(h:iH lo hi (fun k=>k) t){i j:Int}(e:t i=t j):i=j:=by
 obtain⟨p,q,F,I,D⟩:=h
 rw [D,D] at e
 have:=congrArg q e
 rwa [(F _).2,(F _).2] at this
theorem Sat.Ey{w0 w:World}{l:List iO}(h:Sat w0 w l)(i:Nat){E:TypeId}{n:Int}{vv:Ov}{ln:Of}{f:Og}{t:Of}(J:iH 0 n (fun k=>k) t)(hi:l[i]? =some (.sem (Frame.rows E n vv ln f)):=by exact rfl):
   Sat w0 w (l.set i (.sem (Frame.rows E n (fun k=>vv (t k)) (fun k=>ln (t k)) (fun k=>f (t k))))):=
 h.Ak i hi (fun⟨h1,h2⟩=>⟨fun k O N=>by
     obtain⟨j,I,F,D⟩:=J.fr O N
     have e:t k=j:=D
     show(iO.own (vv (t k)) 1 E (ln (t k)) (ints (f (t k)))).holds w
     rw [e];exact h1 j I F,fun a b a0 Z b0 b1 Y g W U=>by
     obtain⟨j,I,F,D⟩:=J.fr a0 Z
     obtain⟨k,O,N,k2⟩:=J.fr b0 b1
     exact h2 (t a) (t b) (by rw [D];exact I) (by rw [D];exact F) (by rw [k2];exact O) (by rw [k2];exact N) (fun e=>Y (J.inj e)) g W U⟩)
   (fun g ⟨a,a0,Z,W⟩=>by
     obtain⟨j,I,F,D⟩:=J.fr a0 Z
     exact⟨t a,by rw [D];exact I,by rw [D];exact F,W⟩)
theorem SQ{f:Ov}{n:Int}{x:Value}(h:∀k,(f k).oneCell'=true)(D:x.oneCell'=true):∀k,(lD f n x k).oneCell'=true:=fun k=>by
 unfold lD;split
 · exact h k
 · exact D
end Go.Proofs.Gw
namespace Go.Proofs.YtpnamgfdakfccaaGreat
open Go Go.RowKit Go.Proofs.Gw
variable {a b nm:Int} {cnt:Of} {pv:Ov} {vd:Value}
theorem IU:Zc Om 138=true:=Oc
theorem ZnR:Zc Om 218=true:=Oc
theorem PI:Zc Om 272=true:=Oc
theorem IZ:Zc Om 273=true:=Oc
theorem Zni:Zc Om 308=true:=Oc
theorem Lu:Zc Om 325=true:=Oc
theorem Yy:Zy Om 28=some (97,2):=Oc
theorem Z2:ZC Om 97=some 2:=Oc
theorem LZ{n:Int}{s:Of}{F:Gw.Frame}{m:Int}(w0 w:World)(D:Sat w0 w [.own vd 2 97 n (Ze (fun I=>pv (s I)) (fun I=>cnt (s I))),.sem F])(J:iK vd n)(Y:n<=100000000)(N:∀x,(pv x).oneCell'=true)(a0:0<=a)(Z:0<=m)(ab:a+m<=b)(bn:b+m<=n):
   Calls Om 325 [vd,.int Oi a,.int Oi b,.int Oi m,.func (.func 138) #[] #[]].toArray w fun e w=>∃v,e= .returned v/\v= .tuple #[]/\Sat w0 w [.own vd 2 97 n (Ze (fun I=>pv ((wS s a b m) I)) (fun I=>cnt ((wS s a b m) I))),.sem F]:=by
 refine uM Tryz.func325 Tryz.ntmps325 ?_
 refine fQ<|(zP)<|nI<|ny (fun O M w=>∃(t:Of) (i:Int),O=((m-i).toNat)/\(0<=i)/\(i<=m)/\(t=wS s a b i)/\M= [(0,vd),(1,.int Oi a),(2,.int Oi b),(3,.int Oi m),(10,.int Oi i)]/\Sat w0 w [.own vd 2 97 n (Ze (fun I=>pv (t I)) (fun I=>cnt (t I))),.sem F]) ⟨s,0,rfl,Oa,Oa,?_,rfl,D⟩ ?_
 {
 exact(ZbT s a b).symm}
 clear D w
 rintro O M w ⟨t,i,rfl,W,i1,U,rfl,D⟩
 refine lW<|fQ<|(Oo)<|ig<|Zf ?_ ?_<;>intro hc
 {
 refine nX<|iP<|lW<|o7<|lg [0,1] [1] 21 nP D ?_;clear D;intro w D
 refine(b_ 0 gu)<|(b_ 1 gu)<|(b_ 2 gu)<|(b_ 3 (Zg (r:=a+i)))<|(b_ 4 gu)<|(b_ 5 gu)<|(b_ 6 gu)<|(b_ 7 (Zg (r:=b+i)))<|(b_ 8 gu)<|(b_ 9 gu)<|(b_ 10 gu)<|(b_ 11 (Zg (r:=b+i)))<|(b_ 12 (iy (kk:=2*b+2*i) Yy J))<|sQ 13 (fun w D=>(uT (cs:= [(pv (t (b+i))),.int Oi (cnt (t (b+i)))]) Z2 (D.f_ 0 rfl) (ZE (k:=2*b+2*i) (i:=b+i) (fun I=>pv (t I)) (fun I=>cnt (t I)) Oa))) ?_
 refine(b_ 14 gu)<|(b_ 15 gu)<|(b_ 16 gu)<|(b_ 17 (Zg (r:=a+i)))<|(b_ 18 (iy (kk:=2*a+2*i) Yy J))<|sQ 19 (fun w D=>(uT (cs:= [(pv (t (a+i))),.int Oi (cnt (t (a+i)))]) Z2 (D.f_ 0 rfl) (ZE (k:=2*a+2*i) (i:=a+i) (fun I=>pv (t I)) (fun I=>cnt (t I)) Oa))) ?_
 refine(b_ 20 (iy (kk:=2*a+2*i) Yy J))<|nR 21 (Ah 0 Z2 D (X0 (i:=a+i) (k:=2*a+2*i) _ _ _ _ Oa) (hv:=N _)) ?_;clear D;rintro w D
 refine⟨⟨fun h=>absurd h (by decide),D.pk [1]⟩,?_⟩
 refine(b_ 22 (iy (kk:=2*b+2*i) Yy J))<|nR 23 (Ah 0 Z2 D (Eq.trans (X0 (i:=b+i) (k:=2*b+2*i) _ _ _ _ Oa) (WE pv cnt t (a+i) (b+i))) (hv:=N _)) ?_;clear D;rintro w D
 refine⟨⟨fun h=>absurd h (by decide),D.pk [1]⟩,?_⟩
 refine lS<|ng<|iP<|lG ?_
 refine(zP)<|(zV (Zg (r:=i+1)))<|(zP)<|iq<|jm ⟨swp t (a+i) (b+i),i+1,rfl,Oa,Oa,?_,rfl,D⟩
 {
 rw [U];exact ZbU W Oa Oa Oa}}
 refine sW<|n_<|n_<|rH<|XK ⟨_,rfl,?_⟩
 obtain rfl:i=m:=Oa
 subst U
 exact⟨rfl,D⟩
theorem Zos{n:Int}{s:Of}{F:Gw.Frame}{m:Int}(w0 w:World)(h:Sat w0 w [.own vd 2 97 n (Ze (fun D=>pv (s D)) (fun D=>cnt (s D))),.sem F])(I:iK vd n)(J:n<=100000000)(N:∀x,(pv x).oneCell'=true)(a0:0<=a)(am:a<m)(W:m<b)(bn:b<=n):
   Calls Om 308 [vd,.int Oi a,.int Oi m,.int Oi b,.func (.func 138) #[] #[]].toArray w fun e w=>∃v,e= .returned v/\v= .tuple #[]/\Sat w0 w [.own vd 2 97 n (Ze (fun D=>pv ((pJ s a m b) D)) (fun D=>cnt ((pJ s a m b) D))),.sem F]:=by
 refine uM Tryz.func308 Tryz.ntmps308 ?_
 refine fQ<|(On)<|(zV (Zr (r:=m-a)))<|(zP)<|iT<|(On)<|(zV (Zr (r:=b-m)))<|(zP)<|ig<|lW<|o7<|ny (fun O M w=>∃(t:Of) (i:Int) (j:Int),O=((i+j).toNat)/\(1<=i)/\(1<=j)/\(a<=m-i)/\(m+j<=b)/\(pJ t (m-i) m (m+j)=pJ s a m b)/\M= [(0,vd),(2,.int Oi m),(4,.func (.func 138) #[] #[]),(10,.int Oi i),(11,.int Oi j)]/\Sat w0 w [.own vd 2 97 n (Ze (fun D=>pv (t D)) (fun D=>cnt (t D))),.sem F]) ⟨s,m-a,b-m,rfl,Oa,Oa,Oa,Oa,?_,rfl,h⟩ ?_
 {
 rw [show m-(m-a)=a by omega,show m+(b-m)=b by omega]}
 clear h w
 rintro O M w ⟨t,i,j,rfl,i0,Z,ia,Y,hr,rfl,h⟩
 refine lW<|fQ<|(Oo)<|ig<|Zf ?_ ?_<;>intro hc
 {
 refine nX<|iP<|o7<|fQ<|(Oo)<|ig<|Zf ?_ ?_<;>intro hc
 {
 refine fQ<|(Oo)<|(zV (Zr (r:=m-i)))<|(Oo)<|iJ (xc0 Lu) (LZ (s:=t) (a:=m-i) (b:=m) (m:=j) w0 w h I J N Oa Oa Oa Oa) ?_;rintro _ w ⟨rfl,h⟩
 refine ig<|lG<|(On)<|(zV (Zr (r:=i-j)))<|(zP)<|iq<|ng<|jm ⟨(wS t (m-i) m j),i-j,j,rfl,Oa,Oa,Oa,Oa,?_,rfl,h⟩
 {
 first|(rw [<-hr,show m-(i-j)=m-i+j by omega];exact Ub Oa Oa)|(rw [<-hr,show m+(j-i)=m+j-i by omega];exact Vp Oa Oa)}}
 refine fQ<|(Oo)<|(zV (Zr (r:=m-i)))<|(On)<|(zV (Zg (r:=m+j)))<|(zP)<|(zV (Zr (r:=m+j-i)))<|(On)<|iJ (xc0 Lu) (LZ (s:=t) (a:=m-i) (b:=m+j-i) (m:=i) w0 w h I J N Oa Oa Oa Oa) ?_;rintro _ w ⟨rfl,h⟩
 refine ig<|lG<|(On)<|(zV (Zr (r:=j-i)))<|(zP)<|iq<|ng<|jm ⟨(wS t (m-i) (m+j-i) i),i,j-i,rfl,Oa,Oa,Oa,Oa,?_,rfl,h⟩
 {
 first|(rw [<-hr,show m-(i-j)=m-i+j by omega];exact Ub Oa Oa)|(rw [<-hr,show m+(j-i)=m+j-i by omega];exact Vp Oa Oa)}}
 refine sW<|n_<|n_<|rH<|iP<|lG<|(Oo)<|(zV (Zr (r:=m-i)))<|(Oo)<|iJ (xc0 Lu) (LZ (s:=t) (a:=m-i) (b:=m) (m:=i) w0 w h I J N Oa Oa Oa Oa) ?_;rintro _ w ⟨rfl,h⟩
 refine iq<|XK ⟨_,rfl,?_⟩
 have U:(wS t (m-i) m i)=pJ s a m b:=by
   rw [<-hr,show j=i by omega];exact Zb9 Oa
 rw [U] at h
 exact⟨rfl,h⟩
theorem PN{n:Int}{s:Of}{lt:Int->Int->Prop}{F:Gw.Frame}(w0 w:World)(D:Sat w0 w [.own vd 2 97 n (Ze (fun I=>pv (s I)) (fun I=>cnt (s I))),.sem F])(N:iK vd n)(ac:n<=100000000)(qo:∀x,(pv x).oneCell'=true)(qw:∀(w:World) (x y:Int),0<=x->x<nm->0<=y->y<nm->Below w0.heap.size w0 w->F.holds w->Calls Om 138 [.agg #[pv x,.int Oi (cnt x)],.agg #[pv y,.int Oi (cnt y)]].toArray w fun e w'=>∃v,e= .returned v/\∃c:Int,v= .int Oi c/\(c<0↔lt x y)/\Sat w w' [])(hd:∀k,0<=k->k<n->0<=s k/\s k<nm)(hw:AL lt)(a0:0<=a)(ab:a<=b)(bn:b<=n)(qT:Tw a b s):
   Calls Om 272 [vd,.int Oi a,.int Oi b,.func (.func 138) #[] #[]].toArray w fun e w=>∃v,e= .returned v/\v= .tuple #[]/\∃t:Of,iH a b s t/\rP (Tie lt) a b t/\Sat w0 w [.own vd 2 97 n (Ze (fun I=>pv (t I)) (fun I=>cnt (t I))),.sem F]:=by
 refine uM Tryz.func272 Tryz.ntmps272 ?_
 refine fQ<|(zP)<|(zV (Zg (r:=a+1)))<|(zP)<|nI<|ny (fun U M w=>∃(t:Of) (i:Int),U=((b-i).toNat)/\(a+1<=i)/\(i<=b\/i=a+1)/\(iH a i s t)/\(rP (Tie lt) a i t)/\(∀k,0<=k->k<n->0<=t k/\t k<nm)/\M= [(0,vd),(1,.int Oi a),(2,.int Oi b),(3,.func (.func 138) #[] #[]),(8,.int Oi i)]/\Sat w0 w [.own vd 2 97 n (Ze (fun I=>pv (t I)) (fun I=>cnt (t I))),.sem F]) ⟨s,a+1,rfl,Oa,Oa,?_,?_,?_,rfl,D⟩ ?_
 {
 exact .refl _ _ _}
 {
 intro p q p0 pq q1;omega}
 {
 exact hd}
 clear D w
 rintro U M w ⟨t,i,rfl,i0,i1,W,hs,hd1,rfl,D⟩
 refine lW<|fQ<|(Oo)<|ig<|Zf ?_ ?_<;>intro hc
 {
 refine oC<|(On)<|nI<|ny (fun U M w=>∃(J:Of) (j:Int),U=((j-a).toNat)/\(a<=j)/\(j<=i)/\(Ins lt a i j t J)/\(∀k,0<=k->k<n->0<=J k/\J k<nm)/\M= [(0,vd),(1,.int Oi a),(2,.int Oi b),(3,.func (.func 138) #[] #[]),(8,.int Oi i),(9,.int Oi j)]/\Sat w0 w [.own vd 2 97 n (Ze (fun I=>pv (J I)) (fun I=>cnt (J I))),.sem F]) ⟨t,i,rfl,Oa,Oa,?_,?_,rfl,D⟩ ?_
 {
 exact Ins.start Oa hs (SY W qT Oa)}
 {
 exact hd1}
 clear D w
 rintro U M w ⟨J,j,rfl,j0,j1,Z,hd2,rfl,D⟩
 refine lW<|lW<|lg [0,1] [0,1] 1000 nP D ?_;clear D;intro w D
 refine(b_ 0 gu)<|(b_ 1 gu)<|(b_ 2 YC)<|(b_ 3 gu)<|AO 21 ?_ ?_<;>intro hc
 {
 refine(b_ 4 gu)<|(b_ 5 gu)<|(b_ 6 gu)<|(b_ 7 (iy (kk:=2*j) Yy N))<|(iQ 8 (fun w D=>(uT (cs:= [(pv (J j)),.int Oi (cnt (J j))]) Z2 (D.f_ 0 rfl) (ZE (k:=2*j) (i:=j) (fun I=>pv (J I)) (fun I=>cnt (J I)) Oa))))<|(b_ 9 gu)<|(b_ 10 gu)<|(b_ 11 (Zr (r:=j-1)))<|(b_ 12 (iy (kk:=2*j-2) Yy N))<|(iQ 13 (fun w D=>(uT (cs:= [(pv (J (j-1))),.int Oi (cnt (J (j-1)))]) Z2 (D.f_ 0 rfl) (ZE (k:=2*j-2) (i:=j-1) (fun I=>pv (J I)) (fun I=>cnt (J I)) Oa))))<|pK 14 (xc0 IU) (qw w (J j) (J (j-1)) (hd2 j Oa Oa).1 (hd2 j Oa Oa).2 (hd2 (j-1) Oa Oa).1 (hd2 (j-1) Oa Oa).2 D.below (D.holds _ (List.mem_of_getElem? (i:=1) rfl))) ?_;rintro _ w ⟨c1,rfl,O,Y⟩
 replace D:=D.cmp Y;clear Y
 refine⟨⟨fun _=>D,D⟩,?_⟩
 refine(b_ 15 Z6)<|(b_ 16 qj)<|lS<|iP ?_
 refine Zf ?_ ?_<;>intro hc
 {
 refine nX<|iP<|lW<|o7<|lg [0,1] [1] 15 nP D ?_;clear D;intro w D
 refine(b_ 0 gu)<|(b_ 1 gu)<|(b_ 2 gu)<|(b_ 3 gu)<|(b_ 4 (Zr (r:=j-1)))<|(b_ 5 gu)<|(b_ 6 gu)<|(b_ 7 (Zr (r:=j-1)))<|(b_ 8 (iy (kk:=2*j-2) Yy N))<|sQ 9 (fun w D=>(uT (cs:= [(pv (J (j-1))),.int Oi (cnt (J (j-1)))]) Z2 (D.f_ 0 rfl) (ZE (k:=2*j-2) (i:=j-1) (fun I=>pv (J I)) (fun I=>cnt (J I)) Oa))) ?_
 refine(b_ 10 gu)<|(b_ 11 gu)<|(b_ 12 (iy (kk:=2*j) Yy N))<|sQ 13 (fun w D=>(uT (cs:= [(pv (J j)),.int Oi (cnt (J j))]) Z2 (D.f_ 0 rfl) (ZE (k:=2*j) (i:=j) (fun I=>pv (J I)) (fun I=>cnt (J I)) Oa))) ?_
 refine(b_ 14 (iy (kk:=2*j) Yy N))<|nR 15 (Ah 0 Z2 D (X0 (i:=j) (k:=2*j) _ _ _ _ Oa) (hv:=qo _)) ?_;clear D;rintro w D
 refine⟨⟨fun h=>absurd h (by decide),D.pk [1]⟩,?_⟩
 refine(b_ 16 (iy (kk:=2*j-2) Yy N))<|nR 17 (Ah 0 Z2 D (Eq.trans (X0 (i:=j-1) (k:=2*j-2) _ _ _ _ Oa) (WE pv cnt J j (j-1))) (hv:=qo _)) ?_;clear D;rintro w D
 refine⟨⟨fun h=>absurd h (by decide),D.pk [1]⟩,?_⟩
 refine lS<|ng<|iP<|lG ?_
 refine(zP)<|(zV (Zr (r:=j-1)))<|(zP)<|iq<|jm ⟨swp J j (j-1),j-1,rfl,Oa,Oa,?_,?_,rfl,D⟩
 {
 exact Z.step Oa Oa (O.1 ‹c1<0›)}
 {
 exact(TX (lo:=a) (hi:=n) Oa Oa Oa Oa).dom a0 (.inl Oa) hd2}}
 refine sW<|n_<|n_<|rH<|ng<|iP<|lG<|(zP)<|(zV (Zg (r:=i+1)))<|(zP)<|iq<|jm ⟨J,i+1,rfl,Oa,Oa,?_,?_,?_,rfl,D⟩
 {
 exact(W.mono Oa Oa).trans Z.perm}
 {
 exact Z.fin hw Oa Oa (by first|exact .inl Oa|exact .inr fun h=>absurd (O.2 h) ‹¬c1<0›)}
 {
 exact hd2}}
 refine(iV 4)<|(iV 5)<|(iV 6)<|(iV 7)<|(iV 8)<|(iV 9)<|(iV 10)<|(iV 11)<|(iV 12)<|(iV 13)<|(iV 14)<|(iV 15)<|(b_ 16 pY)<|lS<|iP<|uD<|sW<|n_<|n_<|rH<|ng<|iP<|lG ?_
 refine(zP)<|(zV (Zg (r:=i+1)))<|(zP)<|iq<|jm ⟨J,i+1,rfl,Oa,Oa,?_,?_,?_,rfl,D⟩
 {
 exact(W.mono Oa Oa).trans Z.perm}
 {
 exact Z.fin hw Oa Oa (by first|exact .inl Oa|exact .inr fun h=>absurd (O.2 h) ‹¬c1<0›)}
 {
 exact hd2}}
 refine sW<|n_<|n_<|rH<|XK ⟨_,rfl,?_⟩
 refine⟨rfl,t,?_,?_,D⟩
 {
 by_cases hab:i<=b
 · exact W.mono Oa Oa
 {
 obtain⟨p_,q_,e1,e2,e3⟩:=W
 exact⟨p_,q_,e1,fun k hk=>by
   by_cases hka:k=a
   {
   subst hka
   apply Classical.byContradiction;intro aa
   have h5:=e2 (p_ k) Oa
   have h6:=congrArg q_ h5
   rw [(e1 _).2,(e1 _).2] at h6;exact aa h6}
   · exact e2 k Oa,e3⟩}}
 · exact hs.mono Oa Oa
theorem O9{n:Int}{lt:Int->Int->Prop}{F:Gw.Frame}(J:iK vd n)(ae:n<=100000000)(qo:∀x,(pv x).oneCell'=true)(hw:AL lt)(N:Nat):∀{s:Of} {a m b:Int} (w0 w:World) (D:Sat w0 w [.own vd 2 97 n (Ze (fun I=>pv (s I)) (fun I=>cnt (s I))),.sem F]) (qw:∀(w:World) (x y:Int),0<=x->x<nm->0<=y->y<nm->Below w0.heap.size w0 w->F.holds w->Calls Om 138 [.agg #[pv x,.int Oi (cnt x)],.agg #[pv y,.int Oi (cnt y)]].toArray w fun e w'=>∃v,e= .returned v/\∃c:Int,v= .int Oi c/\(c<0↔lt x y)/\Sat w w' []) (hd:∀k,0<=k->k<n->0<=s k/\s k<nm) (a0:0<=a) (am:a<m) (mb:m<b) (bn:b<=n) (h1:rP (Tie lt) a m s) (h2:rP (Tie lt) m b s) (hp:sD a m b s) (hN:(b-a).toNat<N),
   Calls Om 273 [vd,.int Oi a,.int Oi m,.int Oi b,.func (.func 138) #[] #[]].toArray w fun e w=>∃v,e= .returned v/\v= .tuple #[]/\∃t:Of,iH a b s t/\rP (Tie lt) a b t/\Sat w0 w [.own vd 2 97 n (Ze (fun I=>pv (t I)) (fun I=>cnt (t I))),.sem F]:=by
 induction N with
 |zero=>intros;omega
 | succ N ih=>
   intro s a m b w0 w D qw hd a0 am mb bn h1 h2 hp hN
   refine uM Tryz.func273 Tryz.ntmps273 ?_
   refine lW<|fQ<|(On)<|(zV (Zr (r:=m-a)))<|(zP)<|ig<|Zf ?_ ?_<;>intro hc
   {
   refine fQ<|(On)<|iT<|(On)<|ig<|lW<|o7<|ny (fun Z M w=>∃(i:Int) (j:Int),Z=((j-i).toNat)/\(m<=i)/\(i<=j)/\(j<=b)/\(i=a+1\/lt (s (i-1)) (s a))/\(j=b\/¬lt (s j) (s a))/\M= [(0,vd),(1,.int Oi a),(2,.int Oi m),(3,.int Oi b),(4,.func (.func 138) #[] #[]),(10,.int Oi i),(11,.int Oi j)]/\Sat w0 w [.own vd 2 97 n (Ze (fun I=>pv (s I)) (fun I=>cnt (s I))),.sem F]) ⟨m,b,rfl,Oa,Oa,Oa,?_,?_,rfl,D⟩ ?_
   {
   exact .inl Oa}
   {
   exact .inl rfl}
   clear D w
   rintro Z M w ⟨i,j,rfl,i0,ij,j1,hi,hj,rfl,D⟩
   refine lW<|fQ<|(Oo)<|ig<|Zf ?_ ?_<;>intro hc
   {
   refine nX<|iP<|o7<|fQ<|(On)<|(zV (Zg (r:=i+j)))<|(zV (yF RW We))<|(zV (Tf (r:=((i+j)/2))))<|(zV (yF WF D7))<|(zP)<|nG<|lg [0,1] [0,1] 1000 nP D ?_;clear D;intro w D
   refine(b_ 0 gu)<|(b_ 1 gu)<|(b_ 2 gu)<|(b_ 3 (iy (kk:=2*((i+j)/2)) Yy J))<|(iQ 4 (fun w D=>(uT (cs:= [(pv (s ((i+j)/2))),.int Oi (cnt (s ((i+j)/2)))]) Z2 (D.f_ 0 rfl) (ZE (k:=2*((i+j)/2)) (i:=((i+j)/2)) (fun I=>pv (s I)) (fun I=>cnt (s I)) Oa))))<|(b_ 5 gu)<|(b_ 6 gu)<|(b_ 7 (iy (kk:=2*a) Yy J))<|(iQ 8 (fun w D=>(uT (cs:= [(pv (s a)),.int Oi (cnt (s a))]) Z2 (D.f_ 0 rfl) (ZE (k:=2*a) (i:=a) (fun I=>pv (s I)) (fun I=>cnt (s I)) Oa))))<|pK 9 (xc0 IU) (qw w (s ((i+j)/2)) (s a) (hd ((i+j)/2) Oa Oa).1 (hd ((i+j)/2) Oa Oa).2 (hd a Oa Oa).1 (hd a Oa Oa).2 D.below (D.holds _ (List.mem_of_getElem? (i:=1) rfl))) ?_;rintro _ w ⟨c1,rfl,O,U⟩
   replace D:=D.cmp U;clear U
   refine⟨⟨fun _=>D,D⟩,?_⟩
   refine(b_ 10 Z6)<|lS<|iP ?_
   refine Zf ?_ ?_<;>intro hc
   {
   refine lG<|(zP)<|(zV (Zg (r:=((i+j)/2)+1)))<|(zP)<|iq<|ng<|jm ⟨((i+j)/2)+1,j,rfl,Oa,Oa,Oa,?_,?_,rfl,D⟩
   {
   first|exact hi|(right;rw [show(i+j)/2+1-1=(i+j)/2 by omega];exact O.1 ‹c1<0›)}
   {
   first|exact hj|exact .inr fun h=>absurd (O.2 h) ‹¬c1<0›}}
   refine lG<|(On)<|iq<|ng<|jm ⟨i,((i+j)/2),rfl,Oa,Oa,Oa,?_,?_,rfl,D⟩
   {
   first|exact hi|(right;rw [show(i+j)/2+1-1=(i+j)/2 by omega];exact O.1 ‹c1<0›)}
   {
   first|exact hj|exact .inr fun h=>absurd (O.2 h) ‹¬c1<0›}}
   refine uw<|(On)<|nI<|ny (fun Z M w=>∃(t:Of) (k:Int),Z=((i-1-k).toNat)/\(a<=k)/\(k<=i-1)/\(t=pJ s a (a+1) (k+1))/\M= [(0,vd),(1,.int Oi a),(2,.int Oi m),(3,.int Oi b),(4,.func (.func 138) #[] #[]),(10,.int Oi i),(13,.int Oi k)]/\Sat w0 w [.own vd 2 97 n (Ze (fun I=>pv (t I)) (fun I=>cnt (t I))),.sem F]) ⟨s,a,rfl,Oa,Oa,?_,rfl,D⟩ ?_
   {
   exact(Zb5 s a).symm}
   clear D w
   rintro Z M w ⟨t,k,rfl,k0,k1,W,rfl,D⟩
   refine lW<|fQ<|(On)<|(zV (Zr (r:=i-1)))<|(zP)<|ig<|Zf ?_ ?_<;>intro hc
   {
   refine nX<|iP<|lW<|o7<|lg [0,1] [1] 15 nP D ?_;clear D;intro w D
   refine(b_ 0 gu)<|(b_ 1 gu)<|(b_ 2 gu)<|(b_ 3 gu)<|(b_ 4 (Zg (r:=k+1)))<|(b_ 5 gu)<|(b_ 6 gu)<|(b_ 7 (Zg (r:=k+1)))<|(b_ 8 (iy (kk:=2*k+2) Yy J))<|sQ 9 (fun w D=>(uT (cs:= [(pv (t (k+1))),.int Oi (cnt (t (k+1)))]) Z2 (D.f_ 0 rfl) (ZE (k:=2*k+2) (i:=k+1) (fun I=>pv (t I)) (fun I=>cnt (t I)) Oa))) ?_
   refine(b_ 10 gu)<|(b_ 11 gu)<|(b_ 12 (iy (kk:=2*k) Yy J))<|sQ 13 (fun w D=>(uT (cs:= [(pv (t k)),.int Oi (cnt (t k))]) Z2 (D.f_ 0 rfl) (ZE (k:=2*k) (i:=k) (fun I=>pv (t I)) (fun I=>cnt (t I)) Oa))) ?_
   refine(b_ 14 (iy (kk:=2*k) Yy J))<|nR 15 (Ah 0 Z2 D (X0 (i:=k) (k:=2*k) _ _ _ _ Oa) (hv:=qo _)) ?_;clear D;rintro w D
   refine⟨⟨fun h=>absurd h (by decide),D.pk [1]⟩,?_⟩
   refine(b_ 16 (iy (kk:=2*k+2) Yy J))<|nR 17 (Ah 0 Z2 D (Eq.trans (X0 (i:=k+1) (k:=2*k+2) _ _ _ _ Oa) (WE pv cnt t k (k+1))) (hv:=qo _)) ?_;clear D;rintro w D
   refine⟨⟨fun h=>absurd h (by decide),D.pk [1]⟩,?_⟩
   refine lS<|ng<|iP<|lG ?_
   refine(zP)<|(zV (Zg (r:=k+1)))<|(zP)<|iq<|jm ⟨swp t k (k+1),k+1,rfl,Oa,Oa,?_,rfl,D⟩
   {
   rw [W];exact Zb6 Oa}}
   refine sW<|n_<|n_<|rH<|iP<|sZ<|m_<|Ae ⟨_,rfl,?_⟩
   have ad:k+1=i:=Oa
   rw [ad] at W
   refine⟨rfl,t,?_,?_,D⟩
   · rw [W];exact(Yu Oa Oa).mono Oa Oa
   · rw [W];obtain rfl:m=a+1:=Oa
     exact KC hw h2 (fun j j0 j1=>hp a j Oa Oa j0 j1) Oa Oa hi (by rw [show i=j by omega];exact hj)}
   refine XJ<|(On)<|(zV (Zr (r:=b-m)))<|(zP)<|ig<|Zf ?_ ?_<;>intro hc
   {
   refine fQ<|(On)<|iT<|(On)<|ig<|lW<|o7<|ny (fun Z M w=>∃(i:Int) (j:Int),Z=((j-i).toNat)/\(a<=i)/\(i<=j)/\(j<=m)/\(i=a\/¬lt (s m) (s (i-1)))/\(j=m\/lt (s m) (s j))/\M= [(0,vd),(1,.int Oi a),(2,.int Oi m),(3,.int Oi b),(4,.func (.func 138) #[] #[]),(14,.int Oi i),(15,.int Oi j)]/\Sat w0 w [.own vd 2 97 n (Ze (fun I=>pv (s I)) (fun I=>cnt (s I))),.sem F]) ⟨a,m,rfl,Oa,Oa,Oa,?_,?_,rfl,D⟩ ?_
   {
   exact .inl rfl}
   {
   exact .inl rfl}
   clear D w
   rintro Z M w ⟨i,j,rfl,i0,ij,j1,hi,hj,rfl,D⟩
   refine lW<|fQ<|(Oo)<|ig<|Zf ?_ ?_<;>intro hc
   {
   refine nX<|iP<|o7<|fQ<|(On)<|(zV (Zg (r:=i+j)))<|(zV (yF RW We))<|(zV (Tf (r:=((i+j)/2))))<|(zV (yF WF D7))<|(zP)<|nG<|lg [0,1] [0,1] 1000 nP D ?_;clear D;intro w D
   refine(b_ 0 gu)<|(b_ 1 gu)<|(b_ 2 gu)<|(b_ 3 (iy (kk:=2*m) Yy J))<|(iQ 4 (fun w D=>(uT (cs:= [(pv (s m)),.int Oi (cnt (s m))]) Z2 (D.f_ 0 rfl) (ZE (k:=2*m) (i:=m) (fun I=>pv (s I)) (fun I=>cnt (s I)) Oa))))<|(b_ 5 gu)<|(b_ 6 gu)<|(b_ 7 (iy (kk:=2*((i+j)/2)) Yy J))<|(iQ 8 (fun w D=>(uT (cs:= [(pv (s ((i+j)/2))),.int Oi (cnt (s ((i+j)/2)))]) Z2 (D.f_ 0 rfl) (ZE (k:=2*((i+j)/2)) (i:=((i+j)/2)) (fun I=>pv (s I)) (fun I=>cnt (s I)) Oa))))<|pK 9 (xc0 IU) (qw w (s m) (s ((i+j)/2)) (hd m Oa Oa).1 (hd m Oa Oa).2 (hd ((i+j)/2) Oa Oa).1 (hd ((i+j)/2) Oa Oa).2 D.below (D.holds _ (List.mem_of_getElem? (i:=1) rfl))) ?_;rintro _ w ⟨c1,rfl,O,U⟩
   replace D:=D.cmp U;clear U
   refine⟨⟨fun _=>D,D⟩,?_⟩
   refine(b_ 10 Z6)<|(b_ 11 YL)<|lS<|iP ?_
   refine Zf ?_ ?_<;>intro hc
   {
   refine lG<|(zP)<|(zV (Zg (r:=((i+j)/2)+1)))<|(zP)<|iq<|ng<|jm ⟨((i+j)/2)+1,j,rfl,Oa,Oa,Oa,?_,?_,rfl,D⟩
   {
   first|exact hi|(right;rw [show(i+j)/2+1-1=(i+j)/2 by omega];exact fun h=>absurd (O.2 h) ‹¬c1<0›)}
   {
   first|exact hj|exact .inr (O.1 (Od ‹_›))}}
   refine lG<|(On)<|iq<|ng<|jm ⟨i,((i+j)/2),rfl,Oa,Oa,Oa,?_,?_,rfl,D⟩
   {
   first|exact hi|(right;rw [show(i+j)/2+1-1=(i+j)/2 by omega];exact fun h=>absurd (O.2 h) ‹¬c1<0›)}
   {
   first|exact hj|exact .inr (O.1 (Od ‹_›))}}
   refine uw<|(On)<|nI<|ny (fun Z M w=>∃(t:Of) (k:Int),Z=((k-i).toNat)/\(i<=k)/\(k<=m)/\(t=pJ s k m (m+1))/\M= [(0,vd),(1,.int Oi a),(2,.int Oi m),(3,.int Oi b),(4,.func (.func 138) #[] #[]),(14,.int Oi i),(17,.int Oi k)]/\Sat w0 w [.own vd 2 97 n (Ze (fun I=>pv (t I)) (fun I=>cnt (t I))),.sem F]) ⟨s,m,rfl,Oa,Oa,?_,rfl,D⟩ ?_
   {
   exact(Zb3 s m).symm}
   clear D w
   rintro Z M w ⟨t,k,rfl,k0,k1,W,rfl,D⟩
   refine lW<|fQ<|(Oo)<|ig<|Zf ?_ ?_<;>intro hc
   {
   refine nX<|iP<|lW<|o7<|lg [0,1] [1] 15 nP D ?_;clear D;intro w D
   refine(b_ 0 gu)<|(b_ 1 gu)<|(b_ 2 gu)<|(b_ 3 gu)<|(b_ 4 (Zr (r:=k-1)))<|(b_ 5 gu)<|(b_ 6 gu)<|(b_ 7 (Zr (r:=k-1)))<|(b_ 8 (iy (kk:=2*k-2) Yy J))<|sQ 9 (fun w D=>(uT (cs:= [(pv (t (k-1))),.int Oi (cnt (t (k-1)))]) Z2 (D.f_ 0 rfl) (ZE (k:=2*k-2) (i:=k-1) (fun I=>pv (t I)) (fun I=>cnt (t I)) Oa))) ?_
   refine(b_ 10 gu)<|(b_ 11 gu)<|(b_ 12 (iy (kk:=2*k) Yy J))<|sQ 13 (fun w D=>(uT (cs:= [(pv (t k)),.int Oi (cnt (t k))]) Z2 (D.f_ 0 rfl) (ZE (k:=2*k) (i:=k) (fun I=>pv (t I)) (fun I=>cnt (t I)) Oa))) ?_
   refine(b_ 14 (iy (kk:=2*k) Yy J))<|nR 15 (Ah 0 Z2 D (X0 (i:=k) (k:=2*k) _ _ _ _ Oa) (hv:=qo _)) ?_;clear D;rintro w D
   refine⟨⟨fun h=>absurd h (by decide),D.pk [1]⟩,?_⟩
   refine(b_ 16 (iy (kk:=2*k-2) Yy J))<|nR 17 (Ah 0 Z2 D (Eq.trans (X0 (i:=k-1) (k:=2*k-2) _ _ _ _ Oa) (WE pv cnt t k (k-1))) (hv:=qo _)) ?_;clear D;rintro w D
   refine⟨⟨fun h=>absurd h (by decide),D.pk [1]⟩,?_⟩
   refine lS<|ng<|iP<|lG ?_
   refine(zP)<|(zV (Zr (r:=k-1)))<|(zP)<|iq<|jm ⟨swp t k (k-1),k-1,rfl,Oa,Oa,?_,rfl,D⟩
   {
   rw [W];exact Zb4 Oa}}
   refine sW<|n_<|n_<|rH<|iP<|sZ<|m_<|Ae ⟨_,rfl,?_⟩
   have ad:k=i:=Oa
   rw [ad] at W
   refine⟨rfl,t,?_,?_,D⟩
   · rw [W];exact(Yu Oa Oa).mono Oa Oa
   · rw [W];obtain rfl:b=m+1:=Oa
     exact Rp hw h1 (fun i i0 i1=>hp i m i0 i1 Oa Oa) Oa Oa hi (by rw [show i=j by omega];exact hj)}
   refine ZX<|(On)<|(zV (Zg (r:=a+b)))<|(zV (yF RW We))<|(zV (Tf (r:=((a+b)/2))))<|(zV (yF WF D7))<|(zP)<|iT<|(On)<|(zV (Zg (r:=((a+b)/2)+m)))<|(zP)<|iT<|(On)<|nG ?_
   refine WT (fun M w=>∃(mid:Int) (s0:Int) (r0:Int),(mid=((a+b)/2))/\((mid<m/\s0=mid+m-b/\r0=mid)\/(m<=mid/\s0=a/\r0=m))/\M= [(0,vd),(1,.int Oi a),(2,.int Oi m),(3,.int Oi b),(4,.func (.func 138) #[] #[]),(25,.int Oi m),(26,.int Oi a),(27,.int Oi (m-a)),(28,B (m-a=1)),(77,.int Oi b),(78,.int Oi m),(79,.int Oi (b-m)),(80,B (b-m=1)),(129,.int Oi a),(130,.int Oi b),(131,.int Oi (a+b)),(132,.int .u64 (a+b)),(133,.int .u64 ((a+b)/2)),(134,.int Oi ((a+b)/2)),(18,.int Oi mid),(135,.int Oi ((a+b)/2)),(136,.int Oi m),(137,.int Oi (((a+b)/2)+m)),(19,.int Oi (mid+m)),(20,.int Oi s0),(21,.int Oi r0)]/\Sat w0 w [.own vd 2 97 n (Ze (fun I=>pv (s I)) (fun I=>cnt (s I))),.sem F]) ?_ ?_
   {
   refine fQ<|(Oo)<|ig<|Zf ?_ ?_<;>intro hc
   {
   refine fQ<|(On)<|(zV (Zr (r:=((a+b)/2)+m-b)))<|(zP)<|ig<|lG<|(On)<|iq<|tK ⟨((a+b)/2),(((a+b)/2)+m-b),((a+b)/2),rfl,Oa,rfl,D⟩}
   refine fQ<|(On)<|ig<|lG<|(On)<|iq<|tK ⟨((a+b)/2),a,m,rfl,Oa,rfl,D⟩}
   clear D w;rintro M w ⟨mid,s0,r0,jy,hq,rfl,D⟩
   refine iP<|fQ<|(zP)<|(zV (Zr (r:=mid+m-1)))<|(zP)<|ig<|lW<|o7<|ny (fun Z M w=>∃(x:Int) (y:Int),Z=((y-x).toNat)/\(s0<=x)/\(x<=y)/\(y<=r0)/\(x=s0\/¬lt (s (mid+m-x)) (s (x-1)))/\(y=r0\/lt (s (mid+m-y-1)) (s y))/\M= [(0,vd),(1,.int Oi a),(2,.int Oi m),(3,.int Oi b),(4,.func (.func 138) #[] #[]),(18,.int Oi mid),(19,.int Oi (mid+m)),(20,.int Oi x),(21,.int Oi y),(22,.int Oi (mid+m-1))]/\Sat w0 w [.own vd 2 97 n (Ze (fun I=>pv (s I)) (fun I=>cnt (s I))),.sem F]) ⟨s0,r0,rfl,Oa,Oa,Oa,?_,?_,rfl,D⟩ ?_
   {
   exact .inl rfl}
   {
   exact .inl rfl}
   clear D w
   rintro Z M w ⟨x,y,rfl,x0,xy,y1,hx,hy,rfl,D⟩
   refine lW<|fQ<|(Oo)<|ig<|Zf ?_ ?_<;>intro hc
   {
   refine nX<|iP<|o7<|fQ<|(On)<|(zV (Zg (r:=x+y)))<|(zV (yF RW We))<|(zV (Tf (r:=((x+y)/2))))<|(zV (yF WF D7))<|(zP)<|nG<|lg [0,1] [0,1] 1000 nP D ?_;clear D;intro w D
   refine(b_ 0 gu)<|(b_ 1 gu)<|(b_ 2 gu)<|(b_ 3 gu)<|(b_ 4 (Zr (r:=mid+m-((x+y)/2)-1)))<|(b_ 5 (iy (kk:=2*mid+2*m-2*((x+y)/2)-2) Yy J))<|(iQ 6 (fun w D=>(uT (cs:= [(pv (s (mid+m-((x+y)/2)-1))),.int Oi (cnt (s (mid+m-((x+y)/2)-1)))]) Z2 (D.f_ 0 rfl) (ZE (k:=2*mid+2*m-2*((x+y)/2)-2) (i:=mid+m-((x+y)/2)-1) (fun I=>pv (s I)) (fun I=>cnt (s I)) Oa))))<|(b_ 7 gu)<|(b_ 8 gu)<|(b_ 9 (iy (kk:=2*((x+y)/2)) Yy J))<|(iQ 10 (fun w D=>(uT (cs:= [(pv (s ((x+y)/2))),.int Oi (cnt (s ((x+y)/2)))]) Z2 (D.f_ 0 rfl) (ZE (k:=2*((x+y)/2)) (i:=((x+y)/2)) (fun I=>pv (s I)) (fun I=>cnt (s I)) Oa))))<|pK 11 (xc0 IU) (qw w (s (mid+m-((x+y)/2)-1)) (s ((x+y)/2)) (hd (mid+m-((x+y)/2)-1) Oa Oa).1 (hd (mid+m-((x+y)/2)-1) Oa Oa).2 (hd ((x+y)/2) Oa Oa).1 (hd ((x+y)/2) Oa Oa).2 D.below (D.holds _ (List.mem_of_getElem? (i:=1) rfl))) ?_;rintro _ w ⟨c1,rfl,O,U⟩
   replace D:=D.cmp U;clear U
   refine⟨⟨fun _=>D,D⟩,?_⟩
   refine(b_ 12 Z6)<|(b_ 13 YL)<|lS<|iP ?_
   refine Zf ?_ ?_<;>intro hc
   {
   refine lG<|(zP)<|(zV (Zg (r:=((x+y)/2)+1)))<|(zP)<|iq<|ng<|jm ⟨((x+y)/2)+1,y,rfl,Oa,Oa,Oa,?_,?_,rfl,D⟩
   {
   first|exact hx|(right;rw [show mid+m-((x+y)/2+1)=mid+m-(x+y)/2-1 by omega,show(x+y)/2+1-1=(x+y)/2 by omega];exact fun h=>absurd (O.2 h) ‹¬c1<0›)}
   {
   first|exact hy|exact .inr (O.1 (Od ‹_›))}}
   refine lG<|(On)<|iq<|ng<|jm ⟨x,((x+y)/2),rfl,Oa,Oa,Oa,?_,?_,rfl,D⟩
   {
   first|exact hx|(right;rw [show mid+m-((x+y)/2+1)=mid+m-(x+y)/2-1 by omega,show(x+y)/2+1-1=(x+y)/2 by omega];exact fun h=>absurd (O.2 h) ‹¬c1<0›)}
   {
   first|exact hy|exact .inr (O.1 (Od ‹_›))}}
   refine oM<|(On)<|(zV (Zr (r:=mid+m-x)))<|(zP)<|nG ?_
   refine WT (fun M w=>∃(t:Of),(t=pJ s x m (mid+m-x))/\M= [(0,vd),(1,.int Oi a),(2,.int Oi m),(3,.int Oi b),(4,.func (.func 138) #[] #[]),(18,.int Oi mid),(19,.int Oi (mid+m)),(20,.int Oi x),(21,.int Oi y),(22,.int Oi (mid+m-1)),(149,.int Oi x),(150,.int Oi y),(151,B (x<y)),(175,.int Oi (mid+m)),(176,.int Oi x),(177,.int Oi (mid+m-x)),(24,.int Oi (mid+m-x))]/\Sat w0 w [.own vd 2 97 n (Ze (fun I=>pv (t I)) (fun I=>cnt (t I))),.sem F]) ?_ ?_
   {
   refine fQ<|qE ?_
   refine lX 181 ?_ ?_<;>intro hc
   {
   refine qE ?_
   refine ig<|Zf ?_ ?_<;>intro hc
   {
   refine lG<|uK ?_
   refine iJ (xc0 Zni) (Zos (s:=s) (a:=x) (m:=m) (b:=mid+m-x) w0 w D J ae qo Oa Oa Oa Oa) ?_;rintro _ w ⟨rfl,D⟩
   refine iq<|tK ⟨(pJ s x m (mid+m-x)),rfl,rfl,D⟩}
   refine nX<|tK ⟨s,(Ua Oa Oa Oa).symm,rfl,D⟩}
   iterate 3 refine oq ?_
   refine(zP)<|ig<|uD<|nX<|tK ⟨s,(Ua Oa Oa Oa).symm,rfl,D⟩}
   clear D w;rintro M w ⟨t,W,rfl,D⟩
   have aa:=(Yu (a:=s) (lo:=x) (c:=m) (hi:=mid+m-x) Oa Oa).dom (n:=n) (N:=nm) Oa (.inl Oa) hd
   rw [<-W] at aa
   have hH:=Ul hw h1 h2 hp (s:=x) (mid:=mid) (e:=mid+m-x) Oa Oa Oa Oa Oa (by rcases hq with hq|hq<;>rcases hx with hx|hx<;>first|exact .inl Oa|exact .inr (.inl Oa)|exact .inr (.inr hx)) (by rcases hq with hq|hq<;>rcases hy with hy|hy<;>first|exact .inl Oa|exact .inr (.inl Oa)|(refine .inr (.inr ?_);rw [show x=y by omega];exact hy))
   rw [<-W] at hH
   refine iP<|lW<| ?_
   refine WT (fun M w=>∃(t1:Of),(iH a mid t t1)/\(rP (Tie lt) a mid t1)/\(∀k,0<=k->k<n->0<=t1 k/\t1 k<nm)/\M= [(0,vd),(1,.int Oi a),(2,.int Oi m),(3,.int Oi b),(4,.func (.func 138) #[] #[]),(18,.int Oi mid),(19,.int Oi (mid+m)),(20,.int Oi x),(21,.int Oi y),(22,.int Oi (mid+m-1)),(149,.int Oi x),(150,.int Oi y),(151,B (x<y)),(175,.int Oi (mid+m)),(176,.int Oi x),(177,.int Oi (mid+m-x)),(24,.int Oi (mid+m-x))]/\Sat w0 w [.own vd 2 97 n (Ze (fun I=>pv (t1 I)) (fun I=>cnt (t1 I))),.sem F]) ?_ ?_
   {
   refine fQ<|qE ?_
   refine lX 195 ?_ ?_<;>intro hc
   {
   refine qE ?_
   refine ig<|Zf ?_ ?_<;>intro hc
   {
   refine lG<|uK ?_
   refine iJ (xc0 IZ) (ih (s:=t) (a:=a) (m:=x) (b:=mid) w0 w D qw aa Oa Oa Oa Oa (hH.l1) (hH.l2) (hH.pl) Oa) ?_;rintro _ w ⟨rfl,u1,qt,xo,D⟩
   have x6:=qt.dom Oa (.inl Oa) aa
   refine iq<|tK ⟨u1,qt,xo,x6,rfl,D⟩}
   refine nX<|tK ⟨t,(.refl _ _ _),(hH.left (by first|omega|(rintro⟨h3,h4⟩;omega)) Oa Oa),aa,rfl,D⟩}
   iterate 3 refine oq ?_
   refine(zP)<|ig<|uD<|nX<|tK ⟨t,(.refl _ _ _),(hH.left (by first|omega|(rintro⟨h3,h4⟩;omega)) Oa Oa),aa,rfl,D⟩}
   clear D w;rintro M w ⟨t1,Y,ac,bw,rfl,D⟩
   have ab:Halves lt a a mid (mid+m-x) b t1:=Halves.after hH Y ac Oa Oa
   refine iP<|fQ<|qE ?_
   refine lX 209 ?_ ?_<;>intro hc
   {
   refine qE ?_
   refine ig<|Zf ?_ ?_<;>intro hc
   {
   refine lG<|uK ?_
   refine iJ (xc0 IZ) (ih (s:=t1) (a:=mid) (m:=mid+m-x) (b:=b) w0 w D qw bw Oa Oa Oa Oa (ab.r1) (ab.r2) (ab.pr) Oa) ?_;rintro _ w ⟨rfl,u1,qt,xo,D⟩
   have x6:=qt.dom Oa (.inl Oa) bw
   refine iq<|XK ⟨_,rfl,?_⟩
   refine⟨rfl,u1,((((Yu (a:=s) (lo:=x) (c:=m) (hi:=mid+m-x) Oa Oa).mono Oa Oa:iH a b s _)).trans (W▸Y.mono Oa Oa)).trans (qt.mono Oa Oa),?_,D⟩
   exact hH.join hw Oa Oa Y ac qt xo}
   refine nX<|XK ⟨_,rfl,?_⟩
   refine⟨rfl,t1,(((Yu (a:=s) (lo:=x) (c:=m) (hi:=mid+m-x) Oa Oa).mono Oa Oa:iH a b s _)).trans (W▸Y.mono Oa Oa),?_,D⟩
   exact hH.join hw Oa Oa Y ac (.refl _ _ _) (ab.right (by first|omega|(rintro⟨h3,h4⟩;omega)) Oa Oa)}
   iterate 3 refine oq ?_
   refine(zP)<|ig<|uD<|nX<|XK ⟨_,rfl,?_⟩
   refine⟨rfl,t1,(((Yu (a:=s) (lo:=x) (c:=m) (hi:=mid+m-x) Oa Oa).mono Oa Oa:iH a b s _)).trans (W▸Y.mono Oa Oa),?_,D⟩
   exact hH.join hw Oa Oa Y ac (.refl _ _ _) (ab.right (by first|omega|(rintro⟨h3,h4⟩;omega)) Oa Oa)
theorem Zf5{n:Int}{s:Of}{lt:Int->Int->Prop}{F:Gw.Frame}(w0 w:World)(h:Sat w0 w [.own vd 2 97 n (Ze (fun D=>pv (s D)) (fun D=>cnt (s D))),.sem F])(U:iK vd n)(aa:n<=100000000)(qo:∀x,(pv x).oneCell'=true)(qw:∀(w:World) (x y:Int),0<=x->x<nm->0<=y->y<nm->Below w0.heap.size w0 w->F.holds w->Calls Om 138 [.agg #[pv x,.int Oi (cnt x)],.agg #[pv y,.int Oi (cnt y)]].toArray w fun e w'=>∃v,e= .returned v/\∃c:Int,v= .int Oi c/\(c<0↔lt x y)/\Sat w w' [])(hd:∀k,0<=k->k<n->0<=s k/\s k<nm)(hw:AL lt)(qT:Tw 0 n s):
   Calls Om 218 [vd,.int Oi n,.func (.func 138) #[] #[]].toArray w fun e w=>∃v,e= .returned v/\v= .tuple #[]/\∃t:Of,iH 0 n s t/\rP (Tie lt) 0 n t/\Sat w0 w [.own vd 2 97 n (Ze (fun D=>pv (t D)) (fun D=>cnt (t D))),.sem F]:=by
 have af:=U.n0
 refine uM Tryz.func218 Tryz.ntmps218 ?_
 refine fQ<|(zP)<|iT<|(Oo)<|ig<|lW<|o7<|ny (fun mm M w=>∃(t:Of) (a:Int) (b:Int),mm=((n-a).toNat)/\(0<=a)/\(a<=n)/\(b=a+20)/\((20:Int)∣a)/\(iH 0 a s t)/\(oW lt 20 n 0 a t)/\(∀k,0<=k->k<n->0<=t k/\t k<nm)/\M= [(0,vd),(1,.int Oi n),(2,.func (.func 138) #[] #[]),(6,.int Oi 20),(7,.int Oi a),(8,.int Oi b)]/\Sat w0 w [.own vd 2 97 n (Ze (fun D=>pv (t D)) (fun D=>cnt (t D))),.sem F]) ⟨s,0,20,rfl,Oa,Oa,Oa,?_,?_,?_,?_,rfl,h⟩ ?_
 {
 exact Int.dvd_zero 20}
 {
 exact .refl _ _ _}
 {
 intro c c0 c1;omega}
 {
 exact hd}
 clear h w
 rintro mm M w ⟨t,a,b,rfl,a0,a1,hb,ab,hp,hr,hd1,rfl,h⟩
 refine lW<|fQ<|(Oo)<|ig<|Zf ?_ ?_<;>intro hc
 {
 refine nX<|iP<|o7<|fQ<|qE ?_
 refine iJ (xc0 PI) (PN (s:=t) (a:=a) (b:=b) w0 w h U aa qo qw hd1 hw Oa Oa Oa (Vx hp qT Oa Oa Oa)) ?_;rintro _ w ⟨rfl,u1,qt,xo,h⟩
 have x6:=qt.dom Oa (.inl Oa) hd1
 refine iT<|(On)<|ig<|lG<|(On)<|(zV (Zg (r:=b+20)))<|(zP)<|iq<|ng<|jm ⟨u1,b,b+20,rfl,Oa,Oa,Oa,?_,?_,?_,?_,rfl,h⟩
 {
 rw [hb];exact Int.dvd_add ab (Int.dvd_refl 20)}
 {
 exact(hp.mono Oa Oa).trans (qt.mono Oa Oa)}
 {
 exact WG Oa qT hr a0 ab hp qt xo (.inl ⟨hb,Oa⟩) Oa}
 {
 exact x6}}
 refine oM<|qE ?_
 refine iJ (xc0 PI) (PN (s:=t) (a:=a) (b:=n) w0 w h U aa qo qw hd1 hw Oa Oa Oa (Vx hp qT Oa Oa Oa)) ?_;rintro _ w ⟨rfl,u1,qt,xo,h⟩
 have x6:=qt.dom Oa (.inl Oa) hd1
 refine nI<|ny (fun mm M w=>∃(t2:Of) (z:Int),mm=((n-z).toNat)/\(20<=z)/\(z<=2*n+20)/\(iH 0 n s t2)/\(oW lt z n 0 n t2)/\(∀k,0<=k->k<n->0<=t2 k/\t2 k<nm)/\M= [(0,vd),(1,.int Oi n),(2,.func (.func 138) #[] #[]),(6,.int Oi z)]/\Sat w0 w [.own vd 2 97 n (Ze (fun D=>pv (t2 D)) (fun D=>cnt (t2 D))),.sem F]) ⟨u1,20,rfl,Oa,Oa,?_,?_,?_,rfl,h⟩ ?_
 {
 exact(hp.mono Oa Oa).trans (qt.mono Oa Oa)}
 {
 exact WG Oa qT hr a0 ab hp qt xo (.inr ⟨rfl,Oa⟩) Oa}
 {
 exact x6}
 clear h w
 rintro mm M w ⟨t2,z,rfl,z0,z1,ae,ad,hd2,rfl,h⟩
 refine lW<|fQ<|(Oo)<|ig<|Zf ?_ ?_<;>intro hc
 {
 refine nX<|iP<|o7<|fQ<|(zP)<|(zV (Yf (r:=2*z)))<|(On)<|ig<|lW<|o7<|ny (fun mm M w=>∃(N:Of) (J:Int) (b3:Int),mm=((n-J).toNat)/\(0<=J)/\(J<=n)/\(b3=J+2*z)/\(2*z∣J)/\(iH 0 n s N)/\(oW lt (2*z) n 0 J N)/\(oW lt z n J n N)/\(∀k,0<=k->k<n->0<=N k/\N k<nm)/\M= [(0,vd),(1,.int Oi n),(2,.func (.func 138) #[] #[]),(6,.int Oi z),(7,.int Oi J),(8,.int Oi b3)]/\Sat w0 w [.own vd 2 97 n (Ze (fun D=>pv (N D)) (fun D=>cnt (N D))),.sem F]) ⟨t2,0,2*z,rfl,Oa,Oa,Oa,?_,?_,?_,?_,?_,rfl,h⟩ ?_
 {
 exact Int.dvd_zero _}
 {
 exact ae}
 {
 intro c c0 c1;omega}
 {
 exact ad}
 {
 exact hd2}
 clear h w
 rintro mm M w ⟨N,J,b3,rfl,I,ag,ac,Z,W,hA,hB,O,rfl,h⟩
 refine lW<|fQ<|(Oo)<|ig<|Zf ?_ ?_<;>intro hc
 {
 refine nX<|iP<|o7<|fQ<|qE ?_
 refine(zV (Zg (r:=J+z)))<|zs2 ?_
 have hk:=V8 (lt:=lt) (z:=z) (n:=n) (a:=J) (b:=b3) (t:=N) Oa I (Int.dvd_trans (Int.dvd_mul_left 2 z) Z) hB Oa Oa Oa
 refine iJ (xc0 IZ) (O9 (nm:=nm) (lt:=lt) U aa qo hw _ (s:=N) (a:=J) (m:=J+z) (b:=b3) w0 w h qw O Oa Oa Oa Oa hk.1 hk.2.1 hk.2.2 (Nat.lt_succ_self _)) ?_;rintro _ w ⟨rfl,u2,Y,yy,h⟩
 have za:=Y.dom Oa (.inl Oa) O
 refine iT<|(On)<|ig<|lG<|(On)<|(zV (Yf (r:=2*z)))<|(zV (Zg (r:=b3+2*z)))<|(zP)<|iq<|ng<|jm ⟨u2,b3,b3+2*z,rfl,Oa,Oa,Oa,?_,?_,?_,?_,?_,rfl,h⟩
 {
 rw [ac];exact Int.dvd_add Z (Int.dvd_refl _)}
 {
 exact W.trans (Y.mono Oa Oa)}
 {
 exact(Yq Oa I Z hA hB Y yy (.inl ⟨ac,Oa⟩) Oa).1}
 {
 exact(Yq Oa I Z hA hB Y yy (.inl ⟨ac,Oa⟩) Oa).2}
 {
 exact za}}
 refine uw<|(On)<|(zV (Zg (r:=J+z)))<|(zP)<|iT<|(Oo)<|ig<|Zf ?_ ?_<;>intro hc
 {
 refine lG<|uK ?_
 have hk:=V8 (lt:=lt) (z:=z) (n:=n) (a:=J) (b:=n) (t:=N) Oa I (Int.dvd_trans (Int.dvd_mul_left 2 z) Z) hB Oa Oa Oa
 refine iJ (xc0 IZ) (O9 (nm:=nm) (lt:=lt) U aa qo hw _ (s:=N) (a:=J) (m:=J+z) (b:=n) w0 w h qw O Oa Oa Oa Oa hk.1 hk.2.1 hk.2.2 (Nat.lt_succ_self _)) ?_;rintro _ w ⟨rfl,u2,Y,yy,h⟩
 have za:=Y.dom Oa (.inl Oa) O
 refine ig<|lG<|(zP)<|(zV (Yf (r:=2*z)))<|(zP)<|iq<|ng<|jm ⟨u2,2*z,rfl,Oa,Oa,?_,?_,?_,rfl,h⟩
 {
 first|exact W.trans (Y.mono Oa Oa)|exact W}
 {
 first|exact(Yq Oa I Z hA hB Y yy (.inr ⟨rfl,Oa⟩) Oa).1|exact V9 Oa I Z hA hB Oa Oa}
 {
 first|exact za|exact O}}
 refine nX<|iP<|lG<|(zP)<|(zV (Yf (r:=2*z)))<|(zP)<|iq<|ng<|jm ⟨N,2*z,rfl,Oa,Oa,?_,?_,?_,rfl,h⟩
 {
 first|exact W.trans (Y.mono Oa Oa)|exact W}
 {
 first|exact(Yq Oa I Z hA hB Y yy (.inr ⟨rfl,Oa⟩) Oa).1|exact V9 Oa I Z hA hB Oa Oa}
 {
 first|exact za|exact O}}
 refine sW<|n_<|n_<|rH<|XK ⟨_,rfl,?_⟩
 exact⟨rfl,t2,ae,Zb8 ad Oa,h⟩
theorem Zix{n:Int}{s:Of}{lt:Int->Int->Prop}{F:Gw.Frame}(w0 w:World)(J:Sat w0 w [.own vd 2 97 n (Ze (fun h=>pv (s h)) (fun h=>cnt (s h))),.sem F])(D:iK vd n)(I:n<=100000000)(Y:∀x,(pv x).oneCell'=true)(U:∀(w:World) (x y:Int),0<=x->x<nm->0<=y->y<nm->Below w0.heap.size w0 w->F.holds w->Calls Om 138 [.agg #[pv x,.int Oi (cnt x)],.agg #[pv y,.int Oi (cnt y)]].toArray w fun e w'=>∃v,e= .returned v/\∃c:Int,v= .int Oi c/\(c<0↔lt x y)/\Sat w w' [])(hd:∀k,0<=k->k<n->0<=s k/\s k<nm)(hw:AL lt)(Z:Tw 0 n s):
   Calls Om 137 [vd,.func (.func 138) #[] #[]].toArray w fun e w=>∃v,e= .returned v/\v= .tuple #[]/\∃t:Of,iH 0 n s t/\rP (Tie lt) 0 n t/\Sat w0 w [.own vd 2 97 n (Ze (fun h=>pv (t h)) (fun h=>cnt (t h))),.sem F]:=by
 refine uM Tryz.func137 Tryz.ntmps137 ?_
 refine lG<|(On)<|(zV (iW ZP D))<|(zP)<|iJ (xc0 ZnR) (Zf5 (s:=s) w0 w J D I Y U hd hw Z) ?_;rintro _ w ⟨rfl,O,W,N,J⟩
 refine iq<|XK ⟨_,rfl,?_⟩
 exact⟨rfl,O,W,N,J⟩
end Go.Proofs.YtpnamgfdakfccaaGreat
namespace Go.Proofs.YtpnamgfdakfccaaGreat
open Go Go.RowKit Go.Proofs.Gw
variable {m:Int} {f g:Of} {vA vB:Value}
theorem Zof:Zc Om 139=true:=Oc
theorem ZnS:Zc Om 182=true:=Oc
theorem PG:Zc Om 253=true:=Oc
theorem rJ:Zw Om 97 0=some 0:=Oc
theorem X_{x:Int}(w0:World):
   Calls Om 253 [.int Oi x].toArray w0 fun e w=>∃v,e= .returned v/\v= .bool false/\Sat w0 w []:=by
 refine iE Tryz.func253 Tryz.ntmps253 fun w h=> ?_
 refine fQ<|(zP)<|iT<|(On)<|(zV (Dc Xf))<|(zP)<|jk<|Oj ?_
 exact⟨rfl,h⟩
def EY(x y c:Int):Prop:=(c= -1/\x<y)\/(c=0/\x=y)\/(c=1/\y<x)
theorem Zo1{x y:Int}(w0:World):
   Calls Om 182 [.int Oi x,.int Oi y].toArray w0 fun e w=>∃v,e= .returned v/\∃c:Int,v= .int Oi c/\EY x y c/\Sat w0 w []:=by
 refine iE Tryz.func182 Tryz.ntmps182 fun w D=> ?_
 refine fQ<|(zP)<|iT<|(zP)<|iJ (xc0 PG) (X_ (x:=x) w) ?_;rintro _ w ⟨rfl,h⟩
 replace D:=D.cmp h;clear h
 refine(zP)<|iT<|(zP)<|iJ (xc0 PG) (X_ (x:=y) w) ?_;rintro _ w ⟨rfl,h⟩
 replace D:=D.cmp h;clear h
 refine(zP)<|l9<|(zP)<|ig<|uD<|nX<|iP<|lW<|fQ ?_
 refine(zP)<|ig<|uD<|nX<|iP<|lW<|fQ ?_
 refine(Oo)<|ig<|Zf ?_ ?_<;>intro hc
 {
 refine fQ<|(zP)<|j_<|Oj ?_
 exact⟨(-1),rfl,by unfold EY;omega,D⟩}
 refine XJ<|(Oo)<|ig<|Zf ?_ ?_<;>intro hc
 {
 refine fQ<|(zP)<|j_<|Oj ?_
 exact⟨1,rfl,by unfold EY;omega,D⟩}
 refine ZX<|(zP)<|jk<|Oj ?_
 exact⟨0,rfl,by unfold EY;omega,D⟩
theorem Zor{n:Int}(w0:World)(U:Row w0 vA 1 n (ints f))(O:Row w0 vB 1 m (ints g)):
   Calls Om 139 [vA,vB].toArray w0 fun e w=>∃v,e= .returned v/\∃c:Int,v= .int Oi c/\(c<0↔AA (lst m g) (lst n f))/\Sat w0 w []:=by
 have hn:=U.fP.n0;have aa:=U.fP.n1;have hm:=O.fP.n0;have ab:=O.fP.n1
 refine iE Tryz.func139 Tryz.ntmps139 fun w D=> ?_
 refine fQ<|(zP)<|l9<|(zP)<|(zV (iW Zb U.fP))<|(zP)<|nI<|ny (fun mm M w=>∃(i:Int),mm=((n-i).toNat)/\(0<=i)/\(i<=n)/\(i<=m)/\(∀k,0<=k->k<i->f k=g k)/\M= [(0,vA),(1,vB),(9,vA),(10,.int Oi n),(11,.int Oi i)]/\Sat w0 w []) ⟨0,rfl,Oa,Oa,Oa,?_,rfl,D⟩ ?_
 {
 intro k h0 h1;omega}
 clear D w
 rintro mm M w ⟨i,rfl,h0,h1,h2,J,rfl,D⟩
 refine fQ<|(zP)<|nG<|Zf ?_ ?_<;>intro hc
 {
 refine oC<|(zP)<|(zV (iy (kk:=i) Zb U.fP))<|(zV (iR (u:= .int Oi (f i)) dw (U.below D.below)))<|(On)<|l9<|(On)<|(zV (iW Zb O.fP))<|(zP)<|ig<|Zf ?_ ?_<;>intro hc
 {
 refine fQ<|(zP)<|ig<|sZ<|m_<|og<|m_<|m_<|og<|m_<|Oj ?_
 exact⟨1,rfl,⟨fun h=>Oa,fun h=>absurd h (UD (Zc7 Oa Oa (fun k F N=>J k F Oa)))⟩,D⟩}
 refine ZX<|(On)<|(zV (iy (kk:=i) Zb O.fP))<|(zV (iR (u:= .int Oi (g i)) dw (O.below D.below)))<|(zP)<|iT<|(On)<|iJ (xc0 ZnS) (Zo1 (x:=(f i)) (y:=(g i)) w) ?_;rintro _ w ⟨c1,rfl,I,W⟩
 replace D:=D.cmp W;clear W
 refine(zP)<|iT<|(On)<|ig<|Zf ?_ ?_<;>intro hc
 {
 refine fQ<|(On)<|sG<|Oj ?_
 exact⟨c1,rfl,⟨fun h=>O7 (j:=i) Oa Oa Oa (fun k F N=>(J k F N).symm) (by unfold EY at I;omega),fun h=>by
     unfold EY at I
     by_cases h9:c1<0
     · exact h9
     · exact absurd h (UD (O7 (j:=i) Oa Oa Oa (fun k F N=>J k F N) Oa))⟩,D⟩}
 refine rU<|(zV (Zg (r:=i+1)))<|(zP)<|iq<|jm ⟨i+1,rfl,Oa,Oa,Oa,?_,rfl,D⟩
 {
 intro k Z ac;rcases Int.lt_or_eq_of_le (show k<=i by omega) with Y|Y;exact J k Z Y;rw [Y];(unfold EY at I;omega)}}
 refine uw<|(zP)<|(zV (iW Zb U.fP))<|(zP)<|(zV (iW Zb O.fP))<|(zP)<|ig<|Zf ?_ ?_<;>intro hc
 {
 refine fQ<|(zP)<|j_<|Oj ?_
 exact⟨(-1),rfl,⟨fun _=>Zc7 Oa Oa (fun k F N=>(J k F Oa).symm),fun _=>Oa⟩,D⟩}
 refine ZX<|(zP)<|jk<|Oj ?_
 exact⟨0,rfl,⟨fun h=>Oa,fun h=>absurd h (by rw [show n=m by omega];exact Zja (fun k F N=>(J k F Oa).symm))⟩,D⟩
theorem ZoB{n:Int}{a b:Int}(w0:World)(J:Row w0 vA 1 n (ints f))(I:Row w0 vB 1 m (ints g)):
   Calls Om 138 [.agg #[vA,.int Oi a],.agg #[vB,.int Oi b]].toArray w0 fun e w=>∃v,e= .returned v/\∃c:Int,v= .int Oi c/\(c<0↔AA (lst n f) (lst m g))/\Sat w0 w []:=by
 refine iE Tryz.func138 Tryz.ntmps138 fun w h=> ?_
 refine fQ<|iG (nS (cs:= [_,_]) h) ?_;rintro _ w ⟨O,rfl,h⟩
 refine iG (nS (cs:= [_,_]) h) ?_;rintro _ w ⟨N,rfl,h⟩
 refine(zP)<|iT<|(zV (h_ 0 rJ))<|(zV (g_ 1 dV h))<|(zV (h_ 0 rJ))<|(zV (g_ 0 dV h))<|iJ (xc0 Zof) (Zor (n:=m) (f:=g) (m:=n) (g:=f) w (I.below h.below) (J.below h.below)) ?_;rintro _ w ⟨c1,rfl,F,D⟩
 replace h:=h.cmp D;clear D
 refine(zP)<|jk<|Oj ?_
 exact⟨_,rfl,F,h.nl⟩
theorem ZqJ{n:Int}(w0:World)(D:Row w0 vA 1 n (ints f))(F:Row w0 vB 1 m (ints g)):
   Calls Om 134 [vA,vB].toArray w0 fun e w=>∃v,e= .returned v/\v=B (lst n f=lst m g)/\Sat w0 w []:=by
 have hn:=D.fP.n0;have aa:=D.fP.n1;have I:=F.fP.n0;have ab:=F.fP.n1
 refine iE Tryz.func134 Tryz.ntmps134 fun w h=> ?_
 refine fQ<|(zP)<|l9<|(zP)<|(zV (iW Zb D.fP))<|(zP)<|(zV (iW Zb F.fP))<|(zP)<|ig<|Zf ?_ ?_<;>intro hc
 {
 refine fQ<|(zP)<|j_<|Oj ?_
 exact⟨Zi (by intro N;have O:=(UT hn I).1 N;first|omega|(have:=O.2 i W Oa;omega)),h⟩}
 refine XJ<|(zP)<|(zV (iW Zb D.fP))<|(zP)<|nI<|ny (fun Z M w=>∃(i:Int),Z=((n-i).toNat)/\(0<=i)/\(i<=n)/\(∀k,0<=k->k<i->f k=g k)/\M= [(0,vA),(1,vB),(12,.int Oi n),(13,.int Oi i)]/\Sat w0 w []) ⟨0,rfl,Oa,Oa,?_,rfl,h⟩ ?_
 {
 intro k W h1;omega}
 clear h w
 rintro Z M w ⟨i,rfl,W,h1,Y,rfl,h⟩
 refine fQ<|(zP)<|nG<|Zf ?_ ?_<;>intro hc
 {
 refine oC<|(On)<|nG<|lg [] [] 1000 nP h ?_;clear h;intro w h
 refine(b_ 0 gu)<|(b_ 1 gu)<|(b_ 2 (iy (kk:=i) Zb D.fP))<|(iQ 3 (fun w h=>(iR (u:= .int Oi (f i)) dw (D.below h.below))))<|(b_ 4 gu)<|(b_ 5 gu)<|(b_ 6 (iy (kk:=i) Zb F.fP))<|(iQ 7 (fun w h=>(iR (u:= .int Oi (g i)) dw (F.below h.below))))<|(b_ 8 Xf)<|lS<|iP ?_
 refine Zf ?_ ?_<;>intro hc
 {
 refine fQ<|(zP)<|sG<|Oj ?_
 exact⟨Zi (by intro N;have O:=(UT hn I).1 N;first|omega|(have:=O.2 i W Oa;omega)),h⟩}
 refine rU<|(zV (Zg (r:=i+1)))<|(zP)<|iq<|jm ⟨i+1,rfl,Oa,Oa,?_,rfl,h⟩
 {
 intro k U ac;rcases Int.lt_or_eq_of_le (show k<=i by omega) with J|J;exact Y k U J;rw [J];omega}}
 refine oM<|(zP)<|jk<|Oj ?_
 exact⟨Yk (by exact(UT hn I).2 ⟨by omega,fun k k0 k1=>Y k k0 Oa⟩),h⟩
end Go.Proofs.YtpnamgfdakfccaaGreat
namespace Go.Proofs.YtpnamgfdakfccaaGreat
open Go Go.RowKit Go.Proofs.Gw
variable {cnt ln:Of} {pt:Og} {pv:Ov} {vV:Value}
theorem Lm:Zc Om 132=true:=Oc
theorem Zok:Zc Om 133=true:=Oc
theorem Zoj:Zc Om 134=true:=Oc
theorem Zoh:Zc Om 136=true:=Oc
theorem qN:Zw Om 97 1=some 1:=Oc
theorem ZqB{vB:Value}{m b:Int}{g:Of}{vA:Value}{n a:Int}{f:Of}{F:Nat}(w0:World)(I:(iO.blk F [vA,.int Oi a]).holds w0)(N:Row w0 vA 1 n (ints f))(J:Row w0 vB 1 m (ints g)):
   Calls Om 133 [.agg #[vB,.int Oi b],Or F].toArray w0 fun e w=>∃v,e= .returned v/\v=B (lst n f=lst m g)/\Sat w0 w []:=by
 refine iE Tryz.func133 Tryz.ntmps133 fun w h=> ?_
 refine fQ<|iG (nS (cs:= [_,_]) h) ?_;rintro _ w ⟨O,rfl,h⟩
 refine(zP)<|iT<|(zV (h_ 0 rJ))<|(zV (wR dV (iO.holds.cell I (o:=0) rfl) h))<|(zV (h_ 0 rJ))<|(zV (g_ 0 dV h))<|iJ (xc0 Zoj) (ZqJ (n:=n) (f:=f) (m:=m) (g:=g) w (N.below h.below) (J.below h.below)) ?_;rintro _ w ⟨rfl,D⟩
 replace h:=h.cmp D;clear D
 refine(zP)<|jk<|Oj ?_
 exact⟨rfl,h.nl⟩
theorem ZoH{u:Int}{vA:Value}{n a:Int}{f:Of}{U:Nat}(w0:World)(D:tq w0 vV u pv ln pt cnt)(Z:(iO.blk U [vA,.int Oi a]).holds w0)(hA:Row w0 vA 1 n (ints f)):
   Calls Om 132 [vV,.func (.func 133) #[] #[Or U]].toArray w0 fun e w=>∃v,e= .returned v/\∃r:Int,v= .int Oi r/\((r= -1/\∀k,0<=k->k<u->¬(lst n f=lst (ln k) (pt k)))\/(0<=r/\r<u/\(lst n f=lst (ln r) (pt r))/\∀k,0<=k->k<r->¬(lst n f=lst (ln k) (pt k))))/\Sat w0 w []:=by
 have hn:=D.row.fP.n0;have Y:=D.row.fP.n1
 refine iE Tryz.func132 Tryz.ntmps132 fun w h=> ?_
 refine fQ<|(zP)<|l9<|(zP)<|(zV (iW ZP D.row.fP))<|(zP)<|nI<|ny (fun W M w=>∃(i:Int),W=((u-i).toNat)/\(0<=i)/\(i<=u)/\(∀k,0<=k->k<i->¬(lst n f=lst (ln k) (pt k)))/\M= [(0,vV),(1,.func (.func 133) #[] #[Or U]),(7,.int Oi u),(8,.int Oi i)]/\Sat w0 w []) ⟨0,rfl,Oa,Oa,?_,rfl,h⟩ ?_
 {
 intro k O h1;omega}
 clear h w
 rintro W M w ⟨i,rfl,O,h1,I,rfl,h⟩
 refine fQ<|(zP)<|nG<|Zf ?_ ?_<;>intro hc
 {
 refine oC<|(On)<|iT<|(Oo)<|(zV (iy (kk:=2*i) ZP D.row.fP))<|(zV (uT (cs:= [(pv i),.int Oi (cnt i)]) Z2 (D.row.below h.below) (ZE (k:=2*i) (i:=i) pv cnt Oa)))<|iJ (uU (vs:= [_]) Zok) (ZqB (n:=n) (f:=f) (m:=(ln i)) (g:=(pt i)) w (Sat.vS h Z) (hA.below h.below) ((D.p i Oa Oa).below h.below)) ?_;rintro _ w ⟨rfl,F⟩
 replace h:=h.cmp F;clear F
 refine ig<|Zf ?_ ?_<;>intro hc
 {
 refine fQ<|(On)<|sG<|Oj ?_
 exact⟨i,rfl,.inr ⟨by omega,Oa,‹lst n f=lst (ln i) (pt i)›,I⟩,h⟩}
 refine rU<|(zV (Zg (r:=i+1)))<|(zP)<|iq<|jm ⟨i+1,rfl,Oa,Oa,?_,rfl,h⟩
 {
 intro k N aa;rcases Int.lt_or_eq_of_le (show k<=i by omega) with J|J;exact I k N J;rw [J];assumption}}
 refine oM<|(zP)<|jk<|Oj ?_
 exact⟨-1,rfl,.inl ⟨rfl,fun k O h1=>I k O Oa⟩,h⟩
theorem ZqA{vB:Value}{m b:Int}{g:Of}(w0:World)(D:Row w0 vB 1 m (ints g)):
   Calls Om 136 [.agg #[vB,.int Oi b]].toArray w0 fun e w=>∃v,e= .returned v/\v=B (b<1)/\Sat w0 w []:=by
 refine iE Tryz.func136 Tryz.ntmps136 fun w h=> ?_
 refine fQ<|iG (nS (cs:= [_,_]) h) ?_;rintro _ w ⟨F,rfl,h⟩
 refine(zP)<|iT<|(zV (h_ 1 qN))<|(zV (g_ 0 dw h))<|(On)<|jk<|Oj ?_
 exact⟨rfl,h.nl⟩
theorem ZoG{u:Int}(w0:World)(D:tq w0 vV u pv ln pt cnt)(I:∀k,0<=k->k<u->1<=cnt k):
   Calls Om 132 [vV,.func (.func 136) #[] #[]].toArray w0 fun e w=>∃v,e= .returned v/\v= .int Oi (-1)/\Sat w0 w []:=by
 have hn:=D.row.fP.n0;have N:=D.row.fP.n1
 refine iE Tryz.func132 Tryz.ntmps132 fun w h=> ?_
 refine fQ<|(zP)<|l9<|(zP)<|(zV (iW ZP D.row.fP))<|(zP)<|nI<|ny (fun J M w=>∃(i:Int),J=((u-i).toNat)/\(0<=i)/\(i<=u)/\M= [(0,vV),(1,.func (.func 136) #[] #[]),(7,.int Oi u),(8,.int Oi i)]/\Sat w0 w []) ⟨0,rfl,Oa,Oa,rfl,h⟩ ?_
 clear h w
 rintro J M w ⟨i,rfl,O,h1,rfl,h⟩
 refine fQ<|(zP)<|nG<|Zf ?_ ?_<;>intro hc
 {
 refine oC<|(On)<|iT<|(Oo)<|(zV (iy (kk:=2*i) ZP D.row.fP))<|(zV (uT (cs:= [(pv i),.int Oi (cnt i)]) Z2 (D.row.below h.below) (ZE (k:=2*i) (i:=i) pv cnt Oa)))<|iJ (xc0 Zoh) (ZqA (b:=(cnt i)) w ((D.p i Oa Oa).below h.below)) ?_;rintro _ w ⟨rfl,F⟩
 replace h:=h.cmp F;clear F
 refine ig<|Zf ?_ ?_<;>intro hc
 {
 refine fQ<|(On)<|sG<|Oj ?_
 have:=I i O Oa
 omega}
 refine rU<|(zV (Zg (r:=i+1)))<|(zP)<|iq<|jm ⟨i+1,rfl,Oa,Oa,rfl,h⟩}
 refine oM<|(zP)<|jk<|Oj ?_
 exact⟨rfl,h⟩
theorem ZoU{u:Int}(w0:World)(I:tq w0 vV u pv ln pt cnt)(F:∀k,0<=k->k<u->1<=cnt k):
   Calls Om 135 [vV,.func (.func 136) #[] #[]].toArray w0 fun e w=>∃v,e= .returned v/\vV=v/\Sat w0 w []:=by
 refine iE Tryz.func135 Tryz.ntmps135 fun w D=> ?_
 refine fQ<|(zP)<|iT<|(On)<|iJ (xc0 Lm) (ZoG (u:=u) (pv:=pv) (ln:=ln) (pt:=pt) (cnt:=cnt) w (I.below D.below) F) ?_;rintro _ w ⟨rfl,h⟩
 replace D:=D.cmp h;clear h
 refine(zP)<|l9<|(zP)<|(zV (F8 Y1))<|ig<|rW<|fQ ?_
 refine(On)<|j_<|Oj ?_
 exact⟨rfl,D⟩
end Go.Proofs.YtpnamgfdakfccaaGreat
namespace Go.Proofs.YtpnamgfdakfccaaGreat
open Go Go.RowKit Go.Proofs.Gw
variable {cnt ln:Of} {pt:Og}
theorem Zoi:Zc Om 135=true:=Oc
theorem Zog:Zc Om 137=true:=Oc
theorem _B{h i:Int}{F O:Of}{N:Og}(n0:0<=h)(U:0<=i)(W:nY h F N O=V7 (nY i ln pt cnt))(J:∀k,0<=k->k<h->¬(lst (ln i) (pt i)=lst (F k) (N k))):
   nY (h+1) (lD F h (ln i)) (lD N h (pt i)) (snoc O h (cnt i))=V7 (nY (i+1) ln pt cnt):=by
 rw [Wp U,Kg,<-W,Zc9 fun v hv e=>by
   obtain⟨j,D⟩:=List.mem_iff_getElem?.1 hv
   rw [nH] at D
   split at D
   {
   injection D with D
   rw [<-D] at e
   exact J j Oa (by assumption) e.symm}
   · cases D]
 exact Rj n0 (fun k Y I=>⟨Zl I,Zt I,Zl I⟩) (Zo Oa) (Zu Oa) (Zo Oa)
theorem QM{N i r:Int}{F U:Of}{J:Og}(i0:0<=i)(hs:nY N F J U=V7 (nY i ln pt cnt))(Z:0<=r)(Y:r<N)(e:lst (ln i) (pt i)=lst (F r) (J r))(W:∀k,0<=k->k<r->¬(lst (ln i) (pt i)=lst (F k) (J k))):
   nY N F J (upd U r (U r+cnt i))=V7 (nY (i+1) ln pt cnt):=by
 rw [Wp i0,Kg,<-hs,T_ (j:=r.toNat) (v:=(lst (F r) (J r),U r)) (by rw [nH,Int.toNat_of_nonneg Z,if_pos Y]) e.symm fun k I w O h=>by
   rw [nH,if_pos Oa] at O
   injection O with O
   rw [<-O] at h
   exact W k Oa Oa h.symm]
 apply List.ext_getElem?
 intro k
 rw [List.getElem?_set,nH,nH,rY]
 unfold upd
 by_cases I:(k:Int)<N
 {
 rw [if_pos I,if_pos I]
 by_cases hr:r.toNat=k
 · have D:(k:Int)=r:=Oa
   rw [if_pos D,if_pos hr,if_pos Oa,D]
 · have D:¬(k:Int)=r:=Oa
   rw [if_neg D,if_neg hr]}
 · rw [if_neg I,if_neg I,if_neg Oa]
theorem QG{F:Of}{D B C x:Int}(h:∀k,0<=k->k<D->1<=F k/\F k<=B)(U:B<=C)(N:1<=x)(J:x<=C):∀k,0<=k->k<D+1->1<=snoc F D x k/\snoc F D x k<=C:=fun k I O=>by
 by_cases e:k<D
 · rw [Zt e];have:=h k I e;omega
 · rw [Zu e];omega
theorem OZ{D:Of}{F B C x r:Int}(h:∀k,0<=k->k<F->1<=D k/\D k<=B)(U:B<=C)(O:1<=x)(N:x<=C):∀k,0<=k->k<F->1<=upd D r x k/\upd D r x k<=C:=fun k J I=>by
 unfold upd
 by_cases e:k=r
 · rw [if_pos e];omega
 · rw [if_neg e];have:=h k J I;omega
theorem IL{vV:Value}{u:Int}{pv:Ov}(w0:World)(hV:tq w0 vV u pv ln pt cnt)(al:u<=10000000)(ai:∀k,0<=k->k<u->ln k<=100000)(ah:∀k,0<=k->k<u->1<=cnt k/\cnt k<=1000):
   Calls Om 68 [vV].toArray w0 fun e w=>∃v,e= .returned v/\∃r n2 af tV tN qm,v=r/\pX (nY u ln pt cnt) (nY n2 tV tN qm)/\0<=n2/\n2<=u/\(∀k,0<=k->k<n2->1<=qm k/\qm k<=1000*u)/\iK r n2/\Sat w0 w [.own r 2 97 n2 (Ze af qm),.sem (Frame.rows 3 n2 af tV tN)]:=by
 have hn:=hV.row.fP.n0;have am:=hV.row.fP.n1
 refine iE Tryz.func68 Tryz.ntmps68 fun w D=> ?_
 refine fQ<|(zP)<|iT<|(zP)<|l9<|(zP)<|(zV (iW ZP hV.row.fP))<|(zP)<|nI ?_
 replace D:=D.fU 2 97 (Ze (fun _=>Oh) (fun _=>0))
 replace D:=D.iF 3 (fun _=>Oh) (fun _=>0) (fun _ _=>0)
 have zL:=fun k (N:0<=k) (J:k<0)=>D.iw 1 rfl N J
 refine ny (fun mm M w=>∃(I:Int) (Z:Ov) (lC:Of) (gC:Og) (U:Of) (i:Int) (wC:Value),mm=((u-i).toNat)/\(0<=i)/\(i<=u)/\(0<=I/\I<=i)/\(nY I lC gC U=V7 (nY i ln pt cnt))/\(∀k,0<=k->k<I->1<=U k/\U k<=1000*i)/\(∀x,(Z x).oneCell'=true)/\(iK wC I)/\M= [(2,Oh),(3,wC),(7,vV),(8,.int Oi u),(9,.int Oi i)]/\Sat w0 w [.own wC 2 97 I (Ze Z U),.sem (Frame.rows 3 I Z lC gC)]) ⟨0,(fun _=>Oh),(fun _=>0),(fun _ _=>0),(fun _=>0),0,Oh,rfl,Oa,Oa,Oa,?_,?_,?_,?_,rfl,D⟩ ?_
 {
 rfl}
 {
 intro k N J;omega}
 {
 intro x;rfl}
 {
 exact d_}
 clear D w
 rintro mm M w ⟨I,Z,lC,gC,U,i,wC,rfl,h0,h1,ae,hs,ab,qo,aa,rfl,D⟩
 have q9:=fun k (N:0<=k) (J:k<I)=>D.iw 1 rfl N J
 refine fQ<|(zP)<|nG<|Zf ?_ ?_<;>intro hc
 {
 refine oC<|(zV (iy (kk:=2*i) ZP hV.row.fP))<|iI (uT (cs:= [(pv i),.int Oi (cnt i)]) Z2 (hV.row.below D.below) (ZE (k:=2*i) (i:=i) pv cnt Oa)) ?_
 have ao:=ah i h0 Oa
 have an:=ai i h0 Oa
 refine iG (oh (cs:= [_,_]) Xb D) ?_;rintro _ w ⟨g1,rfl,D⟩
 refine lJ (nD 2 Z2 D (hd:=(Za (hV.p i Oa Oa).fP.one (Za rfl Zj)))) ?_;clear D;rintro w D
 refine iT<|(zP)<|(zV wX)<|iJ (xc0 Lm) (ZoH (u:=I) (pv:=Z) (ln:=lC) (pt:=gC) (cnt:=U) (n:=(ln i)) (f:=(pt i)) w (⟨(D.f_ 0 rfl),fun k N J=>D.lI 1 rfl N J,fun k N J=>D.lV 1 rfl N J⟩:tq _ wC I Z lC gC U) (D.holds _ (List.mem_of_getElem? (i:=2) rfl)) ((hV.p i Oa Oa).below D.below)) ?_;rintro _ w ⟨W,rfl,ac,Y⟩
 replace D:=D.cmp Y;clear Y
 have ap:0<=W->1<=U W/\U W<=1000*i:=fun h=>ab W h (by rcases ac with⟨h2,_⟩|⟨_,h2,_⟩<;>omega)
 have ak:W= -1\/(0<=W/\W<I):=by rcases ac with⟨h2,_⟩|⟨h2,h3,_⟩<;>omega
 refine(zP)<|iT<|(On)<|ig<|Zf ?_ ?_<;>intro hc
 {
 refine lg [0,1,2] [1,2] 10 nP D ?_;clear D;intro w D
 refine(b_ 0 gu)<|(b_ 1 gu)<|(b_ 2 (iy (kk:=2*W) ZP aa))<|(b_ 3 (Ns (kk:=2*W+1) qN aa))<|sQ 4 (fun w D=>(iR (u:= .int Oi (U W)) dw (D.f_ 0 rfl) (e:=(Si Z U Oa)))) ?_
 refine(b_ 5 (h_ 1 qN))<|(iQ 6 (fun w D=>(g_ 1 dw D)))<|(b_ 7 (Zg (r:=(U W)+(cnt i))))<|(b_ 8 (iy (kk:=2*W) ZP aa))<|(b_ 9 (Ns (kk:=2*W+1) qN aa))<|nR 10 (rV 0 dw D (ZbO (k:=2*W+1) (i:=W) _ _ Oa)) ?_;clear D;rintro w D
 refine⟨⟨fun h=>absurd h (by decide),D.pk [1,2]⟩,?_⟩
 refine lS<|ng<|iP<|lG ?_
 refine(zV (Zg (r:=i+1)))<|(zP)<|iq<|jm ⟨I,Z,lC,gC,(upd U W ((U W)+(cnt i))),i+1,wC,rfl,Oa,Oa,Oa,?_,?_,?_,?_,rfl,D.pk [0,1]⟩
 {
 first|exact _B Oa h0 hs (ac.resolve_right (fun h=>Oa)).2|(have O:=ac.resolve_left (fun h=>Oa);exact QM h0 hs O.1 O.2.1 O.2.2.1 O.2.2.2)}
 {
 first|exact QG ab Oa Oa Oa|exact OZ ab Oa Oa Oa}
 {
 first|exact qo|exact SQ qo ‹iK _ _›.one}
 {
 exact aa}}
 refine lg [2] [2] 1000 nP D ?_;clear D;intro w D
 refine(b_ 0 gu)<|(b_ 1 (h_ 0 rJ))<|(iQ 2 (fun w D=>(g_ 0 dV D)))<|(b_ 4 (h_ 1 qN))<|(iQ 5 (fun w D=>(g_ 0 dw D)))<|pK 3 (xc0 oD) (lU (n:=(ln i)) (f:=(pt i)) w ((hV.p i Oa Oa).below D.below) Oa) ?_;rintro ad w ⟨_,rfl,qb,Y⟩
 replace D:=(D.comp Y).n4;clear Y
 refine⟨⟨fun _=>D.pk [2],D.pk [2]⟩,?_⟩
 refine ou 6 (lF (v:= .agg #[ad,.int Oi (cnt i)]) (hr:=by obtain⟨_,_,_,_,rfl,_⟩:=qb;kernel_rfl)) ?_
 refine oZ 7 (pO (n:=1) (len:=1) (pv:= [(0,.agg #[ad,.int Oi (cnt i)])]) (cs:= [ad,.int Oi (cnt i)]) (c:=Ze (fun _=>ad) (fun _=>(cnt i))) ZP Xb D (hf:=by obtain⟨_,_,_,_,rfl,_⟩:=qb;kernel_rfl)) ?_;rintro v1 w ⟨D,aj⟩
 refine⟨⟨fun _=>D.pk [2],D.pk [2]⟩,?_⟩
 refine oZ 8 (pz 0 (r:=I+1) ZP Xb D (D.f_ 4 rfl) (Xr _ _ _ _ _) (h1:=fun k _ _=>Xk (fun _=>qb.one) k)) ?_;rintro v2 w ⟨D,ag⟩
 replace D:=Sat.merge (l1:= [_]) (l2:= [_]) (l3:= [_]) D Oa
 have xV:=fun k (N:0<=k) (J:k<I+1)=>D.iw 1 rfl N J
 refine⟨⟨fun _=>D.pk [2],D.pk [2]⟩,?_⟩
 refine(b_ 9 nU)<|lS<|ng<|iP<|lG ?_
 refine(zV (Zg (r:=i+1)))<|(zP)<|iq<|jm ⟨I+1,lD Z I ad,lD lC I (ln i),lD gC I (pt i),(snoc U I (cnt i)),i+1,v2,rfl,Oa,Oa,Oa,?_,?_,?_,?_,rfl,D.pk [0,1]⟩
 {
 first|exact _B Oa h0 hs (ac.resolve_right (fun h=>Oa)).2|(have O:=ac.resolve_left (fun h=>Oa);exact QM h0 hs O.1 O.2.1 O.2.2.1 O.2.2.2)}
 {
 first|exact QG ab Oa Oa Oa|exact OZ ab Oa Oa Oa}
 {
 first|exact qo|exact SQ qo ‹iK _ _›.one}
 {
 exact ag}}
 refine oM<|(zP)<|iJ (xc0 Zoi) (ZoU (u:=I) (pv:=Z) (ln:=lC) (pt:=gC) (cnt:=U) w (⟨(D.f_ 0 rfl),fun k N J=>D.lI 1 rfl N J,fun k N J=>D.lV 1 rfl N J⟩:tq _ wC I Z lC gC U) (fun k N J=>(ab k N J).1)) ?_;rintro _ w ⟨rfl,Y⟩
 replace D:=D.cmp Y;clear Y
 refine(zP)<|iT<|(zP)<|iJ (xc0 Zog) (Zix (vd:=wC) (n:=I) (nm:=I) (s:=fun k=>k) (pv:=Z) (cnt:=U) (lt:=fun x y=>AA (lst (lC x) (gC x)) (lst (lC y) (gC y))) (F:=Frame.rows 3 I Z lC gC) w0 w (D.pk [0,1]) aa Oa qo (fun w x y x0 x1 y0 y1 _ hF=>ZoB w (hF.1 x x0 x1).row (hF.1 y y0 y1).row) (fun k N J=>⟨N,J⟩) (Zjw fun x=>lst (lC x) (gC x)) (fun i j _ h _=>h)) ?_;rintro _ w ⟨rfl,t1,av,dr,D⟩
 replace D:=D.Ey 1 av
 replace D:Sat w0 w [.own wC 2 97 I (Ze (fun k=>Z (t1 k)) (fun k=>U (t1 k))),.sem (Frame.rows 3 I (fun k=>Z (t1 k)) (fun k=>lC (t1 k)) (fun k=>gC (t1 k)))]:=D
 refine iT<|(On)<|jk<|Oj ?_
 obtain rfl:i=u:=Oa
 exact⟨_,_,_,_,_,_,rfl,.Cj ae.1 hs av dr,ae.1,ae.2,fun k N J=>(by obtain⟨q,q0,q1,q2⟩:=av.fr N J;rw [show t1 k=q from q2];exact ab q q0 q1),aa,D⟩
end Go.Proofs.YtpnamgfdakfccaaGreat
namespace Go.Proofs.Gw
variable {c i m room x:Int} {sz:Of}
def rF(p:List Int)(x:Int):List Int:=p.modify x.toNat (· +1)
def Yj(m room:Int)(sz:Of)(x:Int):Us->Us
  | []=> [(rF (lst m fun _=>0) x,room-sz x)]
  |b::r=>if sz x<=b.2 then(rF b.1 x,b.2-sz x)::r else b::Yj m room sz x r
def YZ(m room:Int)(sz:Of)(l:List Int):Us:=l.foldl (fun s x=>Yj m room sz x s) []
theorem Ry(m room:Int)(sz:Of)(l:List Int)(x:Int):YZ m room sz (l++ [x])=Yj m room sz x (YZ m room sz l):=by simp [YZ]
theorem KZ{m room:Int}{sz:Of}{x:Int}:∀{s:Us},(∀b∈s,b.2<sz x)->Yj m room sz x s=s++ [(rF (lst m fun _=>0) x,room-sz x)]
 | [],_=>rfl
 | b::r,h=>by
   have h1:=h b (by simp)
   rw [Yj,if_neg Oa,KZ fun c hc=>h c (by simp [hc])];rfl
theorem _8{m room:Int}{sz:Of}{x:Int}:∀{s:Us} {j:Nat} {b:List Int×Int},s[j]? =some b->sz x<=b.2->(∀k<j,∀c,s[k]? =some c->c.2<sz x)->Yj m room sz x s=s.set j (rF b.1 x,b.2-sz x)
 | [],_,_,h,_,_=>by simp at h
 | c::r,0,b,h,e,_=>by
   simp at h;subst h
   rw [Yj,if_pos e];rfl
 | c::r,j+1,b,h,e,hk=>by
   simp at h
   have h1:=hk 0 Oa c (by simp)
   rw [Yj,if_neg Oa,_8 h e fun k D d hd=>hk (k+1) Oa d (by simpa using hd)];rfl
theorem KN{f:Of}(D:0<=x):rF (lst m f) x=lst m (fun k=>if k=x then f k+1 else f k):=by
 apply List.ext_getElem?
 intro k
 unfold rF
 rw [List.getElem?_modify,lY,lY]
 by_cases hk:(k:Int)<m
 {
 rw [if_pos hk,if_pos hk]
 by_cases hx:x.toNat=k
 · have h:(k:Int)=x:=Oa
   simp [hx,h]
 · have h:¬(k:Int)=x:=Oa
   simp [hx,h]}
 · rw [if_neg hk,if_neg hk];rfl
theorem ZpS{n:Int}{P U:Og}{L W:Of}{k:Int}(n0:0<=n)(Y:0<=x)(N:0<=k)(J:k<n)(h:sz x<=L k)(hf:∀j,0<=j->j<k->L j<sz x)
   (O:∀a,0<=a->a<n->∀b,0<=b->b<m->U a b=if a=k/\b=x then P a b+1 else P a b) (hL:∀a,0<=a->a<n->W a=if a=k then L a-sz x else L a):nY n (fun _=>m) U W=Yj m room sz x (nY n (fun _=>m) P L):=by
 have Z:(nY n (fun _=>m) P L)[k.toNat]? =some (lst m (P k),L k):=by rw [nH,Int.toNat_of_nonneg N,if_pos J]
 rw [_8 Z h fun j D c hc=>by
   rw [nH,if_pos Oa] at hc;injection hc with hc;rw [<-hc];exact hf j Oa Oa]
 apply List.ext_getElem?
 intro j
 rw [List.getElem?_set,nH,nH,rY]
 by_cases D:(j:Int)<n
 {
 rw [if_pos D,if_pos D,hL j Oa D]
 by_cases hjk:k.toNat=j
 {
 rw [if_pos hjk,if_pos Oa,if_pos Oa]
 rw [KN Y,show(j:Int)=k by omega]
 congr 2
 apply Yn;intro b I F
 rw [O k N J b I F]
 by_cases hb:b=x
 · rw [if_pos ⟨rfl,hb⟩,if_pos hb]
 · rw [if_neg fun h=>hb h.2,if_neg hb]}
 {
 rw [if_neg hjk,if_neg Oa]
 congr 2
 apply Yn;intro b I F
 rw [O j Oa D b I F,if_neg fun h=>hjk Oa]}}
 {
 rw [if_neg D,if_neg D]
 by_cases hjk:k.toNat=j
 · omega
 · rw [if_neg hjk]}
theorem Zmz{n:Int}{P F:Og}{L I:Of}(n0:0<=n)(O:0<=x)(hf:∀j,0<=j->j<n->L j<sz x)
   (Z:∀a,0<=a->a<n->∀b,0<=b->b<m->F a b=P a b) (hN:∀b,0<=b->b<m->F n b=if b=x then 1 else 0) (hL:∀a,0<=a->a<n->I a=L a) (Y:I n=room-sz x):nY (n+1) (fun _=>m) F I=Yj m room sz x (nY n (fun _=>m) P L):=by
 rw [KZ fun b D=>by
   obtain⟨j,h⟩:=List.mem_iff_getElem?.1 D
   rw [nH] at h
   split at h
   · injection h with h;rw [<-h];exact hf j Oa (by assumption)
   · cases h]
 rw [Wp n0,Y]
 congr 1
 · exact Ku fun k N J=>⟨rfl,hL k N J,fun j W U=>Z k N J j W U⟩
 {
 rw [KN O]
 congr 2
 apply Yn;intro b b0 b1
 rw [hN b b0 b1]
 by_cases D:b=x
 · rw [if_pos D,if_pos D];rfl
 · rw [if_neg D,if_neg D]}
def Dx(d:Of):Nat->List Int
  |0=> []
  |k+1=>Dx d k++List.replicate (d k).toNat (k:Int)
def oJ(d:Of)(i c:Int):List Int:=Dx d i.toNat++List.replicate c.toNat i
theorem Zdy(d:Of)(h:0<=c):oJ d i (c+1)=oJ d i c++ [i]:=by
 unfold oJ;rw [show(c+1).toNat=c.toNat+1 by omega,List.replicate_succ',List.append_assoc]
theorem Zdz(d:Of)(h:0<=i)(hc:c.toNat=(d i).toNat):oJ d (i+1) 0=oJ d i c:=by
 unfold oJ;rw [show(i+1).toNat=i.toNat+1 by omega,Dx,Int.toNat_of_nonneg h,hc];simp
def jT(f d:Of):Nat->Int
  |0=>0
  |k+1=>jT f d k+f k*d k
theorem YW(f d:Of)(h:0<=i):jT f d (i+1).toNat=jT f d i.toNat+f i*d i:=by
 rw [show(i+1).toNat=i.toNat+1 by omega,jT,Int.toNat_of_nonneg h]
theorem MZ(f:Of)(x:Int):∀n:Nat,((List.replicate n x).map f).sum=f x*n
 |0=>by simp
 |n+1=>by rw [List.replicate_succ,List.map_cons,List.sum_cons,MZ f x n];push_cast;rw [Int.mul_add];omega
theorem QT(f d:Of):∀n:Nat,(∀k:Nat,k<n->0<=d k)->((Dx d n).map f).sum=jT f d n
 |0,_=>by simp [Dx,jT]
 | n+1,h=>by
   have D:=h n Oa
   rw [Dx,List.map_append,List.sum_append,QT f d n fun k F=>h k Oa,MZ,jT,Int.toNat_of_nonneg D]
theorem Kw(f d:Of)(F:0<=i)(D:0<=c)(h:∀k,0<=k->k<i->0<=d k):((oJ d i c).map f).sum=jT f d i.toNat+f i*c:=by
 unfold oJ;rw [List.map_append,List.sum_append,QT f d _ fun k I=>h k Oa Oa,MZ,Int.toNat_of_nonneg D]
theorem Zft(d:Of)(D:0<=i)(I:0<=c)(h:∀k,0<=k->k<i->0<=d k):((oJ d i c).length:Int)=jT (fun _=>1) d i.toNat+c:=by
 have h1:=Kw (fun _=>1) d D I h
 have F:∀l:List Int,(l.map fun _=>(1:Int)).sum=l.length:=fun l=>by
   induction l with
   |nil=>rfl
   |cons a l ih=>rw [List.map_cons,List.sum_cons,ih,List.length_cons];push_cast;omega
 rw [F] at h1;omega
theorem Vs{d:Of}{f:Of}:∀{i n:Nat},i<=n->(∀k:Nat,k<n->0<=f k*d k)->jT f d i<=jT f d n:=by
 intro i n D h
 induction D with
 |refl=>exact Int.le_refl _
 | step hh ih=>
   have h1:=ih fun k F=>h k Oa
   have I:=h _ (Nat.lt_succ_self _)
   simp only [jT];omega
def WH(sz:Of)(p:List Int):Int:=((List.range p.length).map fun(k:Nat)=>p.getD k 0*sz k).sum
theorem Wb{α:Type}{f g:α->Int}{l:List α}(h:∀x∈l,f x=g x):(l.map f).sum=(l.map g).sum:=by rw [List.map_congr_left h]
theorem Q9{f:Nat->Int}{x:Nat}{c:Int}:∀{n:Nat},x<n->((List.range n).map fun k=>if k=x then f k+c else f k).sum=((List.range n).map f).sum+c
 |0,h=>Oa
 | n+1,h=>by
   rw [List.range_succ,List.map_append,List.map_append,List.sum_append,List.sum_append]
   by_cases hx:x=n
   {
   subst hx
   rw [Wb (g:=f) fun k D=>by rw [if_neg];have:=List.mem_range.1 D;omega]
   simp;omega}
   · rw [Q9 Oa]
     simp [Ne.symm hx];omega
theorem Vq(sz:Of){p:List Int}(I:0<=x)(h:x.toNat<p.length):WH sz (rF p x)=WH sz p+sz x:=by
 unfold WH rF
 rw [List.length_modify,<-Q9 (x:=x.toNat) h]
 apply Wb
 intro k F
 have F:=List.mem_range.1 F
 rw [List.getD_eq_getElem?_getD,List.getD_eq_getElem?_getD,List.getElem?_modify]
 by_cases hx:x.toNat=k
 {
 have D:(k:Int)=x:=Oa
 rw [if_pos hx.symm,List.getElem?_eq_getElem F]
 simp [hx,Int.add_mul,D]}
 · rw [if_neg (Ne.symm hx)];simp [hx]
theorem Ko(sz:Of)(m:Int):WH sz (lst m fun _=>0)=0:=by
 unfold WH
 rw [Wb (g:=fun _=>0) fun k h=>by
   rw [Y9] at h
   have h:=List.mem_range.1 h
   rw [List.getD_eq_getElem?_getD,lY,if_pos Oa];simp]
 induction (List.range (lst m fun _=>0).length) with
 |nil=>rfl
 |cons a l ih=>rw [List.map_cons,List.sum_cons,ih];rfl
structure w_ (m room:Int) (sz:Of) (qc:List Int) (s:Us):Prop where
  ok:∀b∈s,b.1.length=m.toNat/\WH sz b.1+b.2=room/\0<=b.2
  pr:s.Pairwise fun a b=>a.2+b.2<room
  mt:(s.map fun b=>room-b.2).sum=(qc.map sz).sum
  ct:∀g:Of,(s.map fun b=>WH g b.1).sum=(qc.map g).sum
  ln:s.length<=qc.length
  nn:∀b∈s,∀v∈b.1,0<=v
theorem w_.nil(m room:Int)(sz:Of):w_ m room sz [] []:=⟨by simp,.nil,rfl,fun _=>rfl,by simp,by simp⟩
theorem _j{p:List Int}(h:∀v∈p,0<=v):∀v∈rF p x,0<=v:=by
 intro v hv
 unfold rF at hv
 obtain⟨k,D⟩:=List.mem_iff_getElem?.1 hv
 rw [List.getElem?_modify] at D
 cases F:p[k]? with
 |none=>rw [F] at D;cases D
 | some u=>
   rw [F] at D
   have I:=h u (List.mem_of_getElem? F)
   by_cases hx:x.toNat=k
   · simp [hx] at D;omega
   · simp [hx] at D;omega
theorem Vy{m room:Int}{sz:Of}{x:Int}:∀{s:Us},∀b∈Yj m room sz x s,b∈s\/(∃c∈s,sz x<=c.2/\b=(rF c.1 x,c.2-sz x))\/(b=(rF (lst m fun _=>0) x,room-sz x)/\∀c∈s,c.2<sz x)
 | [],b,h=>by simp [Yj] at h;exact .inr (.inr ⟨h,by simp⟩)
 | c::r,b,h=>by
   rw [Yj] at h
   split at h
   {
   rename_i hc
   rcases List.mem_cons.1 h with h|h
   · exact .inr (.inl ⟨c,by simp,hc,h⟩)
   · exact .inl (by simp [h])}
   {
   rename_i hc
   rcases List.mem_cons.1 h with h|h
   · exact .inl (by simp [h])
   {
   rcases Vy b h with h|⟨d,hd,e⟩|⟨e,hd⟩
   · exact .inl (by simp [h])
   · exact .inr (.inl ⟨d,by simp [hd],e⟩)
   · exact .inr (.inr ⟨e,fun d D=>by
       rcases List.mem_cons.1 D with h|h
       · rw [h];omega
       · exact hd d h⟩)}}
theorem KY{m room:Int}{sz:Of}{x:Int}(F:List Int×Int->Int)(y:Int)(h1:∀c:List Int×Int,sz x<=c.2->F (rF c.1 x,c.2-sz x)=F c+y)(h:F (rF (lst m fun _=>0) x,room-sz x)=y):∀{s:Us},((Yj m room sz x s).map F).sum=(s.map F).sum+y
 | []=>by simp [Yj,h]
 | c::r=>by
   rw [Yj]
   split
   · rename_i hc
     simp only [List.map_cons,List.sum_cons,h1 c hc];omega
   · simp only [List.map_cons,List.sum_cons,KY F y h1 h (s:=r)];omega
theorem _9{m room:Int}{sz:Of}{x:Int}(F:0<=sz x):∀{s:Us},s.Pairwise (fun a b=>a.2+b.2<room)->(Yj m room sz x s).Pairwise fun a b=>a.2+b.2<room
 | [],_=>by simp [Yj]
 | c::r,h=>by
   have h1:=List.pairwise_cons.1 h
   rw [Yj]
   split
   {
   refine List.pairwise_cons.2 ⟨fun b D=> ?_,h1.2⟩
   have:=h1.1 b D
   dsimp only;omega}
   {
   refine List.pairwise_cons.2 ⟨fun b D=> ?_,_9 F h1.2⟩
   rcases Vy b D with h|⟨d,hd,_,e⟩|⟨e,hd⟩
   · exact h1.1 b h
   · rw [e];have:=h1.1 d hd;dsimp only;omega
   · rw [e];dsimp only;omega}
theorem K0{m room:Int}{sz:Of}{x:Int}:∀{s:Us},(Yj m room sz x s).length<=s.length+1
 | []=>by simp [Yj]
 | c::r=>by
   rw [Yj]
   split
   · simp
   · simp only [List.length_cons];have:=K0 (m:=m) (room:=room) (sz:=sz) (x:=x) (s:=r);omega
theorem ZhA{J:List Int}{s:Us}(h:w_ m room sz J s)(F:0<=x)(U:x<m)(O:0<=sz x)(hr:sz x<=room):w_ m room sz (J++ [x]) (Yj m room sz x s):=by
 have N:x.toNat<(lst m fun _=>(0:Int)).length:=by rw [Y9];omega
 refine⟨fun b D=> ?_,_9 O h.pr,?_,fun g=> ?_,?_,fun b D=> ?_⟩
 {
 rcases Vy b D with D|⟨c,hc,I,e⟩|⟨e,_⟩
 · exact h.ok b D
 {
 obtain⟨h1,Y,W⟩:=h.ok c hc
 rw [e]
 refine⟨by simp [rF,h1],?_,by dsimp only;omega⟩
 rw [Vq sz F Oa];dsimp only;omega}
 {
 rw [e]
 refine⟨by simp [rF,Y9],?_,by dsimp only;omega⟩
 rw [Vq sz F N,Ko];dsimp only;omega}}
 · rw [KY (fun b=>room-b.2) (sz x) (fun c hc=>by dsimp only;omega) (by dsimp only;omega),h.mt];simp
 {
 have key:∀{s:Us},(∀b∈s,b.1.length=m.toNat)->((Yj m room sz x s).map fun b=>WH g b.1).sum=(s.map fun b=>WH g b.1).sum+g x:=by
   intro s I
   induction s with
   |nil=>simp [Yj,Vq g F N,Ko]
   | cons c r ih=>
     rw [Yj]
     split
     · simp only [List.map_cons,List.sum_cons]
       rw [Vq g F (by rw [I c (by simp)];omega)];omega
     · simp only [List.map_cons,List.sum_cons,ih fun b D=>I b (by simp [D])];omega
 rw [key fun b D=>(h.ok b D).1,h.ct];simp}
 · have:=K0 (m:=m) (room:=room) (sz:=sz) (x:=x) (s:=s);have:=h.ln;simp;omega
 {
 rcases Vy b D with D|⟨c,hc,I,e⟩|⟨e,_⟩
 · exact h.nn b D
 · rw [e];exact _j (h.nn c hc)
 · rw [e];exact _j fun v hv=>by
     unfold lst at hv;simp at hv;omega}
theorem Zhz:∀{l:List Int},(∀x∈l,0<=x/\x<m/\0<=sz x/\sz x<=room)->w_ m room sz l (YZ m room sz l):=by
 intro l
 have key:∀(l h:List Int) (s:Us),w_ m room sz h s->(∀x∈l,0<=x/\x<m/\0<=sz x/\sz x<=room)->w_ m room sz (h++l) (l.foldl (fun s x=>Yj m room sz x s) s):=by
   intro l
   induction l with
   |nil=>intro h s F _;simpa using F
   | cons x l ih=>
     intro h s F D
     obtain⟨h1,O,N,J⟩:=D x (by simp)
     have:=ih (h++ [x]) _ (ZhA F h1 O N J) fun y I=>D y (by simp [I])
     simpa using this
 intro D
 have:=key l [] [] (.nil _ _ _) D
 simpa [YZ] using this
theorem QS{d:Of}:∀{n:Nat},∀x∈Dx d n,0<=x/\x<n
 |0,x,h=>by simp [Dx] at h
 | n+1,x,h=>by
   rw [Dx] at h
   rcases List.mem_append.1 h with h|h
   · have:=QS x h;omega
   · have:=(List.mem_replicate.1 h).2;omega
def RZ(s:Us):Us:=s.map fun b=>(b.1,1)
theorem UG(f:List Int->Int):∀s:Us,ni f (RZ s)=(s.map fun b=>f b.1).sum
 | []=>rfl
 | b::r=>by
   have:=UG f r
   unfold RZ at this⊢
   simp only [List.map_cons,ni,List.sum_cons,this];omega
end Go.Proofs.Gw
namespace Go.Proofs.YtpnamgfdakfccaaGreat
open Go Go.RowKit Go.Proofs.Gw
variable {vD:Value}
theorem Zoc:Zc Om 145=true:=Oc
theorem ZkN{vL:Value}{p:cO}(w0:World)(h:oO w0 vL vD p)(F:p.Ok):
   Calls Om 145 [.agg #[vL,vD,.int Oi p.bP,.int Oi p.aV]].toArray w0 fun e w=>∃v,e= .returned v/\v= .int Oi (jT (fun _=>1) p.D p.m.toNat)/\Sat w0 w []:=by
 obtain⟨hm,W,hd,hd1,hs,hk⟩:=h.Oq
 have U:=F.d;have qM:=F.m2
 refine iE Tryz.func145 Tryz.ntmps145 fun w D=> ?_
 refine fQ<|iG (nS (cs:= [_,_,_,_]) D) ?_;rintro _ w ⟨g1,rfl,D⟩
 refine(zP)<|iT<|(zP)<|l9<|(zV (h_ 1 jF))<|(zV (g_ 0 dV D))<|(zV (iW Zb h.D.fP))<|(zP)<|nI<|ny (fun J M w=>∃(s:Int) (i:Int),J=((p.d-i).toNat)/\(0<=i)/\(i<=p.d)/\(s=jT (fun _=>1) p.D i.toNat)/\(0<=s/\s<=1000000*i)/\M= [(2,.int Oi 0),(3,.int Oi s),(7,vD),(8,.int Oi p.d),(9,.int Oi i)]/\Sat w0 w [.blk g1 [vL,vD,.int Oi p.bP,.int Oi p.aV]]) ⟨0,0,rfl,Oa,Oa,?_,Oa,rfl,D⟩ ?_
 {
 rfl}
 clear D w
 rintro J M w ⟨s,i,rfl,N,h1,I,O,rfl,D⟩
 refine fQ<|(zP)<|nG<|Zf ?_ ?_<;>intro hc
 {
 refine oC<|(zV (iy (kk:=i) Zb h.D.fP))<|iI (iR (u:= .int Oi (p.D i)) dw (h.D.below D.below)) ?_
 have Z:=h.iD i
 have Y:=F.all i N Oa;unfold cO.each at Y
 refine(zP)<|ig<|lG<|(On)<|(zV (Zg (r:=s+p.D i)))<|(zP)<|nT<|(zV (Zg (r:=i+1)))<|(zP)<|iq<|jm ⟨s+p.D i,i+1,rfl,Oa,Oa,?_,Oa,rfl,D⟩
 {
 rw [YW _ _ N,<-I];omega}}
 refine oM<|(On)<|jk<|Oj ?_
 obtain rfl:p.m=i:=Oa
 rw [<-I]
 exact⟨rfl,D.nl⟩
def Gz(p:cO)(e:Int):Prop:=(¬p.Ok/\e=1)\/(p.Ok/\1000<jT (fun _=>1) p.D p.m.toNat/\e=9)\/(p.Ok/\jT (fun _=>1) p.D p.m.toNat<=1000/\e=0)
theorem W_{vL:Value}{p:cO}(w0:World)(h:oO w0 vL vD p):
   Calls Om 75 [.agg #[vL,vD,.int Oi p.bP,.int Oi p.aV]].toArray w0 fun e w=>∃v,e= .returned v/\∃e:Int,v= .int Oi e/\Gz p e/\Sat w0 w []:=by
 obtain⟨O,J,hd,hd1,N,U⟩:=h.Oq
 refine iE Tryz.func75 Tryz.ntmps75 fun w D=> ?_
 refine fQ<|iG (nS (cs:= [_,_,_,_]) D) ?_;rintro _ w ⟨W,rfl,D⟩
 refine(zP)<|ig<|lW<|o7<|fQ<|(zV (lH 0 iM D))<|iJ (xc0 XU) (Yd (p:=p) w (h.below D.below)) ?_;rintro _ w ⟨rfl,F⟩
 replace D:=D.cmp F;clear F
 refine(On)<|ig<|Zf ?_ ?_<;>intro hc
 {
 refine fQ<|(zP)<|XI<|Oj ?_
 exact⟨1,rfl,.inl ⟨‹¬p.Ok›,rfl⟩,D.nl⟩}
 refine fQ<|iI (lH 0 iM D) ?_
 have I:p.Ok:=by first|assumption|exact Od ‹_›
 refine iJ (xc0 Zoc) (ZkN (p:=p) w (h.below D.below) I) ?_;rintro _ w ⟨rfl,F⟩
 replace D:=D.cmp F;clear F
 refine(On)<|ig<|Zf ?_ ?_<;>intro hc
 {
 refine fQ<|(zP)<|XI<|Oj ?_
 exact⟨9,rfl,.inr (.inl ⟨I,Oa,rfl⟩),D.nl⟩}
 refine nX<|ng<|iP<|fQ<|(zP)<|jk<|Oj ?_
 exact⟨0,rfl,.inr (.inr ⟨I,Oa,rfl⟩),D.nl⟩
theorem ZiH{vL:Value}{p:cO}(w0:World)(h:oO w0 vL vD p):
   Calls Om 146 [.agg #[vL,vD,.int Oi p.bP,.int Oi p.aV]].toArray w0 fun e w=>∃v,e= .returned v/\∃g,v= .func (.func 223) #[] #[Or g]/\Sat w0 w [.blk g [vL,vD,.int Oi p.bP,.int Oi p.aV]]:=by
 refine iE Tryz.func146 Tryz.ntmps146 fun w D=> ?_
 refine fQ<|iG (nS (cs:= [_,_,_,_]) D) ?_;rintro _ w ⟨F,rfl,D⟩
 refine(zP)<|iT<|(zV wX)<|(zP)<|jk<|Oj ?_
 exact⟨_,rfl,D⟩
theorem Zf8{vL:Value}{p:cO}{gp:Nat}{St:Type}(I:St->List Int)(Inv:St->Prop)(Y:St)(aa:I Y= [])(ab:Inv Y)(w0:World)(h:oO w0 vL vD p)(J:p.Ok):Hg (St:=St) (X:=Int) (Tt:=Unit) Om w0 223 [Or gp] [.blk gp [vL,vD,.int Oi p.bP,.int Oi p.aV]] (fun x=> [.int Oi x]) (fun s x rest=>Inv s/\∃c,0<=x/\x<p.m/\0<=c/\c<p.D x/\I s=oJ p.D x c) (fun s x s1=>I s1=I s++ [x]/\Inv s1) (fun _ _ _=>False) (Y) (fun s rest=>Inv s/\I s=oJ p.D p.m 0) (fun _ _=>False):=by
 intro l C D w F hY
 obtain⟨hm,ae,hd,hd1,hs,hk⟩:=h.Oq
 have ad:=J.d;have qM:=J.m2
 refine FI Tryz.func223 Tryz.ntmps223 ?_
 refine jw<|hrz ?_
 refine iI (h_ 1 jF) ?_
 refine iI (g_ 1 dV F) ?_
 refine iI (iW Zb h.D.fP) ?_
 refine iI gu ?_
 refine iq<|zh<|htn<|hbk<|hlp (fun U M w=>∃(s:St) (i:Int),U=((p.d-i).toNat)/\(0<=i)/\(i<=p.d)/\(Inv s)/\(I s=oJ p.D i 0)/\M= [(0,.func (.yield l) #[] #[]),(6,vD),(7,.int Oi p.d),(8,.int Oi i)]/\Sat w0 w [.sem (C s),.blk gp [vL,vD,.int Oi p.bP,.int Oi p.aV]]) ⟨Y,0,rfl,Oa,Oa,?_,?_,rfl,F⟩ ?_
 {
 exact ab}
 {
 exact aa}
 clear F w
 rintro U M w ⟨s,i,rfl,h0,h1,hI,hh,rfl,F⟩
 refine jw<|hrz ?_
 refine iI Z6 ?_
 refine iq<|zh<|htn<|jw ?_
 refine Yv ?_ ?_<;>intro hc
 {
 refine hsk<|htn<|jw<|hbk<|jw<|hrz ?_
 refine iI gu ?_
 refine iI (iy (kk:=i) Zb h.D.fP) ?_
 refine iI (iR (u:= .int Oi (p.D i)) dw (h.D.below F.below)) ?_
 have af:=h.iD i
 have he:=J.all i h0 Oa;unfold cO.each at he
 refine zs2 ?_
 refine iq<|zh<|htn<|jw<|hrz ?_
 refine zs2 ?_
 refine iq<|zh<|htn<|hbk<|hlp (fun U M w=>∃(O:St) (c:Int),U=((p.D i-c).toNat)/\(0<=c)/\(c<=p.D i)/\(Inv O)/\(I O=oJ p.D i c)/\M= [(0,.func (.yield l) #[] #[]),(3,.int Oi i),(6,vD),(7,.int Oi p.d),(8,.int Oi i),(13,.int Oi (p.D i)),(14,.int Oi c)]/\Sat w0 w [.sem (C O),.blk gp [vL,vD,.int Oi p.bP,.int Oi p.aV]]) ⟨s,0,rfl,Oa,Oa,?_,?_,rfl,F⟩ ?_
 {
 exact hI}
 {
 exact hh}
 clear F w
 rintro U M w ⟨O,c,rfl,c0,c1,W,N,rfl,F⟩
 refine jw<|hrz ?_
 refine iI Z6 ?_
 refine iq<|zh<|htn<|jw ?_
 refine Yv ?_ ?_<;>intro hc
 {
 refine hsk<|htn<|jw<|hbk<|jw<|hrg ?_
 iterate 2 refine hlv gu ?_
 refine EG (hY O i _ w ⟨W,c,h0,Oa,c0,Oa,N⟩ (Sat.bundle (l1:= [_,_]) (l2:= []) F)) ?_;rintro _ w (⟨rfl,Z,qs,F⟩|⟨rfl,ac,xe,F⟩)
 {
 replace F:=Sat.unbundle (l1:= [_,_]) (l3:= []) F
 replace F:=F.n2
 refine hlv tH ?_
 refine hln<|htn<|hcf<|hsk<|ng<|htn<|hrz ?_
 refine iI (Zg (r:=c+1)) ?_
 refine iI gu ?_
 refine iq<|zh<|hlq ⟨Z,c+1,rfl,Oa,Oa,?_,?_,rfl,F⟩
 {
 exact qs.2}
 {
 rw [qs.1,N,<-Zdy _ c0]}}
 {
 replace F:=Sat.unbundle (l1:= [_,_]) (l3:= []) F
 replace F:=F.n2
 refine hlv tJ ?_
 refine hln<|htn<|hct<|hrt<|og<|m_<|m_<|og<|og<|m_<|m_<|og<|Ae ⟨_,rfl,?_⟩
 exact xe.elim}}
 refine hxt<|n_<|n_<|rH<|ng<|htn<|hrz ?_
 refine iI (Zg (r:=i+1)) ?_
 refine iI gu ?_
 refine iq<|zh<|hlq ⟨O,i+1,rfl,Oa,Oa,?_,?_,rfl,F⟩
 {
 exact W}
 {
 rw [Zdz _ h0 (c:=c) Oa];exact N}}
 refine hxt<|n_<|n_<|rH<|XK ⟨_,rfl,?_⟩
 exact .inl ⟨s,_,⟨hI,by rw [hh,show i=p.m by omega]⟩,Sat.bundle (l1:= [_,_]) (l2:= []) F⟩
end Go.Proofs.YtpnamgfdakfccaaGreat
namespace Go.Proofs.YtpnamgfdakfccaaGreat
open Go Go.RowKit Go.Proofs.Gw
variable {m x:Int} {sz:Of}
theorem Rk{d:Of}{i c:Int}(hd:∀k,0<=k->k<m->0<=d k)(I:0<=i)(F:i<=m)(Y:0<=c)(c1:i<m->c<=d i)(N:i=m->c=0):(∀x∈oJ d i c,0<=x/\x<m)/\((oJ d i c).length:Int)<=jT (fun _=>1) d m.toNat:=by
 constructor
 {
 intro x J
 unfold oJ at J
 rcases List.mem_append.1 J with h|h
 · have:=QS x h;omega
 {
 have h1:=List.mem_replicate.1 h
 have h2:=h1.2
 rcases Int.lt_or_eq_of_le F with D|D
 · omega
 · have:=N D;have:=h1.1;omega}}
 {
 rw [Zft d I Y fun k O Z=>hd k O Oa]
 rcases Int.lt_or_eq_of_le F with D|D
 {
 have h4:=c1 D
 have W:=YW (fun _=>1) d I
 have U:=Vs (d:=d) (f:=fun _=>1) (i:=(i+1).toNat) (n:=m.toNat) Oa fun k hk=>by have:=hd k Oa Oa;omega
 rw [W] at U;omega}
 · have:=N D;rw [D];omega}
theorem MS{p:List Int}(N:∀v∈p,0<=v)(J:∀k:Nat,k<p.length->1<=sz k){j:Nat}(I:j<p.length):p.getD j 0<=WH sz p:=by
 have key:∀(l:List Nat) (f:Nat->Int),(∀k∈l,0<=f k)->∀j∈l,f j<=(l.map f).sum:=by
   intro l f
   induction l with
   |nil=>intro _ j h;simp at h
   | cons a l ih=>
     intro F j h
     have h1:0<=(l.map f).sum:=by
       clear ih h
       induction l with
       |nil=>simp
       |cons b l ih2=>rw [List.map_cons,List.sum_cons];have:=F b (by simp);have:=ih2 (fun k D=>F k (by rcases List.mem_cons.1 D with h|h<;>simp [h]));omega
     rw [List.map_cons,List.sum_cons]
     rcases List.mem_cons.1 h with e|e
     · rw [e];omega
     · have:=ih (fun k D=>F k (by simp [D])) j e;have:=F a (by simp);omega
 have nn:∀k:Nat,k<p.length->0<=p.getD k 0:=fun k D=>by
   rw [List.getD_eq_getElem?_getD,List.getElem?_eq_getElem D]
   exact N _ (List.getElem_mem D)
 have h1:=key (List.range p.length) (fun k=>p.getD k 0*sz k) (fun k D=>by
   have D:=List.mem_range.1 D
   exact Int.mul_nonneg (nn k D) (by have:=J k D;omega)) j (List.mem_range.2 I)
 have U:=nn j I
 have O:=J j I
 have W:=Int.mul_le_mul_of_nonneg_left O U
 exact Int.le_trans (show p.getD j 0<=p.getD j 0*sz j by omega) h1
structure Em where
  h:List Int
  vB:Value
  n:Int
  vv:Ov
  P:Og
  vL:Value
  L:Of
abbrev uG(p:cO):Of:=fun k=>p.L k+p.aV
def BU(p:cO)(s:Em):Prop:=nY s.n (fun _=>p.m) s.P s.L=YZ p.m (p.bP+p.aV) (uG p) s.h/\iK s.vB s.n/\iK s.vL s.n
def Em.wu:Em:=⟨[],Oh,0,fun _=> Oh,fun _ _=>0,Oh,fun _=>0⟩
theorem BU.wu(p:cO):BU p Em.wu:=⟨rfl,d_,d_⟩
theorem Le{p:cO}(h:p.Ok)(F:0<=x)(D:x<p.m):1<=uG p x/\uG p x<=p.bP+p.aV:=by
 have I:=h.all x F D
 unfold cO.each at I
 have:=h.k1
 unfold uG;omega
theorem SK{p:cO}(h:p.Ok){l:List Int}(F:∀x∈l,0<=x/\x<p.m):w_ p.m (p.bP+p.aV) (uG p) l (YZ p.m (p.bP+p.aV) (uG p) l):=
 Zhz fun x D=>by
   have h1:=F x D
   have I:=Le h h1.1 h1.2
   exact⟨h1.1,h1.2,Oa,I.2⟩
theorem BU.rng{p:cO}{s:Em}(D:p.Ok)(h:BU p s)(hm:∀x∈s.h,0<=x/\x<p.m)(hl:(s.h.length:Int)<=1000):s.n<=1000/\∀k,0<=k->k<s.n->(0<=s.L k/\s.L k<=p.bP+p.aV)/\∀j,0<=j->j<p.m->0<=s.P k j/\s.P k j<=p.bP+p.aV:=by
 have N:=SK D hm
 rw [<-h.1] at N
 have h1:=N.ln
 rw [rY] at h1
 refine⟨by omega,fun k k0 k1=> ?_⟩
 have W:(lst p.m (s.P k),s.L k)∈nY s.n (fun _=>p.m) s.P s.L:=List.mem_iff_getElem?.2 ⟨k.toNat,by rw [nH,Int.toNat_of_nonneg k0,if_pos k1]⟩
 obtain⟨h2,h3,Z⟩:=N.ok _ W
 have F:=N.nn _ W
 dsimp only at h2 h3 Z F
 have U:∀j,0<=j->j<p.m->(lst p.m (s.P k)).getD j.toNat 0=s.P k j:=fun j J I=>by rw [List.getD_eq_getElem?_getD,lY,Int.toNat_of_nonneg J,if_pos I];rfl
 have Y:∀j:Nat,j<(lst p.m (s.P k)).length->1<=uG p j:=fun j hj=>by
   rw [Y9] at hj
   exact(Le D Oa Oa).1
 have h9:0<=WH (uG p) (lst p.m (s.P k)):=by
   have aa:=D.m1
   have ac:=MS F Y (j:=0) (by rw [Y9];omega)
   have O:=U 0 Oa Oa
   have ab:=F (s.P k 0) (by
     have:=lY p.m (s.P k) 0
     rw [if_pos Oa] at this
     exact List.mem_of_getElem? this)
   rw [show(0:Int).toNat=0 from rfl] at O
   omega
 refine⟨⟨Z,Oa⟩,fun j J I=> ?_⟩
 have h6:=MS F Y (j:=j.toNat) (by rw [Y9];omega)
 rw [U j J I] at h6
 have h7:=F (s.P k j) (by
   have:=lY p.m (s.P k) j.toNat
   rw [Int.toNat_of_nonneg J,if_pos I] at this
   exact List.mem_of_getElem? this)
 exact⟨h7,Oa⟩
theorem PX{n room r y:Int}{L:Of}{P:Og}(n0:0<=n)(D:0<=x)(I:0<=r)(F:r<n)(h:sz x<=L r)(hf:∀j,0<=j->j<r->¬(sz x<=L j))(O:y=L r-sz x):
   nY n (fun _=>m) (upd P r (upd (P r) x (P r x+1))) (upd L r y)=Yj m room sz x (nY n (fun _=>m) P L):=
 ZpS n0 D I F h (fun j N J=>by have:=hf j N J;omega) (fun a W U b Z Y=>by
   unfold upd
   by_cases ha:a=r
   {
   subst ha
   by_cases hb:b=x
   · subst hb;simp
   · simp [hb]}
   · simp [ha]) (fun a W U=>by
   unfold upd
   by_cases ha:a=r
   · subst ha;simp [O]
   · simp [ha])
theorem SL{n room y:Int}{L:Of}{P:Og}(n0:0<=n)(F:0<=x)(hf:∀j,0<=j->j<n->¬(sz x<=L j))(D:y=snoc L n room n-sz x):
   nY (n+1) (fun _=>m) (upd (lD P n (fun _=>0)) n (upd (lD P n (fun _=>0) n) x (lD P n (fun _=>0) n x+1))) (upd (snoc L n room) n y)=Yj m room sz x (nY n (fun _=>m) P L):=by
 have O:lD P n (fun _=>0) n=fun _=>0:=Zo Oa
 have N:snoc L n room n=room:=Zu Oa
 rw [N] at D
 rw [O]
 refine Zmz n0 F (fun j J I=>by have:=hf j J I;omega) (fun a Y h b W U=> ?_) (fun b W U=> ?_) (fun a Y h=> ?_) ?_
 · unfold upd;rw [if_neg Oa,Zl h]
 {
 unfold upd;rw [if_pos rfl]
 by_cases hb:b=x
 · simp [hb]
 · simp [hb]}
 · unfold upd;rw [if_neg Oa,Zt h]
 · unfold upd;rw [if_pos rfl];exact D
theorem Zg1(n:Int)(ln:Of)(pt:Og)(cnt:Of):RZ (nY n ln pt cnt)=nY n ln pt (fun _=>1):=by
 unfold RZ nY
 rw [List.map_map];rfl
theorem KO{α:Type}(a:α)(n:Int):lD (fun _=>a) n a=fun _=>a:=by
 funext k;unfold lD;split<;>rfl
end Go.Proofs.YtpnamgfdakfccaaGreat
namespace Go.Proofs.YtpnamgfdakfccaaGreat
open Go Go.RowKit Go.Proofs.Gw
theorem Zoa:Zc Om 148=true:=Oc
theorem ZqI{x m:Int}{F:Addr}(w0:World)(h:w0.cell? F=some (.int Oi m)):
   Calls Om 148 [.int Oi x,.pointer (some F)].toArray w0 fun e w=>∃v,e= .returned v/\v=B (m<=x)/\Sat w0 w []:=by
 refine iE Tryz.func148 Tryz.ntmps148 fun w D=> ?_
 refine fQ<|(zP)<|iT<|(zP)<|(zV (wR dw h D))<|(On)<|jk<|Oj ?_
 exact⟨Zm Oa,D⟩
theorem ZoM{v:Value}{n m:Int}{f:Of}{W:Addr}(w0:World)(F:Row w0 v 1 n (ints f))(J:w0.cell? W=some (.int Oi m)):
   Calls Om 147 [v,.func (.func 148) #[] #[.pointer (some W)]].toArray w0 fun e w=>∃v,e= .returned v/\∃r:Int,v= .int Oi r/\((r= -1/\∀k,0<=k->k<n->¬(m<=f k))\/(0<=r/\r<n/\(m<=f r)/\∀k,0<=k->k<r->¬(m<=f k)))/\Sat w0 w []:=by
 have hn:=F.fP.n0;have Z:=F.fP.n1
 refine iE Tryz.func147 Tryz.ntmps147 fun w h=> ?_
 refine fQ<|(zP)<|l9<|(zP)<|(zV (iW Zb F.fP))<|(zP)<|nI<|ny (fun Y M w=>∃(i:Int),Y=((n-i).toNat)/\(0<=i)/\(i<=n)/\(∀k,0<=k->k<i->¬(m<=f k))/\M= [(0,v),(1,.func (.func 148) #[] #[.pointer (some W)]),(7,.int Oi n),(8,.int Oi i)]/\Sat w0 w []) ⟨0,rfl,Oa,Oa,?_,rfl,h⟩ ?_
 {
 intro k U h1;omega}
 clear h w
 rintro Y M w ⟨i,rfl,U,h1,I,rfl,h⟩
 refine fQ<|(zP)<|nG<|Zf ?_ ?_<;>intro hc
 {
 refine oC<|(On)<|iT<|(Oo)<|(zV (iy (kk:=i) Zb F.fP))<|(zV (iR (u:= .int Oi (f i)) dw (F.below h.below)))<|iJ (uU (vs:= [_]) Zoa) (ZqI (x:=(f i)) (m:=m) w (h.ref J)) ?_;rintro _ w ⟨rfl,D⟩
 replace h:=h.cmp D;clear D
 refine ig<|Zf ?_ ?_<;>intro hc
 {
 refine fQ<|(On)<|sG<|Oj ?_
 exact⟨i,rfl,.inr ⟨by omega,Oa,‹m<=f i›,I⟩,h⟩}
 refine rU<|(zV (Zg (r:=i+1)))<|(zP)<|iq<|jm ⟨i+1,rfl,Oa,Oa,?_,rfl,h⟩
 {
 intro k O aa;rcases Int.lt_or_eq_of_le (show k<=i by omega) with N|N;exact I k O N;rw [N];assumption}}
 refine oM<|(zP)<|jk<|Oj ?_
 exact⟨-1,rfl,.inl ⟨rfl,fun k U h1=>I k U Oa⟩,h⟩
theorem Zob:Zc Om 146=true:=Oc
theorem ZnM:Zc Om 223=true:=Oc
theorem Iz:Zc Om 68=true:=Oc
theorem J6:ZN Om 52=some (Oh,1,24):=Oc
theorem RM{vL vD:Value}{p:cO}(w0:World)(h:oO w0 vL vD p)(F:p.Ok)(aW:jT (fun _=>1) p.D p.m.toNat<=1000):
   Calls Om 76 [.agg #[vL,vD,.int Oi p.bP,.int Oi p.aV]].toArray w0 fun e w=>∃v,e= .returned v/\∃r n2 af tV tN qm,v=r/\pX (RZ (YZ p.m (p.bP+p.aV) (uG p) (oJ p.D p.m 0))) (nY n2 tV tN qm)/\0<=n2/\n2<=1000/\(∀k,0<=k->k<n2->1<=qm k/\qm k<=1000000)/\iK r n2/\Sat w0 w [.own r 2 97 n2 (Ze af qm),.sem (Frame.rows 3 n2 af tV tN)]:=by
 obtain⟨hm,ay,hd,hd1,hs,hk⟩:=h.Oq
 have aw:=F.d;have qM:=F.m2;have bg:=F.m1;have av:=F.s1;have au:=F.s2;have a1:=F.k1;have a0:=F.k2
 refine GK Tryz.func76 Tryz.ntmps76 fun w D=> ?_
 refine jw<|hrz ?_
 refine iG (nS (cs:= [_,_,_,_]) D) ?_;rintro _ w ⟨g1,rfl,D⟩
 refine(zP)<|iq<|zh<|htn<|jw<|hrz ?_
 refine iG (oh (cs:= [_]) J6 D) ?_;rintro _ w ⟨g2,rfl,D⟩
 refine iq<|zh<|htn<|jw<|hrz ?_
 refine iG (oh (cs:= [_]) ZQ D) ?_;rintro _ w ⟨g3,rfl,D⟩
 refine iq<|zh<|htn<|jw<|jw<|hrz ?_
 refine(zV (lH 0 iM D))<|iJ (xc0 Zob) (ZiH (p:=p) w (h.below D.below)) ?_;rintro _ w ⟨g4,rfl,Y⟩
 replace D:=(D.comp Y).n4;clear Y
 refine iq<|zh<|htn<|hbk ?_
 replace D:=D.fU 1 22 (fun _=>Oh)
 replace D:=D.iF 3 (fun _=>Oh) (fun _=>p.m) (fun _ _=>0)
 replace D:=D.fU 1 3 (ints (fun _=>0))
 refine hrf (St:=Em) (X:=Int) (Tt:=Unit) (fun s=> [.blk g1 [vL,vD,.int Oi p.bP,.int Oi p.aV],.blk g2 [s.vB],.blk g3 [s.vL],.own s.vB 1 22 s.n s.vv,.sem (Frame.rows 3 s.n s.vv (fun _=>p.m) s.P),.own s.vL 1 3 s.n (ints s.L)]) (fun t=> []) (fun _=> .ret) Em.wu (fun x M es=>M= [(0,.agg #[vL,vD,.int Oi p.bP,.int Oi p.aV]),(1,Or g1),(2,Oh),(3,Or g2),(4,Or g3),(11,.agg #[vL,vD,.int Oi p.bP,.int Oi p.aV]),(12,.func (.func 223) #[] #[Or g4]),(13,.int Oi x),(5,.int Oi x)]/\es= []) (Zf8 (gp:=g4) (fun s=>s.h) (BU p) Em.wu rfl (BU.wu p) w0 h F) (D.pk [0,1,2,4,5,6,3]) ZnM (fun _=>rfl) (fun _=> .inl rfl) ?_ ?_ ?_ ?_
 {
 intro lq s x rest w qe qG ai D
 refine hrz ?_
 refine(zP)<|iq<|zh<|FH ⟨rfl,rfl⟩ D}
 {
 rintro lq s x _ _ rest w qe ⟨rfl,rfl⟩ qG ai D
 obtain⟨O,c,x0,x1,c0,c1,hh⟩:=qe
 have W:=O.2.1;have ad:=O.2.2
 obtain⟨xY,xd⟩:=Rk (d:=p.D) (i:=x) (c:=c) (fun k I N=>by have he:=F.all k I N;unfold cO.each at he;omega) x0 Oa c0 (fun _=>Oa) (fun _=>Oa)
 rw [<-hh] at xY xd
 obtain⟨am,hrg⟩:=O.rng F xY Oa
 have hex:=F.all x x0 x1;unfold cO.each at hex
 have aa:=W.n0
 have Z:=fun k (I:0<=k) (N:k<s.n)=>D.iw 4 rfl I N
 refine hbk<|jw ?_
 refine hdst [0,1,2,3,4,5,6,7] [0,1,2,3,4,5,6,7] 9 nP D ?_;clear D;intro w D
 refine(b_ 0 (h_ 0 lu))<|(iQ 1 (fun w D=>(g_ 0 dV D)))<|(b_ 2 gu)<|(b_ 3 (iy (kk:=x) Zb h.L.fP))<|oH 4 (fun w D=>(iR (u:= .int Oi (p.L x)) dw (h.L.below D.below))) ?_
 have a3:=h.iL x
 refine(b_ 5 (h_ 3 nZ))<|(iQ 6 (fun w D=>(g_ 0 dw D)))<|(b_ 7 (Zg (r:=p.L x+p.aV)))<|oZ 8 (oh (cs:= [_]) Zq D) ?_;rintro _ w ⟨g5,rfl,D⟩
 refine⟨⟨fun _=>D.pk [0,1,2,3,4,5,6,7],D.pk [0,1,2,3,4,5,6,7]⟩,?_⟩
 refine nR 9 (xsb 8 dw D) ?_;clear D;rintro w D
 refine⟨⟨fun h=>absurd h (by decide),D.pk [0,1,2,3,4,5,6,7]⟩,?_⟩
 refine lS<|zh<|htn<|jw<|hrz ?_
 refine(zV (g_ 2 dV D))<|(zV wX)<|iJ (xc0 WP) (ZoM (n:=s.n) (m:=(p.L x+p.aV)) (f:=s.L) w (D.f_ 5 rfl) (D.lM 8 rfl rfl)) ?_;rintro _ w ⟨J,rfl,ab,Y⟩
 replace D:=D.cmp Y;clear Y
 have ai:J= -1\/(0<=J/\J<s.n):=by rcases ab with⟨h2,_⟩|⟨h2,h3,_⟩<;>omega
 have a4:0<=J->(0<=s.L J/\s.L J<=p.bP+p.aV)/\0<=s.P J x/\s.P J x<=p.bP+p.aV:=fun h=>by have h9:=hrg J h Oa;exact⟨h9.1,h9.2 x x0 x1⟩
 refine(zP)<|iq<|zh<|htn<|jw<|jw<|hrz ?_
 refine(On)<|iq<|zh<|htn ?_
 refine Yv ?_ ?_<;>intro hc
 {
 refine jw<|hrz ?_
 refine(zV (g_ 1 Zz D))<|(zV (iW Zk W))<|(zP)<|iq<|zh<|htn<|jw ?_
 refine hdst [0,1,2,6,7,8] [0,2,6,7,8] 7 nP D ?_;clear D;intro w D
 refine sQ 0 (fun w D=>(g_ 1 Zz D)) ?_
 refine(b_ 1 (h_ 0 lu))<|(iQ 2 (fun w D=>(g_ 0 dV D)))<|(b_ 3 (iW Zb h.L.fP))<|oZ 4 (uF Zb Zq D) ?_;rintro v1 w ⟨D,ah⟩
 refine⟨⟨fun _=>D.pk [0,1,2,6,7,8],D.pk [0,2,6,7,8]⟩,?_⟩
 refine oZ 5 (pO (n:=1) (len:=1) (pv:= [(0,v1)]) (cs:= [v1]) (c:=(fun _=>v1)) Zk ZQ D (hf:=by obtain⟨_,_,_,_,rfl,_⟩:=ah;kernel_rfl)) ?_;rintro v2 w ⟨D,ar⟩
 refine⟨⟨fun _=>D.pk [0,1,2,6,7,8],D.pk [0,2,6,7,8]⟩,?_⟩
 refine oZ 6 (pz 3 (r:=s.n+1) Zk ZQ D (D.f_ 10 rfl) (YA _ _ _) (h1:=fun _ _ _=>ah.one)) ?_;rintro v3 w ⟨D,ae⟩
 replace D:=Sat.merge (l1:= [_,_,_,_]) (l2:= [_,_,_,_]) (l3:= [_]) D Oa
 have q9:=fun k (I:0<=k) (N:k<s.n+1)=>D.iw 4 rfl I N
 refine⟨⟨fun _=>D.pk [0,1,2,6,7,8],D.pk [0,2,6,7,8]⟩,?_⟩
 refine nR 7 (xsb 1 Zz D (hv:=ae.one)) ?_;clear D;rintro w D
 refine⟨⟨fun h=>absurd h (by decide),D.pk [0,2,6,7,8]⟩,?_⟩
 refine lS<|zh<|htn<|hrz ?_
 refine(zV (g_ 2 dV D))<|(zV (h_ 2 o_))<|(zV (g_ 0 dw D))<|(zV (h_ 3 nZ))<|(zV (g_ 0 dw D))<|(zV (Zg (r:=p.bP+p.aV)))<|iG (pO (n:=1) (len:=1) (pv:= [(0,.int Oi (p.bP+p.aV))]) (cs:= [.int Oi (p.bP+p.aV)]) (c:=ints (fun _=>p.bP+p.aV)) Zb Zq D) ?_;rintro v4 w ⟨D,aq⟩
 refine iG (pz 5 (r:=s.n+1) Zb Zq D (D.f_ 10 rfl) (ZR _ _ _)) ?_;rintro v5 w ⟨D,ac⟩
 rw [KO] at D q9
 have an:lD s.P s.n (fun _=>0) s.n x=0:=by rw [Zo Oa]
 have az:snoc s.L s.n (p.bP+p.aV) s.n=p.bP+p.aV:=Zu Oa
 refine lJ (xsb 2 dV D (hv:=ac.one)) ?_;clear D;rintro w D
 refine iq<|zh<|htn<|jw<|hrz ?_
 refine(zV (g_ 1 Zz D))<|(zP)<|(zV (iy (kk:=s.n) Zk ae))<|(zV (iR (u:=((lD s.vv s.n v1) s.n)) dV (D.f_ 3 rfl)))<|(zP)<|(zV (iy (kk:=x) Zb (q9 s.n Oa Oa)))<|(zV (iR (u:= .int Oi ((lD s.P s.n (fun _=>0)) s.n x)) dw (show Row _ _ 1 p.m _ from(D.lI (k:=s.n) 4 rfl Oa Oa))))<|(zV (Zg (r:=((lD s.P s.n (fun _=>0)) s.n x)+1)))<|(zV (iy (kk:=x) Zb (q9 s.n Oa Oa)))<|lJ (Ep 4 dw D rfl) ?_;clear D;rintro w D
 refine iq<|zh<|htn ?_
 refine hdst [0,1,2,3,4,5,6,7,8,9,10] [0,1,2,3,4,6,7,8,9,10] 7 nP D ?_;clear D;intro w D
 refine(iQ 0 (fun w D=>(g_ 2 dV D)))<|(b_ 1 gu)<|(b_ 2 (iy (kk:=s.n) Zb ac))<|sQ 3 (fun w D=>(iR (u:= .int Oi ((snoc s.L s.n (p.bP+p.aV)) s.n)) dw (D.f_ 5 rfl))) ?_
 refine(iQ 4 (fun w D=>(g_ 7 dw D)))<|(b_ 5 (Zr (r:=((snoc s.L s.n (p.bP+p.aV)) s.n)-p.L x-p.aV)))<|(b_ 6 (iy (kk:=s.n) Zb ac))<|nR 7 (rV 5 dw D (ZA _ _ _)) ?_;clear D;rintro w D
 refine⟨⟨fun h=>absurd h (by decide),D.pk [0,1,2,3,4,6,7,8,9,10]⟩,?_⟩
 refine lS<|zh<|ng<|D6 ⟨s.h++ [x],v3,s.n+1,lD s.vv s.n v1,upd (lD s.P s.n (fun _=>0)) s.n (upd ((lD s.P s.n (fun _=>0)) s.n) x (((lD s.P s.n (fun _=>0)) s.n x)+1)),v5,(upd (snoc s.L s.n (p.bP+p.aV)) s.n (((snoc s.L s.n (p.bP+p.aV)) s.n)-p.L x-p.aV))⟩ ⟨rfl,(by show nY _ _ _ _=YZ _ _ _ (s.h++ [x]);rw [Ry,<-O.1];first|exact SL (sz:=uG p) aa x0 (ab.resolve_right (fun h=>Oa)).2 (by unfold uG;omega)|(have U:=ab.resolve_left (fun h=>Oa);exact PX (sz:=uG p) aa x0 U.1 U.2.1 U.2.2.1 U.2.2.2 (by unfold uG;omega))),ae,ac⟩ (D.pk [0,1,2,3,4,5,6,7])}
 refine hsk<|htn<|jw<|hrz ?_
 refine(zV (g_ 1 Zz D))<|(zP)<|(zV (iy (kk:=J) Zk W))<|(zV (iR (u:=(s.vv J)) dV (D.f_ 3 rfl)))<|(zP)<|(zV (iy (kk:=x) Zb (Z J Oa Oa)))<|(zV (iR (u:= .int Oi (s.P J x)) dw (show Row _ _ 1 p.m _ from(D.lI (k:=J) 4 rfl Oa Oa))))<|(zV (Zg (r:=(s.P J x)+1)))<|(zV (iy (kk:=x) Zb (Z J Oa Oa)))<|lJ (Ep 4 dw D rfl) ?_;clear D;rintro w D
 refine iq<|zh<|htn ?_
 refine hdst [0,1,2,3,4,5,6,7,8] [0,1,2,3,4,6,7,8] 7 nP D ?_;clear D;intro w D
 refine(iQ 0 (fun w D=>(g_ 2 dV D)))<|(b_ 1 gu)<|(b_ 2 (iy (kk:=J) Zb ad))<|sQ 3 (fun w D=>(iR (u:= .int Oi (s.L J)) dw (D.f_ 5 rfl))) ?_
 refine(iQ 4 (fun w D=>(g_ 7 dw D)))<|(b_ 5 (Zr (r:=(s.L J)-p.L x-p.aV)))<|(b_ 6 (iy (kk:=J) Zb ad))<|nR 7 (rV 5 dw D (ZA _ _ _)) ?_;clear D;rintro w D
 refine⟨⟨fun h=>absurd h (by decide),D.pk [0,1,2,3,4,6,7,8]⟩,?_⟩
 refine lS<|zh<|ng<|D6 ⟨s.h++ [x],s.vB,s.n,s.vv,upd s.P J (upd (s.P J) x ((s.P J x)+1)),s.vL,(upd s.L J ((s.L J)-p.L x-p.aV))⟩ ⟨rfl,(by show nY _ _ _ _=YZ _ _ _ (s.h++ [x]);rw [Ry,<-O.1];first|exact SL (sz:=uG p) aa x0 (ab.resolve_right (fun h=>Oa)).2 (by unfold uG;omega)|(have U:=ab.resolve_left (fun h=>Oa);exact PX (sz:=uG p) aa x0 U.1 U.2.1 U.2.2.1 U.2.2.2 (by unfold uG;omega))),W,ad⟩ (D.pk [0,1,2,3,4,5,6,7])}
 {
 intro Dk s rest w qr D
 obtain⟨O,hh⟩:=qr
 have W:=O.2.1;have ad:=O.2.2
 obtain⟨xY,xd⟩:=Rk (d:=p.D) (i:=p.m) (c:=0) (fun k I N=>by have he:=F.all k I N;unfold cO.each at he;omega) Oa Oa Oa (fun h=>Oa) (fun _=>rfl)
 rw [<-hh] at xY xd
 obtain⟨am,hrg⟩:=O.rng F xY Oa
 have aa:=W.n0
 have Z:=fun k (I:0<=k) (N:k<s.n)=>D.iw 4 rfl I N
 refine ng<|htn<|jw<|hrz ?_
 refine(zP)<|iq<|zh<|htn<|jw<|jw<|hrz ?_
 refine(zV (g_ 1 Zz D))<|(zV (iW Zk W))<|(zP)<|iq<|zh<|htn<|hbk ?_
 replace D:=D.fU 2 97 (Ze (fun _=>Oh) (fun _=>0))
 refine hlp (fun mm M w=>∃(nC:Int) (wv:Ov) (cC:Of) (i:Int) (wC:Value),mm=((s.n-i).toNat)/\(0<=i)/\(i<=s.n)/\(nC=i)/\(∀k,0<=k->k<i->wv k=s.vv k)/\(∀k,0<=k->k<i->cC k=1)/\(iK wC nC)/\M= [(2,Oh),(8,wC),(60,s.vB),(61,.int Oi s.n),(62,.int Oi i)]/\Sat w0 w [.blk g1 [vL,vD,.int Oi p.bP,.int Oi p.aV],.blk g2 [s.vB],.blk g3 [s.vL],.own s.vB 1 22 s.n s.vv,.sem (Frame.rows 3 s.n s.vv (fun _=>p.m) s.P),.own s.vL 1 3 s.n (ints s.L),.blk g4 [vL,vD,.int Oi p.bP,.int Oi p.aV],.sem rest,.sem (Frame.obj Dk (.deferred (some []))),.own wC 2 97 nC (Ze wv cC)]) ⟨0,(fun _=>Oh),(fun _=>0),0,Oh,rfl,Oa,Oa,Oa,?_,?_,?_,rfl,D⟩ ?_
 {
 intro k I N;omega}
 {
 intro k I N;omega}
 {
 exact d_}
 clear D w
 rintro mm M w ⟨nC,wv,cC,i,wC,rfl,h0,h1,ax,ag,aj,ao,rfl,D⟩
 refine jw<|hrz ?_
 refine(zP)<|iq<|zh<|htn<|jw ?_
 refine Yv ?_ ?_<;>intro hc
 {
 refine hsk<|htn<|jw<|hbk<|jw<|hrz ?_
 refine(zV (iy (kk:=i) Zk W))<|(zV (iR (u:=(s.vv i)) dV (D.f_ 3 rfl)))<|(zP)<|iq<|zh<|htn<|hrz ?_
 refine(On)<|iI (lF (v:= .agg #[(s.vv i),.int Oi 1]) (hr:=by have hz:=(Z i Oa Oa);revert hz;generalize (s.vv i)=z;rintro⟨_,_,_,_,rfl,_⟩;show _=_;kernel_rfl)) ?_
 refine iG (pO (n:=1) (len:=1) (pv:= [(0,.agg #[(s.vv i),.int Oi 1])]) (cs:= [(s.vv i),.int Oi 1]) (c:=Ze (fun _=>(s.vv i)) (fun _=>1)) ZP Xb D (hf:=by have hz:=(Z i Oa Oa);revert hz;generalize (s.vv i)=z;rintro⟨_,_,_,_,rfl,_⟩;show _=_;kernel_rfl)) ?_;rintro v6 w ⟨D,ap⟩
 refine iG (pz 9 (r:=nC+1) ZP Xb D (D.f_ 10 rfl) (Xr _ _ _ _ _) (h1:=fun k _ _=>Xk (fun _=>(Z i Oa Oa).one) k)) ?_;rintro v7 w ⟨D,ak⟩
 refine(zP)<|iq<|zh<|ng<|htn<|hrz ?_
 refine(zV (Zg (r:=i+1)))<|(zP)<|iq<|zh<|hlq ⟨nC+1,(lD wv nC (s.vv i)),(snoc cC nC 1),i+1,v7,rfl,Oa,Oa,Oa,?_,?_,?_,rfl,D.pk [0,1,2,3,4,5,6,7,8,9]⟩
 {
 intro k I N;by_cases e:k<nC
 · rw [Zl e];exact ag k I Oa
 · rw [Zo e,show k=i by omega]}
 {
 intro k I N;by_cases e:k<nC
 · rw [Zt e];exact aj k I Oa
 · rw [Zu e]}
 {
 exact ak}}
 refine hxt<|n_<|n_<|rH<|htn<|jw<|hrz ?_
 refine iI gu ?_
 have a2:i=s.n:=Oa
 have al:nC=s.n:=Oa
 subst al
 replace D:=D.nJ 9 rfl (d:=Ze s.vv (fun _=>1)) (fun k I N=>by unfold Ze;rw [ag _ Oa Oa,aj _ Oa Oa])
 refine iJ (xc0 Iz) (IL (u:=s.n) (pv:=s.vv) (ln:=(fun _=>p.m)) (pt:=s.P) (cnt:=(fun _=>1)) w (⟨(D.f_ 9 rfl),fun k I N=>D.lI 4 rfl I N,fun k I N=>D.lV 4 rfl I N⟩:tq _ wC s.n s.vv (fun _=>p.m) s.P (fun _=>1)) Oa (fun k I N=>Oa) (fun k I N=>Oa)) ?_;rintro xM w ⟨_,qI,xH,yi,ym,xL,rfl,xA,xG,yQ,ye,xO,Y⟩
 replace D:=(D.comp Y).n12;clear Y
 have yC:=fun k (I:0<=k) (N:k<qI)=>D.iw 11 rfl I N
 refine(zP)<|iq<|zh<|htn<|hrt<|VG 8 D fun w D=>Oj ?_
 exact⟨_,_,_,_,_,_,rfl,(by rw [<-hh,<-O.1,Zg1];exact xA),xG,Oa,fun k I N=>by have:=ye k I N;omega,xO,D.pk [10,11]⟩}
 {
 intro Dk t rest w qr D
 exact qr.elim}
theorem Ai(f:List Int->Int){ln:Of}{pt:Og}{cnt:Of}:∀n:Nat,ni f (nY (n:Int) ln pt cnt)=jT (fun k=>f (lst (ln k) (pt k))) cnt n
 |0=>rfl
 | n+1=>by
   rw [show((n+1:Nat):Int)=(n:Int)+1 by omega,Wp Oa,WX,Ai f n]
   simp only [ni,jT];omega
theorem Ya(f:List Int->Int){n:Int}{ln:Of}{pt:Og}{cnt:Of}(n0:0<=n):ni f (nY n ln pt cnt)=jT (fun k=>f (lst (ln k) (pt k))) cnt n.toNat:=by
 have:=Ai f (ln:=ln) (pt:=pt) (cnt:=cnt) n.toNat
 rwa [Int.toNat_of_nonneg n0] at this
theorem BK(f:Nat->Int):∀n:Nat,((List.range (n+1)).map f).sum=((List.range n).map f).sum+f n:=fun n=>by
 rw [List.range_succ,List.map_append,List.sum_append];simp
theorem ZgO(sz:Of)(f:Of):∀n:Nat,WH sz (lst (n:Int) f)=jT sz f n:=fun n=>by
 have key:∀j:Nat,j<=n->((List.range j).map fun(k:Nat)=>(lst (n:Int) f).getD k 0*sz k).sum=jT sz f j:=by
   intro j
   induction j with
   |zero=>intro _;rfl
   | succ j ih=>
     intro h
     rw [BK,ih Oa,jT,List.getD_eq_getElem?_getD,lY,if_pos Oa,Int.mul_comm];rfl
 unfold WH
 rw [Y9,Int.toNat_natCast]
 exact key n (Nat.le_refl _)
theorem Kp(sz:Of)(f:Of){n:Int}(n0:0<=n):WH sz (lst n f)=jT sz f n.toNat:=by
 have:=ZgO sz f n.toNat
 rwa [Int.toNat_of_nonneg n0] at this
def xQ(p:cO)(l:Us)(e:Int):Prop:=Gz p e/\(e=0->pX (RZ (YZ p.m (p.bP+p.aV) (uG p) (oJ p.D p.m 0))) l)/\(e≠0->l= [])
theorem OL:Zc Om 75=true:=Oc
theorem OM:Zc Om 76=true:=Oc
theorem ZoS{vL vD:Value}{p:cO}(w0:World)(h:oO w0 vL vD p):
   Calls Om 37 [.agg #[vL,vD,.int Oi p.bP,.int Oi p.aV]].toArray w0 fun e w=>∃v,e= .returned v/\∃r n pv ln pt cnt e,v= .tuple #[r,.int Oi e]/\xQ p (nY n ln pt cnt) e/\(∀k,0<=k->k<n->1<=cnt k/\cnt k<=1000000)/\n<=1000/\iK r n/\Sat w0 w [.own r 2 97 n (Ze pv cnt),.sem (Frame.rows 3 n pv ln pt)]:=by
 obtain⟨hm,aa,hd,hd1,hs,hk⟩:=h.Oq
 refine iE Tryz.func37 Tryz.ntmps37 fun w D=> ?_
 refine fQ<|iG (nS (cs:= [_,_,_,_]) D) ?_;rintro _ w ⟨g1,rfl,D⟩
 refine(On)<|l9<|(zV (lH 0 iM D))<|iJ (xc0 OL) (W_ (p:=p) w (h.below D.below)) ?_;rintro _ w ⟨d8,rfl,I,F⟩
 replace D:=D.cmp F;clear F
 refine(zP)<|iT<|(On)<|ig<|Zf ?_ ?_<;>intro hc
 {
 refine fQ<|(Oo)<|j_<|rD ⟨_,rfl,?_⟩
 exact⟨_,0,fun _=>undef,fun _=>0,fun _ _=>0,fun _=>0,_,rfl,⟨I,fun h=>Oa,fun _=>rfl⟩,fun k N J=>Oa,Oa,d_,((D.sub (.cons _ .slnil)).fU 2 97 (Ze (fun _=>undef) (fun _=>0))).iF 3 (fun _=>undef) (fun _=>0) (fun _ _=>0)⟩}
 refine ZX<|iI (lH 0 iM D) ?_
 obtain⟨W,aW⟩:p.Ok/\jT (fun _=>1) p.D p.m.toNat<=1000:=by rcases I with⟨_,h9⟩|⟨_,_,h9⟩|⟨h8,h9,_⟩;omega;omega;exact⟨h8,h9⟩
 refine iJ (xc0 OM) (RM (p:=p) w (h.below D.below) W Oa) ?_;rintro xM w ⟨_,qI,xH,yi,ym,xL,rfl,Z,xG,U,O,Y,F⟩
 replace D:=(D.comp F).n3;clear F
 have yC:=fun k (N:0<=k) (J:k<qI)=>D.iw 2 rfl N J
 refine(On)<|jk<|rD ⟨_,rfl,?_⟩
 exact⟨_,_,_,_,_,_,0,rfl,⟨(show d8=0 by omega)▸I,fun _=>Z,fun h=>absurd rfl h⟩,O,U,Y,D.pk [1,2]⟩
theorem TN{vV:Value}{u:Int}{pv:Ov}{ln:Of}{pt:Og}{cnt:Of}(w0:World)(D:tq w0 vV u pv ln pt cnt)(O:u<=1000000)(I:∀k,0<=k->k<u->0<=cnt k/\cnt k<=1000000000):
   Calls Om 14 [vV].toArray w0 fun e w=>∃v,e= .returned v/\v= .int Oi (jT (fun _=>1) cnt u.toNat)/\Sat w0 w []:=by
 have hn:=D.row.fP.n0;have W:=D.row.fP.n1
 refine iE Tryz.func14 Tryz.ntmps14 fun w h=> ?_
 refine fQ<|(zP)<|iT<|(zP)<|l9<|(zP)<|(zV (iW ZP D.row.fP))<|(zP)<|nI<|ny (fun J M w=>∃(s:Int) (i:Int),J=((u-i).toNat)/\(0<=i)/\(i<=u)/\(s=jT (fun _=>1) cnt i.toNat)/\(0<=s/\s<=1000000000*i)/\M= [(2,.int Oi 0),(3,.int Oi s),(6,vV),(7,.int Oi u),(8,.int Oi i)]/\Sat w0 w []) ⟨0,0,rfl,Oa,Oa,?_,Oa,rfl,h⟩ ?_
 {
 rfl}
 clear h w
 rintro J M w ⟨s,i,rfl,N,h1,F,U,rfl,h⟩
 refine fQ<|(zP)<|nG<|Zf ?_ ?_<;>intro hc
 {
 refine oC<|(zV (iy (kk:=2*i) ZP D.row.fP))<|iI (uT (cs:= [(pv i),.int Oi (cnt i)]) Z2 (D.row.below h.below) (ZE (k:=2*i) (i:=i) pv cnt Oa)) ?_
 have Y:=I i N Oa
 refine iG (oh (cs:= [_,_]) Xb h) ?_;rintro _ w ⟨Z,rfl,h⟩
 refine lJ (nD 0 Z2 h (hd:=(Za (D.p i Oa Oa).fP.one (Za rfl Zj)))) ?_;clear h;rintro w h
 refine ig<|lG<|(zP)<|(zV (h_ 1 qN))<|(zV (g_ 0 dw h))<|(zV (Zg (r:=s+(cnt i))))<|(zP)<|nT<|(zV (Zg (r:=i+1)))<|(zP)<|iq<|jm ⟨s+(cnt i),i+1,rfl,Oa,Oa,?_,Oa,rfl,h.nl⟩
 {
 rw [YW _ _ N,<-F];omega}}
 refine oM<|(On)<|jk<|Oj ?_
 obtain rfl:i=u:=Oa
 exact⟨congrArg (Value.int .i64) F,h⟩
variable {cnt ln:Of} {pt:Og} {pv:Ov} {gp:Nat} {vD vV:Value}
theorem Zn3:Zc Om 155=true:=Oc
theorem Zn2:Zc Om 157=true:=Oc
theorem Iy:Zc Om 40=true:=Oc
theorem Zp7:Zc Om 83=true:=Oc
theorem Zo5{vL:Value}{p:cO}{vB:Value}{m b:Int}{g:Of}(w0:World)(J:(iO.blk gp [vL,vD,.int Oi p.bP,.int Oi p.aV]).holds w0)(h:oO w0 vL vD p)(N:Row w0 vB 1 m (ints g)):
   Calls Om 155 [.agg #[vB,.int Oi b],Or gp].toArray w0 fun e w=>∃v,e= .returned v/\v=B (¬(1<=b/\b<=1000/\nN p m g))/\Sat w0 w []:=by
 refine iE Tryz.func155 Tryz.ntmps155 fun w D=> ?_
 refine fQ<|iG (nS (cs:= [_,_]) D) ?_;rintro _ w ⟨O,rfl,D⟩
 refine(zP)<|iT<|(zV (h_ 1 qN))<|(zV (g_ 0 dw D))<|(On)<|lX 7 ?_ ?_<;>intro hc;rotate_left
 refine(zV (h_ 1 qN))<|(zV (g_ 0 dw D))<|(Oo)<|lX 12 ?_ ?_<;>intro hc;rotate_left
 refine(zV (F7 iM J D))<|(zV (h_ 0 rJ))<|(zV (g_ 0 dV D))<|iJ (xc0 Pj) (Y3 (p:=p) w (h.below D.below) (N.below D.below)) ?_;rintro _ w ⟨rfl,F⟩
 replace D:=D.cmp F;clear F
 refine(Oo)<|jk<|Oj ?_
 exact⟨Zm ⟨fun h1 I=>h1 I.2.2,fun h1 I=>h1 ⟨by omega,Oa,I⟩⟩,D.nl⟩
 all_goals
  refine pR ?_
  refine jk<|Oj ?_
  exact⟨Yk (by rintro⟨h1,h2,h3⟩;first|omega|exact absurd h3 ‹_›),D.nl⟩
theorem Zk4{u:Int}{vL:Value}{p:cO}(w0:World)(F:tq w0 vV u pv ln pt cnt)(Z:(iO.blk gp [vL,vD,.int Oi p.bP,.int Oi p.aV]).holds w0)(h:oO w0 vL vD p):
   Calls Om 132 [vV,.func (.func 155) #[] #[Or gp]].toArray w0 fun e w=>∃v,e= .returned v/\∃r:Int,v= .int Oi r/\((r= -1/\∀k,0<=k->k<u->¬(¬(1<=(cnt k)/\(cnt k)<=1000/\nN p (ln k) (pt k))))\/(0<=r/\r<u/\(¬(1<=(cnt r)/\(cnt r)<=1000/\nN p (ln r) (pt r)))/\∀k,0<=k->k<r->¬(¬(1<=(cnt k)/\(cnt k)<=1000/\nN p (ln k) (pt k)))))/\Sat w0 w []:=by
 have hn:=F.row.fP.n0;have Y:=F.row.fP.n1
 refine iE Tryz.func132 Tryz.ntmps132 fun w D=> ?_
 refine fQ<|(zP)<|l9<|(zP)<|(zV (iW ZP F.row.fP))<|(zP)<|nI<|ny (fun W M w=>∃(i:Int),W=((u-i).toNat)/\(0<=i)/\(i<=u)/\(∀k,0<=k->k<i->¬(¬(1<=(cnt k)/\(cnt k)<=1000/\nN p (ln k) (pt k))))/\M= [(0,vV),(1,.func (.func 155) #[] #[Or gp]),(7,.int Oi u),(8,.int Oi i)]/\Sat w0 w []) ⟨0,rfl,Oa,Oa,?_,rfl,D⟩ ?_
 {
 intro k U h1;omega}
 clear D w
 rintro W M w ⟨i,rfl,U,h1,J,rfl,D⟩
 refine fQ<|(zP)<|nG<|Zf ?_ ?_<;>intro hc
 {
 refine oC<|(On)<|iT<|(Oo)<|(zV (iy (kk:=2*i) ZP F.row.fP))<|(zV (uT (cs:= [(pv i),.int Oi (cnt i)]) Z2 (F.row.below D.below) (ZE (k:=2*i) (i:=i) pv cnt Oa)))<|iJ (uU (vs:= [_]) Zn3) (Zo5 (p:=p) (m:=(ln i)) (g:=(pt i)) w (Sat.vS D Z) (h.below D.below) ((F.p i Oa Oa).below D.below)) ?_;rintro _ w ⟨rfl,I⟩
 replace D:=D.cmp I;clear I
 refine ig<|Zf ?_ ?_<;>intro hc
 {
 refine fQ<|(On)<|sG<|Oj ?_
 exact⟨i,rfl,.inr ⟨by omega,Oa,‹¬(1<=(cnt i)/\(cnt i)<=1000/\nN p (ln i) (pt i))›,J⟩,D⟩}
 refine rU<|(zV (Zg (r:=i+1)))<|(zP)<|iq<|jm ⟨i+1,rfl,Oa,Oa,?_,rfl,D⟩
 {
 intro k O aa;rcases Int.lt_or_eq_of_le (show k<=i by omega) with N|N;exact J k O N;rw [N];assumption}}
 refine oM<|(zP)<|jk<|Oj ?_
 exact⟨-1,rfl,.inl ⟨rfl,fun k U h1=>J k U Oa⟩,D⟩
theorem Zle{u:Int}{vL:Value}{p:cO}(w0:World)(J:tq w0 vV u pv ln pt cnt)(N:(iO.blk gp [vL,vD,.int Oi p.bP,.int Oi p.aV]).holds w0)(h:oO w0 vL vD p):
   Calls Om 157 [vV,.func (.func 155) #[] #[Or gp]].toArray w0 fun e w=>∃v,e= .returned v/\v=B (∃k,0<=k/\k<u/\¬(1<=(cnt k)/\(cnt k)<=1000/\nN p (ln k) (pt k)))/\Sat w0 w []:=by
 refine iE Tryz.func157 Tryz.ntmps157 fun w D=> ?_
 refine fQ<|(zP)<|iT<|(On)<|iJ (xc0 Lm) (Zk4 (u:=u) (pv:=pv) (ln:=ln) (pt:=pt) (cnt:=cnt) (p:=p) w (J.below D.below) (Sat.vS D N) (h.below D.below)) ?_;rintro _ w ⟨Y,rfl,I,F⟩
 replace D:=D.cmp F;clear F
 refine(On)<|jk<|Oj ?_
 exact⟨Zm (by
  rcases I with⟨h1,h2⟩|⟨h1,h2,h3,_⟩
  · exact⟨fun h=>Oa,fun⟨k,W,U,O⟩=>absurd O (h2 k W U)⟩
  · exact⟨fun _=>⟨_,h1,h2,h3⟩,fun _=>h1⟩),D⟩
def nM(p:cO)(u:Int)(ln:Of)(pt:Og)(cnt:Of):Prop:=p.Ok/\u<=1000/\∀k,0<=k->k<u->1<=cnt k/\cnt k<=1000/\nN p (ln k) (pt k)
def ZJ(u:Int)(pt:Og)(cnt:Of):Of:=fun j=>jT (fun k=>pt k j) cnt u.toNat
theorem Jg{p:cO}{u:Int}:¬(∃k,0<=k/\k<u/\¬(1<=cnt k/\cnt k<=1000/\nN p (ln k) (pt k)))↔∀k,0<=k->k<u->1<=cnt k/\cnt k<=1000/\nN p (ln k) (pt k):=
 ⟨fun h k F D=>Od fun hn=>h ⟨k,F,D,hn⟩,fun h ⟨k,F,D,hn⟩=>hn (h k F D)⟩
theorem XP{i j:Int}(h:0<=i):ZJ (i+1) pt cnt j=ZJ i pt cnt j+pt i j*cnt i:=YW _ _ h
theorem Vb{a b A B:Int}(I:0<=a)(F:a<=A)(h:0<=b)(D:b<=B):0<=a*b/\a*b<=A*B:=
 ⟨Int.mul_nonneg I h,Int.mul_le_mul F D h Oa⟩
theorem Wr{p:cO}{u:Int}(h:∀k,0<=k->k<u->1<=cnt k/\cnt k<=1000/\nN p (ln k) (pt k)):∀{i:Int},0<=i->i<=u->∀{j:Int},0<=j->j<p.m->0<=ZJ i pt cnt j/\ZJ i pt cnt j<=2000000*i:=by
 intro i N
 obtain⟨n,rfl⟩:=Int.eq_ofNat_of_zero_le N
 induction n with
 |zero=>intro _ j _ _;exact⟨Int.le_refl _,by show(0:Int)<=_;omega⟩
 | succ n ih=>
   intro hi j D J
   have h1:=ih Oa Oa D J
   obtain⟨Y,U,I⟩:=h n Oa Oa
   have F:=I.all j D (by have:=I.eq;omega)
   have W:=Vb F.1 F.2 (show 0<=cnt n by omega) U
   have O:=XP (pt:=pt) (cnt:=cnt) (i:=(n:Int)) (j:=j) Oa
   rw [show((n+1:Nat):Int)=(n:Int)+1 by omega,O];omega
theorem ZiG{u:Int}{vL:Value}{p:cO}(w0:World)(I:tq w0 vV u pv ln pt cnt)(h:oO w0 vL vD p):
   Calls Om 83 [.agg #[vL,vD,.int Oi p.bP,.int Oi p.aV],vV].toArray w0 fun e w=>∃v,e= .returned v/\v=B (nM p u ln pt cnt)/\Sat w0 w []:=by
 obtain⟨Y,O,hd,hd1,W,Z⟩:=h.Oq
 have U:=I.row.fP.n0;have N:=I.row.fP.n1
 refine iE Tryz.func83 Tryz.ntmps83 fun w D=> ?_
 refine fQ<|iG (nS (cs:= [_,_,_,_]) D) ?_;rintro _ w ⟨g1,rfl,D⟩
 refine(zP)<|iT<|(zV wX)<|(zP)<|iT<|(zV (lH 0 iM D))<|iJ (xc0 XU) (Yd (p:=p) w (h.below D.below)) ?_;rintro _ w ⟨rfl,F⟩
 replace D:=D.cmp F;clear F
 refine(zP)<|lX 9 ?_ ?_<;>intro hc
 {
 refine(zP)<|(zV (iW ZP I.row.fP))<|(Oo)<|lX 14 ?_ ?_<;>intro hc
 {
 refine(On)<|iJ (xc0 Zn2) (Zle (u:=u) (pv:=pv) (ln:=ln) (pt:=pt) (cnt:=cnt) (p:=p) w (I.below D.below) (D.holds _ (List.mem_of_getElem? (i:=0) rfl)) (h.below D.below)) ?_;rintro _ w ⟨rfl,F⟩
 replace D:=D.cmp F;clear F
 refine(Oo)<|jk<|Oj ?_
 exact⟨Zm ⟨fun J=>⟨by first|assumption|exact Od ‹_›,Oa,Jg.1 J⟩,fun J=>Jg.2 J.2.2⟩,D.nl⟩}
 iterate 4 refine oq ?_
 refine(On)<|jk<|Oj ?_
 exact⟨Zi (by rintro⟨h1,h2,h3⟩;first|exact absurd h1 ‹_›|omega|exact absurd (Jg.2 h3) ‹_›),D.nl⟩}
 iterate 3 refine oq ?_
 refine zs2 ?_
 iterate 4 refine oq ?_
 refine(On)<|jk<|Oj ?_
 exact⟨Zi (by rintro⟨h1,h2,h3⟩;first|exact absurd h1 ‹_›|omega|exact absurd (Jg.2 h3) ‹_›),D.nl⟩
theorem TM{u:Int}{vL:Value}{p:cO}(w0:World)(F:tq w0 vV u pv ln pt cnt)(h:oO w0 vL vD p):
   Calls Om 40 [.agg #[vL,vD,.int Oi p.bP,.int Oi p.aV],vV].toArray w0 fun e w=>∃v,e= .returned v/\∃r n f e,v= .tuple #[r,.int Oi e]/\((¬nM p u ln pt cnt/\n=0/\e=1)\/(nM p u ln pt cnt/\n=p.m/\f=ZJ u pt cnt/\e=0))/\iK r n/\Sat w0 w [.own r 1 3 n (ints f)]:=by
 obtain⟨hm,al,hd,hd1,hs,hk⟩:=h.Oq
 have hu:=F.row.fP.n0;have ag:=F.row.fP.n1
 refine iE Tryz.func40 Tryz.ntmps40 fun w D=> ?_
 refine fQ<|iG (nS (cs:= [_,_,_,_]) D) ?_;rintro _ w ⟨g1,rfl,D⟩
 refine(On)<|l9<|(zV (lH 0 iM D))<|(zP)<|iJ (xc0 Zp7) (ZiG (u:=u) (pv:=pv) (ln:=ln) (pt:=pt) (cnt:=cnt) (p:=p) w (F.below D.below) (h.below D.below)) ?_;rintro _ w ⟨rfl,ab⟩
 replace D:=D.cmp ab;clear ab
 refine(zP)<|ig<|Zf ?_ ?_<;>intro hc
 {
 refine fQ<|(On)<|j_<|rD ⟨_,rfl,?_⟩
 exact⟨_,0,fun _=>0,1,rfl,.inl ⟨‹¬nM p u ln pt cnt›,rfl,rfl⟩,d_,(D.sub (.cons _ .slnil)).fU 1 3 (ints fun _=>0)⟩}
 refine ZX<|iI (h_ 0 lu) ?_
 have U:nM p u ln pt cnt:=by first|assumption|exact Od ‹_›
 have bg:=U.1.m1;have qM:=U.1.m2;have af:=U.2.1
 refine(zV (g_ 0 dV D))<|(zV (iW Zb h.L.fP))<|iG (uF Zb Zq D) ?_;rintro v1 w ⟨D,N⟩
 refine(zP)<|l9<|(zP)<|(zV (iW ZP F.row.fP))<|(zP)<|nI<|ny (fun Y M w=>∃(f:Of) (i:Int),Y=((u-i).toNat)/\(0<=i)/\(i<=u)/\(∀k,0<=k->k<p.m->f k=ZJ i pt cnt k)/\M= [(4,Oh),(5,.int Oi 0),(6,v1),(19,vV),(20,.int Oi u),(21,.int Oi i)]/\Sat w0 w [.blk g1 [vL,vD,.int Oi p.bP,.int Oi p.aV],.own v1 1 3 p.m (ints f)]) ⟨(fun _=>0),0,rfl,Oa,Oa,?_,rfl,D⟩ ?_
 {
 intro k _ _;rfl}
 clear D w
 rintro Y M w ⟨f,i,rfl,h0,h1,hf,rfl,D⟩
 refine fQ<|(zP)<|nG<|Zf ?_ ?_<;>intro hc
 {
 refine oC<|(zV (iy (kk:=2*i) ZP F.row.fP))<|iI (uT (cs:= [(pv i),.int Oi (cnt i)]) Z2 (F.row.below D.below) (ZE (k:=2*i) (i:=i) pv cnt Oa)) ?_
 obtain⟨ai,ac,Z⟩:=U.2.2 i h0 Oa
 have ah:=Z.eq
 refine iG (oh (cs:= [_,_]) Xb D) ?_;rintro _ w ⟨g2,rfl,D⟩
 refine lJ (nD 2 Z2 D (hd:=(Za (F.p i Oa Oa).fP.one (Za rfl Zj)))) ?_;clear D;rintro w D
 refine iT<|(zV (h_ 0 rJ))<|(zV (g_ 2 dV D))<|(zV (iW Zb (F.p i Oa Oa).fP))<|(zP)<|nI<|ny (fun Y M w=>∃(I:Of) (j:Int),Y=((ln i-j).toNat)/\(0<=j)/\(j<=ln i)/\(∀k,0<=k->k<p.m->I k=(if k<j then ZJ (i+1) pt cnt k else ZJ i pt cnt k))/\M= [(4,Oh),(5,.int Oi 0),(6,v1),(8,Or g2),(19,vV),(20,.int Oi u),(21,.int Oi i),(26,(pv i)),(27,.int Oi (ln i)),(28,.int Oi j)]/\Sat w0 w [.blk g1 [vL,vD,.int Oi p.bP,.int Oi p.aV],.own v1 1 3 p.m (ints I),.blk g2 [(pv i),.int Oi (cnt i)]]) ⟨f,0,rfl,Oa,Oa,?_,rfl,D⟩ ?_
 {
 intro k J W;rw [if_neg Oa];exact hf k J W}
 clear D w
 rintro Y M w ⟨I,j,rfl,j0,j1,O,rfl,D⟩
 refine fQ<|(zP)<|nG<|Zf ?_ ?_<;>intro hc
 {
 refine oC<|(zP)<|(zV (iy (kk:=j) Zb (F.p i Oa Oa).fP))<|iI (iR (u:= .int Oi ((pt i) j)) dw ((F.p i Oa Oa).below D.below)) ?_
 have aa:=Z.all j j0 Oa
 have aj:=Wr U.2.2 h0 Oa (j:=j) j0 Oa
 have ae:=O j j0 Oa
 rw [if_neg Oa] at ae
 have ak:=Vb aa.1 aa.2 (show 0<=cnt i by omega) ac
 refine(On)<|ig<|lg [0,1,2] [0,2] 10 nP D ?_;clear D;intro w D
 refine(b_ 0 gu)<|(b_ 1 gu)<|(b_ 2 (iy (kk:=j) Zb N))<|sQ 3 (fun w D=>(iR (u:= .int Oi (I j)) dw (D.f_ 1 rfl))) ?_
 refine(b_ 4 gu)<|(b_ 5 (h_ 1 qN))<|(iQ 6 (fun w D=>(g_ 1 dw D)))<|(b_ 7 (Yf (r:=(((pt i) j)*(cnt i))) (e:=rfl)))<|(b_ 8 (Zg (r:=I j+(((pt i) j)*(cnt i)))))<|(b_ 9 (iy (kk:=j) Zb N))<|nR 10 (rV 1 dw D (ZA _ _ _)) ?_;clear D;rintro w D
 refine⟨⟨fun h=>absurd h (by decide),D.pk [0,2]⟩,?_⟩
 refine lS<|ng<|iP<|lG ?_
 refine(zV (Zg (r:=j+1)))<|(zP)<|iq<|jm ⟨(upd I j (I j+(((pt i) j)*(cnt i)))),j+1,rfl,Oa,Oa,?_,rfl,D⟩
 {
 intro k J W;unfold upd;by_cases e:k=j
 · rw [if_pos e,if_pos Oa,e,XP h0];omega
 · rw [if_neg e,O k J W];by_cases e2:k<j
   · rw [if_pos e2,if_pos Oa]
   · rw [if_neg e2,if_neg Oa]}}
 refine sW<|n_<|n_<|rH<|ng<|iP<|lG<|(zV (Zg (r:=i+1)))<|(zP)<|iq<|jm ⟨I,i+1,rfl,Oa,Oa,?_,rfl,D.pk [0,1]⟩
 {
 intro k J W;rw [O k J W,if_pos Oa]}}
 refine oM<|(Oo)<|jk<|rD ⟨_,rfl,?_⟩
 have ad:i=u:=Oa
 rw [ad] at hf
 replace D:=D.nJ 1 rfl (d:=ints (ZJ u pt cnt)) (fun k J W=>congrArg (Value.int .i64) (hf k J Oa))
 exact⟨_,_,_,0,rfl,.inr ⟨U,rfl,rfl,rfl⟩,N,D.pk [1]⟩
theorem Zc1{u:Int}{vL:Value}{p:cO}(w0:World)(hV:tq w0 vV u pv ln pt cnt)(h:oO w0 vL vD p):
   Calls Om 15 [.agg #[vL,vD,.int Oi p.bP,.int Oi p.aV],vV].toArray w0 fun e w=>∃v,e= .returned v/\v=B (nM p u ln pt cnt/\∀j,0<=j->j<p.m->p.D j<=ZJ u pt cnt j)/\Sat w0 w []:=by
 obtain⟨hm,ab,hd,hd1,hs,U⟩:=h.Oq
 refine iE Tryz.func15 Tryz.ntmps15 fun w D=> ?_
 refine fQ<|iG (nS (cs:= [_,_,_,_]) D) ?_;rintro _ w ⟨F,rfl,D⟩
 refine(zP)<|iT<|(zV (lH 0 iM D))<|(zP)<|iJ (xc0 Iy) (TM (u:=u) (pv:=pv) (ln:=ln) (pt:=pt) (cnt:=cnt) (p:=p) w (hV.below D.below) (h.below D.below)) ?_;rintro _ w ⟨qF,J,Y,zw,rfl,W,O,N⟩
 replace D:=(D.comp N).n2;clear N
 refine C9 ?_
 have aa:=O.n0;have mK:=O.n1
 have mJ:J<=p.d:=by
   rcases W with⟨_,g2,_⟩|⟨F,g2,_,_⟩
   · omega
   · have:=F.1.d;omega
 refine(On)<|l9<|(zP)<|(zV (iW Zb O))<|(zP)<|nI<|ny (fun mm M w=>∃(i:Int),mm=((J-i).toNat)/\(0<=i)/\(i<=J)/\(∀k,0<=k->k<i->p.D k<=Y k)/\M= [(2,Or F),(6,.int Oi zw),(15,qF),(16,.int Oi J),(17,.int Oi i)]/\Sat w0 w [.blk F [vL,vD,.int Oi p.bP,.int Oi p.aV],.own qF 1 3 J (ints Y)]) ⟨0,rfl,Oa,Oa,?_,rfl,D⟩ ?_
 {
 intro k h0 h1;omega}
 clear D w
 rintro mm M w ⟨i,rfl,h0,h1,qa,rfl,D⟩
 refine fQ<|(zP)<|nG<|Zf ?_ ?_<;>intro hc
 {
 refine oC<|(zP)<|(zV (iy (kk:=i) Zb O))<|(zV (iR (u:= .int Oi (Y i)) dw (D.f_ 1 rfl)))<|(On)<|iT<|(zP)<|(zV (h_ 1 jF))<|(zV (g_ 0 dV D))<|(zP)<|(zV (iy (kk:=i) Zb h.D.fP))<|iI (iR (u:= .int Oi (p.D i)) dw (h.D.below D.below)) ?_
 have ac:=h.iD i
 refine(zP)<|ig<|Zf ?_ ?_<;>intro hc
 {
 refine fQ<|(zP)<|sG<|Oj ?_
 refine⟨Zi ?_,D.nl⟩
 rcases W with⟨F,g2,g3⟩|⟨F,g2,g3,g4⟩
 · exact fun I=>F I.1
 · intro I;subst g3;have h9:=I.2 i h0 Oa;omega}
 refine rU<|(zV (Zg (r:=i+1)))<|(zP)<|iq<|jm ⟨i+1,rfl,Oa,Oa,?_,rfl,D⟩
 {
 intro k Z ad;rcases Int.lt_or_eq_of_le (show k<=i by omega) with U|U;exact qa k Z U;rw [U];omega}}
 refine oM<|(Oo)<|jk<|Oj ?_
 refine⟨Zm ?_,D.nl⟩
 rcases W with⟨F,g2,g3⟩|⟨F,g2,g3,g4⟩
 · exact⟨fun I=>Oa,fun I=>absurd I.1 F⟩
 · exact⟨fun _=>⟨F,fun j j0 j1=>by have:=qa j j0 Oa;rw [g3] at this;exact this⟩,fun _=>Oa⟩
end Go.Proofs.YtpnamgfdakfccaaGreat
namespace Go.Proofs.Gw
open Go Go.RowKit
section
variable {P:Program} {l rest:List Oper} {Q Q':Exit->Act->World->Prop} {w w' w0:World} {o:Oper} {n d fuel i:Nat} {L M:List (Nat×Value)} {x y:Code} {c:Operand} {e:Exit} {p:Prop} {r:Option Nat} {ds:List Deferred} {listed:Array Bool} {K:Act->World->Prop}
def Hd(P:Program)(r:Option Nat)(n:Nat)(l:List Oper)(Q:Exit->Act->World->Prop)(fuel:Nat)(listed:Array Bool)(ds:List Deferred)(L:List (Nat×Value))(w:World):Prop:=∀a,xC a n ds L->wpAnyIn (FZ r) 0 P .any l.toArray Q fuel listed a w
def Ho(P:Program)(r:Option Nat)(n:Nat)(l:List Oper)(Q:Exit->Act->World->Prop)(o:Oper)(K:Act->World->Prop)(ds:List Deferred)(L:List (Nat×Value))(w:World):Prop:=∀a,xC a n ds L->if Region.wanted o (yielded l.toArray a.tmps)=true then o.wpIn (FZ r) 0 P a w K Q else(∀f,o.about P w a.eval=some f->(FZ r).fn f)/\K (a.put o.dst undef) w
theorem Ho.op{i:Nat}(h:Ho P r n l Q o K ds L w)(D:l[i]? =some o){a:Act}(F:xC a n ds L):wpOpIn (FZ r) 0 P l.toArray Q i K a w:=by
 unfold wpOpIn
 rw [show l.toArray[i]? =some o by simpa using D]
 exact h a F
theorem hdr{id:Nat}{m:List iO}(fuel:Nat)(h:P.follows .mixedOrders=true)(D:Sat w0 w m)(K:∀w,Sat w0 w m->Hd P r n l Q fuel (Array.replicate fuel false) ds L w)(hn:l.length=fuel:=by exact rfl):Hc P r n Q (.region id l.toArray true) ds L w:=fun a F=>by
 subst hn
 exact wpIn_region_any h (by have:=K _ D.draw a F;simpa using this)
theorem hd0(h:He n Q .normal ds L w)(hr:Region.ready .any l.toArray listed= []:=by kernel_rfl):Hd P r n l Q fuel listed ds L w:=fun a D=>wpAnyIn_done hr (h a D) _
theorem hd1(i:Nat){o:Oper}(h:Ho P r n l Q o (wpAnyIn (FZ r) 0 P .any l.toArray Q fuel (listed.setIfInBounds i true)) ds L w)(hr:Region.ready .any l.toArray listed= [i]:=by kernel_rfl)(D:l[i]? =some o:=by exact rfl):Hd P r n l Q (fuel+1) listed ds L w:=fun a I=>
 wpAnyIn_all hr (by simp) fun j F=>by
   obtain rfl:j=i:=by simpa using F
   exact h.op D I
theorem hd2(i j:Nat){o o':Oper}(hi:Ho P r n l Q o (wpAnyIn (FZ r) 0 P .any l.toArray Q fuel (listed.setIfInBounds i true)) ds L w)(J:Ho P r n l Q o' (wpAnyIn (FZ r) 0 P .any l.toArray Q fuel (listed.setIfInBounds j true)) ds L w)(hr:Region.ready .any l.toArray listed= [i,j]:=by kernel_rfl)(I:l[i]? =some o:=by exact rfl)(h:l[j]? =some o':=by exact rfl):Hd P r n l Q (fuel+1) listed ds L w:=fun a F=>
 wpAnyIn_all hr (by simp) fun k D=>by
   rcases List.mem_cons.1 D with rfl|D
   · exact hi.op I F
   · obtain rfl:k=j:=by simpa using D
     exact J.op h F
theorem hov{v:Value}(hr:Runs P L w o (.value v) w')(K:Hd P r n l Q fuel listed ds ((d,v)::L) w')(F:pG l L o=some true:=by exact rfl)(hd:o.dst=some d:=by exact rfl)(h:Nat.blt d n=true:=by exact rfl)(hn:Ap o=true:=by exact rfl):Ho P r n l Q o (wpAnyIn (FZ r) 0 P .any l.toArray Q fuel listed) ds L w:=fun a D=>by
 rw [if_pos (Ru D F)]
 refine⟨fun _ _=>trivial,?_⟩
 rw [Y8 hn,hr _ D.wP,Oper.uponIn_value,hd]
 exact K _ (D.put (by simpa [Nat.blt_eq] using h) v)
theorem hof(K:Hd P r n l Q fuel listed ds ((d,undef)::L) w)(F:pG l L o=some false:=by exact rfl)(hd:o.dst=some d:=by exact rfl)(h:Nat.blt d n=true:=by exact rfl):Ho P r n l Q o (wpAnyIn (FZ r) 0 P .any l.toArray Q fuel listed) ds L w:=fun a D=>by
 rw [if_neg (by rw [Ru D F];simp)]
 refine⟨fun _ _=>trivial,?_⟩
 rw [hd]
 exact K _ (D.put (by simpa [Nat.blt_eq] using h) undef)
theorem hoc{f:FuncId}{args:Array Value}{R:Value->World->Prop}(hr:Runs P L w o (.enter f args) w)(hc:Calls P f args w fun e w'=>∃v,e= .returned v/\R v w')(K:∀v w',R v w'->Hd P r n l Q fuel listed ds ((d,v)::L) w')
   (I:pG l L o=some true:=by exact rfl) (hd:o.dst=some d:=by exact rfl) (D:Nat.blt d n=true:=by exact rfl) (hn:Ap o=true:=by exact rfl):Ho P r n l Q o (wpAnyIn (FZ r) 0 P .any l.toArray Q fuel listed) ds L w:=fun a F=>by
 rw [if_pos (Ru F I)]
 refine⟨fun _ _=>trivial,?_⟩
 rw [Y8 hn,hr _ F.wP,Oper.uponIn_enter]
 refine⟨fun h=>(by cases h),WB (hc.mono fun e w' ⟨v,he,hR⟩=> ?_)⟩
 subst he
 rw [hd]
 exact K v w' hR _ (F.put (by simpa [Nat.blt_eq] using D) v)
theorem hoy{F:Nat}{O:Array Operand}{ts:Array TypeId}{vs:List Value}{z:Operand}{R:Value->World->Prop}(hY:G9 P F vs w R)(K:∀v w',R v w'->Hd P r n l Q fuel listed ds ((d,v)::L) w')
   (D:o.op= .call {callee:= .value z,args:=O,argTypes:=ts}:=by exact rfl) (W:iZ L z=some (.func (.yield F) #[] #[]):=by exact rfl) (Z:Te L O vs:=by repeat' first|exact G6|apply Wz rfl)
   (Y:pG l L o=some true:=by exact rfl) (hd:o.dst=some d:=by exact rfl) (I:Nat.blt d n=true:=by exact rfl):Ho P r n l Q o (wpAnyIn (FZ r) 0 P .any l.toArray Q fuel listed) ds L w:=fun a N=>by
 obtain⟨fn,tmps,assign,body,U,J⟩:=hY
 have hr:=Nr (P:=P) (L:=L) (o:=o) U D W Z
 rw [if_pos (Ru N Y)]
 refine⟨fun _ _=>trivial,?_⟩
 rw [Y8 (by unfold Ap;rw [D]),hr _ N.wP,Oper.uponIn_round]
 refine⟨fun h=>(by cases h),(show RoundIn (FZ r) (0-1) P F fn tmps assign body w fun e w'=>∃v,e= .returned v/\R v w' from J).mono fun e w' ⟨v,he,J⟩=> ?_⟩
 subst he
 rw [hd]
 exact K v w' J _ (N.put (by simpa [Nat.blt_eq] using I) v)
theorem ZpM{f:FuncId}{fn:Func}{vs:List Value}{R:Ending->World->Prop}(hf:P.funcs[f]? =some fn)(hn:fn.ntmps=n)(K:Hc P none n (bodyPostM (FZ none) 0 P fn R) x [] (num 0 vs) w)(D:fn.body=some x:=by exact rfl)(hv:Nat.ble vs.length n=true:=by exact rfl):Calls P f vs.toArray w R:=
 Td (r:=none) (n:=0) (callsIn_of_wp_marks hf D trivial (by
   rw [hn]
   exact K _ ((Fr.enter (vs:=vs.toArray) (by simpa using Nat.le_of_ble_eq_true hv) fun t v h=>by have:=(Je vs 0 t v h).2;simpa using this))))
theorem ZpK{fn:Func}{R:Ending->World->Prop}{E:List iO}{D:Nat}(i:Nat)(I:Sat w0 w E)(K:∀w',Sat w0 w' (E.set i (sH D false))->Ge n [] (bodyPost P fn R) .normal L w')(hi:E[i]? =some (sH D true):=by exact rfl):He n (bodyPostM (FZ none) 0 P fn R) .normal [BZ D] L w:=fun a F=>VG i I (fun w' h a F=>K w' h a F) hi a F
end
end Go.Proofs.Gw
namespace Go.Proofs.Gw
open Go Go.RowKit
section
variable {P:Program} {Q:Exit->Act->World->Prop} {w w' w0:World} {n:Nat} {L:List (Nat×Value)} {ds:List Deferred}
def Np{St X Tt:Type}(P:Program)(w0:World)(gf:FuncId)(lb:List Value)(Sh:List iO)(enc:X->List Value)(Gx:X->List iO)(Pre:St->X->Frame->Prop)(Nx:St->X->St->Prop)(Sx:St->X->Tt->Prop)(s0:St)(Fin:St->Frame->Prop)(E8:Tt->Frame->Prop):Prop:=
  ∀(l:Nat) (C:St->Frame) (D:Tt->Frame) (w:World),Sat w0 w (.sem (C s0)::Sh)->
    (∀s x rest w,Pre s x rest->Sat w0 w (.sem (C s)::(Sh++(Gx x++ [.sem rest])))->G9 P l (enc x) w fun v w'=>
      (v= .bool true/\∃s',Nx s x s'/\Sat w0 w' (.sem (C s')::(Sh++ [.sem rest])))\/(v= .bool false/\∃t,Sx s x t/\Sat w0 w' (.sem (D t)::(Sh++ [.sem rest]))))->
    Calls P gf (.func (.yield l) #[] #[]::lb).toArray w fun e w'=>∃v,e= .returned v/\
      ((∃s rest,Fin s rest/\Sat w0 w' (.sem (C s)::(Sh++ [.sem rest])))\/(∃t rest,E8 t rest/\Sat w0 w' (.sem (D t)::(Sh++ [.sem rest]))))
theorem NZ{St X Tt:Type}{gf:FuncId}{lb:List Value}{g:Operand}{U:Array Tmp}{assign body:Code}{Sh:List iO}{enc:X->List Value}{Gx:X->List iO}{ae:St->X->Frame->Prop}{Nx:St->X->St->Prop}{Sx:St->X->Tt->Prop}{Fin:St->Frame->Prop}{aa:Tt->Frame->Prop}
   (C:St->List iO) (D:Tt->List iO) (jc:Tt->Code) (s0:St) (J:X->List (Nat×Value)->List iO->Prop) (hit:Np P w0 gf lb Sh enc Gx ae Nx Sx s0 Fin aa) (hS:Sat w0 w (C s0++Sh)) (N:Zc P gf=true)
   (aj:∀x,(enc x).length=U.size) (am:∀t,jc t= .ret\/∃id,jc t= .exit id)
   (zc:∀l s x rest w,ae s x rest->∀F,(∀w,F.holds w->rest.holds w)->Sat w0 w (C s++(Sh++(.sem F::Gx x)))->Hc P (some l) n (Exit.then (fun a w'=>∃M es,J x M es/\xC a n [] M/\Sat w0 w' (C s++(Sh++(.sem F::es)))) (fun _ _ _=>False)) assign [] (DY U.toList (enc x) L) w)
   (bB:∀l s x M es rest w,ae s x rest->J x M es->∀F,(∀w,F.holds w->rest.holds w)->Sat w0 w (C s++(Sh++(.sem F::es)))->Hc P (some l) n (H6 w0 C D jc Sh (Nx s x) (Sx s x) F) body [] M w)
   (zq:∀Dk s rest w',Fin s rest->Sat w0 w' (C s++(Sh++ [.sem rest,sH Dk true]))->He n Q .normal (BZ Dk::ds) L w')
   (aX:∀Dk t rest w',aa t rest->Sat w0 w' (D t++(Sh++ [.sem rest,sH Dk true]))->He n Q (Ql (jc t)) (BZ Dk::ds) L w')
   (hg:iZ L g=some (.func (.func gf) #[] lb.toArray):=by exact rfl) (ak:(U.toList.all fun t=>Nat.blt t n)=true:=by exact rfl):Hc P none n Q (.rangeFunc g U assign body) ds L w:=by
 intro a hF
 refine wpIn_rangeFunc ?_
 intro fn az
 obtain⟨rec,xp⟩:∃rec:LoopState->Option Code->Loop,rec=fun O Y=>{state:=O,pending:=Y,fn,tmps:=a.tmps,params:=U,assign,body,defers:=w.heap.size}:=⟨_,rfl⟩
 obtain⟨W1,ag⟩:∃W1,(w.alloc (.deferred (some []))).alloc (.loop (rec .ready none))=W1:=⟨_,rfl⟩
 obtain⟨l,hl⟩:∃l,w.heap.size+1=l:=⟨_,rfl⟩
 obtain⟨Dk,ac⟩:∃Dk,w.heap.size=Dk:=⟨_,rfl⟩
 have av:Sat w0 W1 ((C s0++Sh)++ [sH Dk true]++ [.sem (Frame.obj l (.loop (rec .ready none)))]):=by
   rw [<-ag]
   refine(hS.alloc _ (e:=sH Dk true) ?_ ?_).alloc _ (e:= .sem (Frame.obj l (.loop (rec .ready none)))) ?_ ?_
   · rw [<-ac];exact heap_alloc_new w _
   · intro g hg;rw [<-ac] at hg;exact hg
   · have:=heap_alloc_new (w.alloc (.deferred (some []))) (.loop (rec .ready none))
     rw [World.size_alloc,hl] at this;exact this
   · intro g hg;rw [World.size_alloc,hl];exact hg
 have eval:a.eval g= .func (.func gf) #[] lb.toArray:=hF.wP _ _ hg
 have dM:∃I,P.funcs[gf]? =some I/\I.body.isSome=true/\(I.name== "runtime.NumGoroutine")=false:=by
   unfold Zc at N
   cases hf:P.funcs[gf]? with
   |none=>simp [hf] at N
   | some I=>
     simp only [hf,Bool.and_eq_true,Bool.not_eq_true'] at N
     exact⟨I,rfl,N.1,N.2⟩
 obtain⟨I,ap,af,ao⟩:=dM
 have dS:I.body≠none:=by intro e;rw [e] at af;simp at af
 have dR:I.name≠ "runtime.NumGoroutine" :=by simpa using ao
 let C':St->Frame:=fun s=>Frame.rG (C s++ [.sem (Frame.obj l (.loop (rec .ready none))),sH Dk true])
 let D':Tt->Frame:=fun t=>Frame.rG (D t++ [.sem (Frame.obj l (.loop (rec .done (some (jc t))))),sH Dk true])
 have au:Sat w0 W1 (.sem (C' s0)::Sh):=by
   have h1:Sat w0 W1 (Sh++(C s0++ [.sem (Frame.obj l (.loop (rec .ready none))),sH Dk true])):=av.perm (Yg fun f=>by simp only [List.map_append,List.map_cons,List.map_nil,List.sum_append,List.sum_cons,List.sum_nil];omega)
   have Z:=h1.bundle
   exact Z.perm List.perm_append_comm
 refine⟨l, [BZ Dk],W1,{target:= .fn (.func gf) lb.toArray,args:= #[.func (.yield l) #[] #[]]},W1,gf, #[.func (.yield l) #[] #[]]++lb.toArray,W1,?_,?_,?_,?_,fun h=>(by cases h),?_⟩
 · rw [<-ag,xp,<-hl,<-ac];exact run_enterLoop_outer _ _ _ _ _
 {
 simp only [resolve,eval]
 simp [go_sem]}
 · intro f' a0;trivial
 · simp [invoke,go_sem,callFunc,ap,dS,dR]
 have ad:(#[.func (.yield l) #[] #[]]++lb.toArray:Array Value)=(.func (.yield l) #[] #[]::lb).toArray:=by simp
 rw [ad]
 refine WB ((hit l C' D' W1 au ?_).mono ?_)
 {
 intro s x rest W qe ar
 have h1:Sat w0 W (C s++(Sh++(Gx x++ [.sem rest,.sem (Frame.obj l (.loop (rec .ready none))),sH Dk true]))):=by
   have:=Sat.wz (l1:= []) ar
   exact this.perm (Yg fun f=>by simp only [List.map_append,List.map_cons,List.map_nil,List.sum_append,List.sum_cons,List.sum_nil];omega)
 have ab:W.heap[l]? =some (.loop (rec .ready none)):=h1.holds (.sem (Frame.obj l (.loop (rec .ready none)))) (by simp)
 have hy:=run_yield (P:=P) (args:=(enc x).toArray) ab (by rw [xp];simp [aj x])
 rw [xp] at hy
 refine⟨fn,_,assign,body,hy,roundIn_of_wpIn trivial ?_⟩
 clear hy
 let r1:Frame:=Frame.rG [.sem rest,.sem (Frame.obj l (.loop (rec .ready none))),sH Dk true]
 have Z:Sat w0 W (C s++(Sh++(.sem r1::Gx x))):=by
   have ay:Sat w0 W ((C s++(Sh++Gx x))++ [.sem r1]):=by
     have ax:Sat w0 W ((C s++(Sh++Gx x))++ [.sem rest,.sem (Frame.obj l (.loop (rec .ready none))),sH Dk true]):=by
       rw [List.append_assoc,List.append_assoc];exact h1
     exact ax.bundle
   exact ay.perm (Yg fun f=>by simp only [List.map_append,List.map_cons,List.map_nil,List.sum_append,List.sum_cons,List.sum_nil];omega)
 have an:xC {tmps:=(U.zip (enc x).toArray).foldl (fun t (p,v)=>t.setIfInBounds p v) a.tmps,defers:= []} n [] (DY U.toList (enc x) L):=by
   have:=MJ (a:=a) (n:=n) U.toList (enc x) a.tmps (L:=L) ⟨hF.size,rfl,hF.get⟩ ak
   have e:(U.zip (enc x).toArray).foldl (fun t (p,v)=>t.setIfInBounds p v) a.tmps=(U.toList.zip (enc x)).foldl (fun t (p:Nat×Value)=>t.setIfInBounds p.1 p.2) a.tmps:=by
     rw [<-Array.foldl_toList,Array.toList_zip]
   rw [e];exact this
 refine Go.wpIn_mono (zc l s x rest W qe r1 (fun w h=>h.1 (.sem rest) (by simp)) Z _ an) ?_
 intro e a1 Wa hp
 cases e<;>try exact hp.elim
 obtain⟨M,es,hJ,aw,aq⟩:=hp
 have h3:Sat w0 Wa ((C s++(Sh++([.sem rest]++es))++ [sH Dk true])++ .sem (Frame.obj l (.loop (rec .ready none))):: []):=by
   have:=Sat.wz (l1:=C s++Sh) (l3:=es) (by rw [List.append_assoc];exact aq)
   exact this.perm (Yg fun f=>by simp only [List.map_append,List.map_cons,List.map_nil,List.sum_append,List.sum_cons,List.sum_nil];omega)
 have ab:Wa.heap[l]? =some (.loop (rec .ready none)):=h3.get
 refine⟨_,run_beginRound ab (by rw [xp]),?_⟩
 have h4:=h3.putObj (o':= .loop {rec .ready none with state:= .busy})
 let r2:Frame:=Frame.rG [.sem rest,.sem (Frame.obj l (.loop {rec .ready none with state:= .busy})),sH Dk true]
 have h5:Sat w0 (Wa.putObj l (.loop {rec .ready none with state:= .busy})) (C s++(Sh++(.sem r2::es))):=by
   have h:Sat w0 (Wa.putObj l (.loop {rec .ready none with state:= .busy})) ((C s++(Sh++es))++ [.sem rest,.sem (Frame.obj l (.loop {rec .ready none with state:= .busy})),sH Dk true]):=by
     exact h4.perm (Yg fun f=>by simp only [List.map_append,List.map_cons,List.map_nil,List.sum_append,List.sum_cons,List.sum_nil];omega)
   have hb:Sat w0 (Wa.putObj l (.loop {rec .ready none with state:= .busy})) ((C s++(Sh++es))++ [.sem r2]):=h.bundle
   exact hb.perm (Yg fun f=>by simp only [List.map_append,List.map_cons,List.map_nil,List.sum_append,List.sum_cons,List.sum_nil];omega)
 refine Go.wpIn_mono (bB l s x M es rest _ qe hJ r2 (fun w h=>h.1 (.sem rest) (by simp)) h5 _ aw) ?_
 have fin:∀(jump:Option Code) (A:List iO) (W3:World),Sat w0 W3 (A++(Sh++ [.sem r2]))->
     (Instr.endRound l jump).run P W3= .ok (.bool jump.isNone) (W3.putObj l (.loop (rec (if jump.isNone then .ready else .done) jump)))/\
     Sat w0 (W3.putObj l (.loop (rec (if jump.isNone then .ready else .done) jump))) (.sem (Frame.rG (A++ [.sem (Frame.obj l (.loop (rec (if jump.isNone then .ready else .done) jump))),sH Dk true]))::(Sh++ [.sem rest])):=fun jump A W3 hA=>by
   have h6:Sat w0 W3 ((Sh++ [.sem rest]++(A++ [sH Dk true]))++ .sem (Frame.obj l (.loop {rec .ready none with state:= .busy})):: []):=by
     have:=Sat.wz (l1:=A++Sh) (l3:= []) (by rw [List.append_assoc];exact hA)
     exact this.perm (Yg fun f=>by simp only [List.map_append,List.map_cons,List.map_nil,List.sum_append,List.sum_cons,List.sum_nil];omega)
   have al:W3.heap[l]? =some (.loop {rec .ready none with state:= .busy}):=h6.get
   have hr:=run_endRound (P:=P) jump al
   have h7:=h6.putObj (o':= .loop (rec (if jump.isNone then .ready else .done) jump))
   refine⟨by rw [xp] at hr⊢;exact hr,?_⟩
   have h8:Sat w0 (W3.putObj l (.loop (rec (if jump.isNone then .ready else .done) jump))) ((Sh++ [.sem rest])++(A++ [.sem (Frame.obj l (.loop (rec (if jump.isNone then .ready else .done) jump))),sH Dk true])):=by
     exact h7.perm (Yg fun f=>by simp only [List.map_append,List.map_cons,List.map_nil,List.sum_append,List.sum_cons,List.sum_nil];omega)
   exact h8.bundle.perm List.perm_append_comm
 intro e a3 W3 hp
 cases e with
 | normal=>
   obtain⟨s',hn,hA⟩:=hp
   obtain⟨hr,h6⟩:=fin none _ _ hA
   exact⟨_,_,hr,_,rfl,.inl ⟨rfl,s',hn,h6⟩⟩
 | ret=>
   obtain⟨t,hn,hj,hA⟩:=hp
   obtain⟨hr,h6⟩:=fin (some .ret) _ _ hA
   refine⟨_,_,hr,_,rfl,.inr ⟨rfl,t,hn,?_⟩⟩
   simp only [D',hj];exact h6
 | exit id=>
   obtain⟨t,hn,hj,hA⟩:=hp
   obtain⟨hr,h6⟩:=fin (some (.exit id)) _ _ hA
   refine⟨_,_,hr,_,rfl,.inr ⟨rfl,t,hn,?_⟩⟩
   simp only [D',hj];exact h6
 |goto t=>exact hp.elim
 |panic ch=>exact hp.elim
 |outgrown=>exact hp.elim}
 {
 have out:∀(O:LoopState) (Y:Option Code) (A:List iO) (rest:Frame) (W2:World),O≠ .busy->Sat w0 W2 (.sem (Frame.rG (A++ [.sem (Frame.obj l (.loop (rec O Y))),sH Dk true]))::(Sh++ [.sem rest]))->
     (Instr.endLoop l).run P W2= .ok Y (W2.putObj l (.loop {rec O Y with state:= .exhausted}))/\Sat w0 (W2.putObj l (.loop {rec O Y with state:= .exhausted})) (A++(Sh++ [.sem rest,sH Dk true])):=fun O Y A rest W2 ai h=>by
   have h1:=Sat.wz (l1:= []) h
   have Z:Sat w0 W2 ((A++(Sh++ [.sem rest,sH Dk true]))++ .sem (Frame.obj l (.loop (rec O Y))):: []):=by
     exact h1.perm (Yg fun f=>by simp only [List.map_append,List.map_cons,List.map_nil,List.sum_append,List.sum_cons,List.sum_nil];omega)
   have hl:W2.heap[l]? =some (.loop (rec O Y)):=Z.get
   have h3:=Z.putObj (o':= .loop {rec O Y with state:= .exhausted})
   refine⟨?_,h3.sub (List.sublist_append_left _ _)⟩
   have:=run_endLoop (P:=P) hl (by rw [xp];exact ai)
   rw [xp] at this⊢;exact this
 rintro e W2 ⟨v,rfl,h⟩
 have ah:∀{L'},xC a n ds L'->xC {a with defers:= [BZ Dk]++a.defers} n (BZ Dk::ds) L':=fun h=>⟨h.size,by rw [<-h.defers];rfl,h.get⟩
 rcases h with⟨s,rest,qr,h⟩|⟨t,rest,qr,h⟩
 · obtain⟨h1,Z⟩:=out .ready none _ rest W2 (by simp) h
   exact⟨none,_,h1,zq Dk s rest _ qr Z _ (ah hF)⟩
 {
 obtain⟨h1,Z⟩:=out .done (some (jc t)) _ rest W2 (by simp) h
 refine⟨some (jc t),_,h1,?_⟩
 have h3:=aX Dk t rest _ qr Z _ (ah hF)
 rcases am t with hj|⟨id,hj⟩
 · rw [hj] at h3⊢;exact wpIn_ret h3
 · rw [hj] at h3⊢;exact wpIn_exit h3}}
end
end Go.Proofs.Gw
namespace Go.Proofs.YtpnamgfdakfccaaGreat
open Go Go.RowKit Go.Proofs.Gw
variable {cnt ln:Of} {pt:Og}
theorem wE:ZF Om 29=true:=Oc
def U1(u:Int):Nat->List Int
  |0=> []
  |t+1=>U1 u t++ [u-1-t]
def BD(u x:Int):List Int:=U1 u (u-1-x).toNat
theorem ZhX{u x:Int}(h:x<u):BD u (x-1)=BD u x++ [x]:=by
 unfold BD
 rw [show(u-1-(x-1)).toNat=(u-1-x).toNat+1 by omega,U1,show u-1-((u-1-x).toNat:Int)=x by omega]
theorem ZfV(u:Int):BD u (u-1)= []:=by
 unfold BD;rw [show(u-1-(u-1)).toNat=0 by omega];rfl
def Vj(ln:Of)(pt:Og)(cnt:Of)(l:List Int):List (List Int):=l.flatMap fun i=>List.replicate (cnt i).toNat (lst (ln i) (pt i))
theorem RP(ln:Of)(pt:Og)(cnt:Of)(l:List Int)(x:Int):Vj ln pt cnt (l++ [x])=Vj ln pt cnt l++List.replicate (cnt x).toNat (lst (ln x) (pt x)):=by simp [Vj]
theorem L9{ln cnt:Of}{pt:Og}{u:Int}(D:0<=u)(hc:∀k,0<=k->k<u->0<=cnt k):∀t:Nat,(t:Int)<=u->((Vj ln pt cnt (U1 u t)).length:Int)=jT (fun _=>1) cnt u.toNat-jT (fun _=>1) cnt (u-t).toNat
 |0,_=>by simp [U1,Vj]
 | t+1,ht=>by
   have h1:=L9 (ln:=ln) (pt:=pt) D hc t Oa
   have F:=hc (u-1-t) Oa Oa
   have h:=YW (fun _=>1) cnt (i:=u-1-t) Oa
   rw [U1,RP,List.length_append,List.length_replicate]
   rw [show u-1-(t:Int)+1=u-t by omega] at h
   rw [show u-((t+1:Nat):Int)=u-1-t by omega]
   push_cast
   rw [h1,h,Int.toNat_of_nonneg F];omega
theorem TO{u x c:Int}(hc:∀k,0<=k->k<u->0<=cnt k)(h:0<=x)(I:x<u)(N:0<=c)(c1:c<cnt x):((Vj ln pt cnt (BD u x)++List.replicate c.toNat (lst (ln x) (pt x))).length:Int)<jT (fun _=>1) cnt u.toNat:=by
 have h1:=L9 (ln:=ln) (pt:=pt) Oa hc (u-1-x).toNat Oa
 have F:=YW (fun _=>1) cnt h
 have D:=Vs (d:=cnt) (f:=fun _=>1) (i:=0) (n:=x.toNat) Oa fun k J=>by have:=hc k Oa Oa;omega
 rw [List.length_append,List.length_replicate]
 unfold BD
 push_cast
 rw [h1,show(u-((u-1-x).toNat:Int)).toNat=(x+1).toNat by omega,F]
 simp only [jT] at D
 omega
theorem Zli{vV:Value}{u:Int}{pv:Ov}(w0:World)(D:tq w0 vV u pv ln pt cnt):
   Calls Om 226 [vV].toArray w0 fun e w=>∃v,e= .returned v/\∃g,v= .func (.func 282) #[] #[Or g]/\Sat w0 w [.blk g [vV]]:=by
 refine iE Tryz.func226 Tryz.ntmps226 fun w h=> ?_
 refine fQ<|iG (nS (cs:= [_]) h (hc:=iK.cells D.row.fP)) ?_;rintro _ w ⟨F,rfl,h⟩
 refine(zP)<|iT<|(zV wX)<|(zP)<|jk<|Oj ?_
 exact⟨_,rfl,h⟩
theorem Zlj{vV:Value}{u:Int}{pv:Ov}{pt:Og}{cnt:Of}{gq:Nat}{St:Type}(I:St->List Int)(Inv:St->Prop)(J:St)(O:I J= [])(W:Inv J)(w0:World)(F:iK vV u)(ac:∀k,0<=k->k<u->iK (pv k) (ln k)):Hg (St:=St) (X:=Int) (Tt:=Unit) Om w0 282 [Or gq] [.blk gq [vV],.own vV 2 97 u (Ze pv cnt),.sem (Frame.rows 3 u pv ln pt)] (fun x=> [.int Oi x,.agg #[pv x,.int Oi (cnt x)]]) (fun s x rest=>Inv s/\0<=x/\x<u/\I s=BD u x) (fun s x Y=>I Y=I s++ [x]/\Inv Y) (fun _ _ _=>False) (J) (fun s rest=>Inv s/\I s=BD u (-1)) (fun _ _=>False):=by
 intro l C D w h hY
 have hu:=F.n0;have ab:=F.n1
 refine FI Tryz.func282 Tryz.ntmps282 ?_
 refine jw<|hrz ?_
 refine iI (g_ 1 wE h) ?_
 refine iI (iW ZP F) ?_
 refine iI (Zr (r:=u-1)) ?_
 refine iI nU ?_
 refine iq<|zh<|htn<|hbk<|hlp (fun mm M w=>∃(s:St) (i:Int),mm=((i+1).toNat)/\(-1<=i)/\(i<u)/\(Inv s)/\(I s=BD u i)/\M= [(0,.func (.yield l) #[] #[]),(1,Or gq),(3,.int Oi i)]/\Sat w0 w [.sem (C s),.blk gq [vV],.own vV 2 97 u (Ze pv cnt),.sem (Frame.rows 3 u pv ln pt)]) ⟨J,u-1,rfl,Oa,Oa,?_,?_,rfl,h⟩ ?_
 {
 exact W}
 {
 rw [O];exact(ZfV u).symm}
 clear h w
 rintro mm M w ⟨s,i,rfl,h0,h1,hI,U,rfl,h⟩
 refine jw<|jw<|hrz ?_
 refine zs2 ?_
 refine iq<|zh<|htn ?_
 refine Yv ?_ ?_<;>intro hc
 {
 refine hsk<|htn<|jw<|hbk<|jw<|hrg ?_
 iterate 2 refine hlv gu ?_
 refine hlv (g_ 1 wE h) ?_
 refine hlv gu ?_
 refine hlv (iy (kk:=2*i) ZP F) ?_
 refine hlv (uT (cs:= [(pv i),.int Oi (cnt i)]) Z2 (h.f_ 2 rfl) (ZE (k:=2*i) (i:=i) pv cnt Oa)) ?_
 refine EG (hY s i _ w ⟨hI,Oa,Oa,U⟩ (Sat.bundle (l1:= [_,_,_,_]) (l2:= []) h)) ?_;rintro _ w (⟨rfl,N,Z,h⟩|⟨rfl,aa,xe,h⟩)
 {
 replace h:=Sat.unbundle (l1:= [_,_,_,_]) (l3:= []) h
 replace h:=h.n4
 refine hlv tH ?_
 refine hln<|htn<|hcf<|hsk<|ng<|htn<|hrz ?_
 refine iI gu ?_
 refine iI (Zr (r:=i-1)) ?_
 refine iI nU ?_
 refine iq<|zh<|hlq ⟨N,i-1,rfl,Oa,Oa,?_,?_,rfl,h⟩
 {
 exact Z.2}
 {
 rw [Z.1,U];exact(ZhX h1).symm}}
 {
 replace h:=Sat.unbundle (l1:= [_,_,_,_]) (l3:= []) h
 replace h:=h.n4
 refine hlv tJ ?_
 refine hln<|htn<|hct<|hrt<|og<|m_<|m_<|og<|Ae ⟨_,rfl,?_⟩
 exact xe.elim}}
 refine hxt<|n_<|n_<|rH<|XK ⟨_,rfl,?_⟩
 exact .inl ⟨s,_,⟨hI,by rw [U,show i= -1 by omega]⟩,Sat.bundle (l1:= [_,_,_,_]) (l2:= []) h⟩
end Go.Proofs.YtpnamgfdakfccaaGreat
namespace Go.Proofs.YtpnamgfdakfccaaGreat
open Go Go.RowKit Go.Proofs.Gw
theorem ZnJ:Zc Om 226=true:=Oc
theorem Zns:Zc Om 282=true:=Oc
theorem uO:ZF Om 241=true:=Oc
structure BX where
  v:Value
  n:Int
  f:Of
theorem Zlh{vV:Value}{u:Int}{pv:Ov}{ln:Of}{pt:Og}{cnt:Of}{gq:Nat}{St:Type}(qc:St->List (List Int))(Inv:St->Prop)(s0:St)(ai:qc s0= [])(am:Inv s0)(w0:World)(ad:iK vV u)(ae:∀k,0<=k->k<u->iK (pv k) (ln k))(af:∀k,0<=k->k<u->ln k<=1000000)(Y:∀k,0<=k->k<u->0<=cnt k/\cnt k<=1000000000):Np (St:=St) (X:=BX) (Tt:=Unit) Om w0 225 [Or gq] [.blk gq [vV],.own vV 2 97 u (Ze pv cnt),.sem (Frame.rows 3 u pv ln pt)] (fun x=> [x.v]) (fun x=> [.own x.v 1 3 x.n (ints x.f)]) (fun s x rest=>Inv s/\iK x.v x.n/\((qc s).length:Int)<jT (fun _=>1) cnt u.toNat/\∃i,0<=i/\i<u/\x.n=ln i/\x.f=pt i) (fun s x s1=>qc s1=qc s++ [lst x.n x.f]/\Inv s1) (fun _ _ _=>False) (s0) (fun s rest=>Inv s/\qc s=Vj ln pt cnt (BD u (-1))) (fun _ _=>False):=by
 intro l C D w h hY
 have hu:=ad.n0;have an:=ad.n1
 refine ZpM Tryz.func225 Tryz.ntmps225 ?_
 refine jw<|hrz ?_
 refine iG (nS (cs:= [_]) h) ?_;rintro _ w ⟨g1,rfl,h⟩
 replace h:=h.n5
 refine iq<|zh<|htn<|jw<|hrz ?_
 refine iI (g_ 1 wE h) ?_
 refine iJ (xc0 ZnJ) (Zli (u:=u) (pv:=pv) (ln:=ln) (pt:=pt) (cnt:=cnt) w (⟨(h.f_ 2 rfl),fun k k0 k1=>h.lI 3 rfl k0 k1,fun k k0 k1=>h.lV 3 rfl k0 k1⟩:tq _ vV u pv ln pt cnt)) ?_;rintro _ w ⟨g2,rfl,F⟩
 replace h:Sat w0 w [.sem (C s0),.blk gq [vV],.own vV 2 97 u (Ze pv cnt),.sem (Frame.rows 3 u pv ln pt),.blk g1 [.func (.yield l) #[] #[]],.blk g2 [vV]]:=h.comp F;clear F
 refine iq<|zh<|htn<|hbk<| ?_
 refine hrf (St:=St×List Int) (X:=Int) (Tt:=Unit) (fun s=> [.sem (C s.1),.blk gq [vV],.blk g1 [.func (.yield l) #[] #[]]]) (fun t=> []) (fun _=> .ret) (s0, []) (fun x M es=>∃(g3:Nat),M= [(0,.func (.yield l) #[] #[]),(1,Or gq),(2,Or g1),(5,vV),(6,.func (.func 282) #[] #[Or g2]),(7,.int Oi x),(8,.agg #[(pv x),.int Oi (cnt x)]),(4,Or g3)]/\es= [.blk g3 [(pv x),.int Oi (cnt x)]]) (Zlj (gq:=g2) (fun s=>s.2) (fun s=>Inv s.1/\qc s.1=Vj ln pt cnt s.2) (s0, []) rfl ⟨am,ai⟩ w0 ad ae) (h.pk [0,1,4,5,2,3]) Zns (fun _=>rfl) (fun _=> .inl rfl) ?_ ?_ ?_ ?_
 {
 intro lq s x rest w qe qG aj h
 obtain⟨⟨ah,ag⟩,W,U,aa⟩:=qe
 have ak:=af x W U;have al:=Y x W U
 replace h:=h.n7
 refine hrz ?_
 refine iG (oh (cs:= [_,_]) Xb h) ?_;rintro _ w ⟨g3,rfl,h⟩
 replace h:=h.n8
 refine lJ (nD 7 Z2 h (hd:=(Za (ae x Oa Oa).one (Za rfl Zj)))) ?_;clear h;rintro w h
 replace h:=h.n8
 refine iq<|zh<|FH ⟨g3,rfl,rfl⟩ h}
 {
 rintro lq s x _ _ rest w qe ⟨g3,rfl,rfl⟩ qG aj h
 obtain⟨⟨ah,ag⟩,W,U,aa⟩:=qe
 have ak:=af x W U;have al:=Y x W U
 replace h:=h.n8
 refine hbk<|jw<|hrz ?_
 refine iI (h_ 1 qN) ?_
 refine iI (g_ 7 dw h) ?_
 refine iI gu ?_
 refine iq<|zh<|htn<|hbk<|hlp (fun mm M w=>∃(O:St) (c:Int),mm=((cnt x-c).toNat)/\(0<=c)/\(c<=cnt x)/\(Inv O)/\(qc O=Vj ln pt cnt s.2++List.replicate c.toNat (lst (ln x) (pt x)))/\M= [(2,Or g1),(4,Or g3),(10,.int Oi (cnt x)),(11,.int Oi c)]/\Sat w0 w [.sem (C O),.blk gq [vV],.blk g1 [.func (.yield l) #[] #[]],.blk g2 [vV],.own vV 2 97 u (Ze pv cnt),.sem (Frame.rows 3 u pv ln pt),.sem qG,.blk g3 [(pv x),.int Oi (cnt x)]]) ⟨s.1,0,rfl,Oa,Oa,?_,?_,rfl,h⟩ ?_
 {
 exact ah}
 {
 rw [ag];simp}
 clear h w
 rintro mm M w ⟨O,c,rfl,c0,c1,ab,J,rfl,h⟩
 refine jw<|hrz ?_
 refine iI Z6 ?_
 refine iq<|zh<|htn<|jw ?_
 refine Yv ?_ ?_<;>intro hc
 {
 refine hsk<|htn<|jw<|hbk<|jw ?_
 refine hdr 6 nP h ?_;clear h;intro w h
 refine hd2 0 1 ?_ ?_
 {
 refine hov (g_ 2 uO h) ?_
 refine hd1 1 ?_
 refine hov (h_ 0 rJ) ?_
 refine hd1 2 ?_
 refine hov (g_ 7 dV h) ?_
 refine hd1 3 ?_
 refine hoc (xc0 oD) (lU (n:=(ln x)) (f:=(pt x)) w (h.lI (k:=x) 5 rfl Oa Oa) Oa) ?_;rintro I w ⟨_,rfl,qb,F⟩
 replace h:Sat w0 w [.sem (C O),.blk gq [vV],.blk g1 [.func (.yield l) #[] #[]],.blk g2 [vV],.own vV 2 97 u (Ze pv cnt),.sem (Frame.rows 3 u pv ln pt),.sem qG,.blk g3 [(pv x),.int Oi (cnt x)],.own I 1 3 (ln x) (ints (pt x))]:=h.comp F;clear F
 refine hd1 4 ?_
 replace h:=h.pk [0,1,4,5,2,3,6,7,8]
 replace h:=h.n9
 replace h:=h.pk [0,1,2,3,8,4,5,6,7]
 replace h:=h.n9
 refine hoy (hY O ⟨I,ln x,pt x⟩ _ w ⟨ab,qb,by rw [J,aa];exact TO (fun k k0 k1=>(Y k k0 k1).1) W U c0 Oa,x,W,U,rfl,rfl⟩ (Sat.bundle (l1:= [_,_,_,_,_]) h)) ?_;rintro _ w (⟨rfl,N,Z,h⟩|⟨rfl,ac,xe,h⟩)
 {
 replace h:=Sat.unbundle (l1:= [_,_,_,_]) (l3:= []) h
 replace h:=h.n8
 refine hd1 5 ?_
 refine hov tH ?_
 refine hd0<|htn<|hcf<|hsk<|ng<|htn<|hrz ?_
 refine iI (Zg (r:=c+1)) ?_
 refine iI gu ?_
 refine iq<|zh<|hlq ⟨N,c+1,rfl,Oa,Oa,?_,?_,rfl,h.pk [0,1,4,5,2,3,6,7]⟩
 {
 exact Z.2}
 {
 rw [Z.1,J,show(c+1).toNat=c.toNat+1 by omega,List.replicate_succ',List.append_assoc]}}
 {
 replace h:=Sat.unbundle (l1:= [_,_,_,_]) (l3:= []) h
 replace h:=h.n8
 refine hd1 5 ?_
 refine hov tJ ?_
 refine hd0<|htn<|hct<|hrt<|og<|m_<|m_<|og<|og<|FK () xe.elim rfl (h.pk [5,2,3,6])}}
 {
 refine hov (h_ 0 rJ) ?_
 refine hd2 0 2 ?_ ?_
 {
 refine hov (g_ 2 uO h) ?_
 refine hd1 2 ?_
 refine hov (g_ 7 dV h) ?_
 refine hd1 3 ?_
 refine hoc (xc0 oD) (lU (n:=(ln x)) (f:=(pt x)) w (h.lI (k:=x) 5 rfl Oa Oa) Oa) ?_;rintro I w ⟨_,rfl,qb,F⟩
 replace h:Sat w0 w [.sem (C O),.blk gq [vV],.blk g1 [.func (.yield l) #[] #[]],.blk g2 [vV],.own vV 2 97 u (Ze pv cnt),.sem (Frame.rows 3 u pv ln pt),.sem qG,.blk g3 [(pv x),.int Oi (cnt x)],.own I 1 3 (ln x) (ints (pt x))]:=h.comp F;clear F
 refine hd1 4 ?_
 replace h:=h.pk [0,1,4,5,2,3,6,7,8]
 replace h:=h.n9
 replace h:=h.pk [0,1,2,3,8,4,5,6,7]
 replace h:=h.n9
 refine hoy (hY O ⟨I,ln x,pt x⟩ _ w ⟨ab,qb,by rw [J,aa];exact TO (fun k k0 k1=>(Y k k0 k1).1) W U c0 Oa,x,W,U,rfl,rfl⟩ (Sat.bundle (l1:= [_,_,_,_,_]) h)) ?_;rintro _ w (⟨rfl,N,Z,h⟩|⟨rfl,ac,xe,h⟩)
 {
 replace h:=Sat.unbundle (l1:= [_,_,_,_]) (l3:= []) h
 replace h:=h.n8
 refine hd1 5 ?_
 refine hov tH ?_
 refine hd0<|htn<|hcf<|hsk<|ng<|htn<|hrz ?_
 refine iI (Zg (r:=c+1)) ?_
 refine iI gu ?_
 refine iq<|zh<|hlq ⟨N,c+1,rfl,Oa,Oa,?_,?_,rfl,h.pk [0,1,4,5,2,3,6,7]⟩
 {
 exact Z.2}
 {
 rw [Z.1,J,show(c+1).toNat=c.toNat+1 by omega,List.replicate_succ',List.append_assoc]}}
 {
 replace h:=Sat.unbundle (l1:= [_,_,_,_]) (l3:= []) h
 replace h:=h.n8
 refine hd1 5 ?_
 refine hov tJ ?_
 refine hd0<|htn<|hct<|hrt<|og<|m_<|m_<|og<|og<|FK () xe.elim rfl (h.pk [5,2,3,6])}}
 {
 refine hov (g_ 7 dV h) ?_
 refine hd2 0 3 ?_ ?_
 {
 refine hov (g_ 2 uO h) ?_
 refine hd1 3 ?_
 refine hoc (xc0 oD) (lU (n:=(ln x)) (f:=(pt x)) w (h.lI (k:=x) 5 rfl Oa Oa) Oa) ?_;rintro I w ⟨_,rfl,qb,F⟩
 replace h:Sat w0 w [.sem (C O),.blk gq [vV],.blk g1 [.func (.yield l) #[] #[]],.blk g2 [vV],.own vV 2 97 u (Ze pv cnt),.sem (Frame.rows 3 u pv ln pt),.sem qG,.blk g3 [(pv x),.int Oi (cnt x)],.own I 1 3 (ln x) (ints (pt x))]:=h.comp F;clear F
 refine hd1 4 ?_
 replace h:=h.pk [0,1,4,5,2,3,6,7,8]
 replace h:=h.n9
 replace h:=h.pk [0,1,2,3,8,4,5,6,7]
 replace h:=h.n9
 refine hoy (hY O ⟨I,ln x,pt x⟩ _ w ⟨ab,qb,by rw [J,aa];exact TO (fun k k0 k1=>(Y k k0 k1).1) W U c0 Oa,x,W,U,rfl,rfl⟩ (Sat.bundle (l1:= [_,_,_,_,_]) h)) ?_;rintro _ w (⟨rfl,N,Z,h⟩|⟨rfl,ac,xe,h⟩)
 {
 replace h:=Sat.unbundle (l1:= [_,_,_,_]) (l3:= []) h
 replace h:=h.n8
 refine hd1 5 ?_
 refine hov tH ?_
 refine hd0<|htn<|hcf<|hsk<|ng<|htn<|hrz ?_
 refine iI (Zg (r:=c+1)) ?_
 refine iI gu ?_
 refine iq<|zh<|hlq ⟨N,c+1,rfl,Oa,Oa,?_,?_,rfl,h.pk [0,1,4,5,2,3,6,7]⟩
 {
 exact Z.2}
 {
 rw [Z.1,J,show(c+1).toNat=c.toNat+1 by omega,List.replicate_succ',List.append_assoc]}}
 {
 replace h:=Sat.unbundle (l1:= [_,_,_,_]) (l3:= []) h
 replace h:=h.n8
 refine hd1 5 ?_
 refine hov tJ ?_
 refine hd0<|htn<|hct<|hrt<|og<|m_<|m_<|og<|og<|FK () xe.elim rfl (h.pk [5,2,3,6])}}
 {
 refine hoc (xc0 oD) (lU (n:=(ln x)) (f:=(pt x)) w (h.lI (k:=x) 5 rfl Oa Oa) Oa) ?_;rintro I w ⟨_,rfl,qb,F⟩
 replace h:Sat w0 w [.sem (C O),.blk gq [vV],.blk g1 [.func (.yield l) #[] #[]],.blk g2 [vV],.own vV 2 97 u (Ze pv cnt),.sem (Frame.rows 3 u pv ln pt),.sem qG,.blk g3 [(pv x),.int Oi (cnt x)],.own I 1 3 (ln x) (ints (pt x))]:=h.comp F;clear F
 refine hd1 0 ?_
 refine hov (g_ 2 uO h) ?_
 refine hd1 4 ?_
 replace h:=h.pk [0,1,4,5,2,3,6,7,8]
 replace h:=h.n9
 replace h:=h.pk [0,1,2,3,8,4,5,6,7]
 replace h:=h.n9
 refine hoy (hY O ⟨I,ln x,pt x⟩ _ w ⟨ab,qb,by rw [J,aa];exact TO (fun k k0 k1=>(Y k k0 k1).1) W U c0 Oa,x,W,U,rfl,rfl⟩ (Sat.bundle (l1:= [_,_,_,_,_]) h)) ?_;rintro _ w (⟨rfl,N,Z,h⟩|⟨rfl,ac,xe,h⟩)
 {
 replace h:=Sat.unbundle (l1:= [_,_,_,_]) (l3:= []) h
 replace h:=h.n8
 refine hd1 5 ?_
 refine hov tH ?_
 refine hd0<|htn<|hcf<|hsk<|ng<|htn<|hrz ?_
 refine iI (Zg (r:=c+1)) ?_
 refine iI gu ?_
 refine iq<|zh<|hlq ⟨N,c+1,rfl,Oa,Oa,?_,?_,rfl,h.pk [0,1,4,5,2,3,6,7]⟩
 {
 exact Z.2}
 {
 rw [Z.1,J,show(c+1).toNat=c.toNat+1 by omega,List.replicate_succ',List.append_assoc]}}
 {
 replace h:=Sat.unbundle (l1:= [_,_,_,_]) (l3:= []) h
 replace h:=h.n8
 refine hd1 5 ?_
 refine hov tJ ?_
 refine hd0<|htn<|hct<|hrt<|og<|m_<|m_<|og<|og<|FK () xe.elim rfl (h.pk [5,2,3,6])}}}}}
 refine hxt<|n_<|n_<|rH<|ng<|D6 (O,s.2++ [x]) ⟨rfl,ab,by show qc O=_;rw [J,RP,show c.toNat=(cnt x).toNat by omega]⟩ (h.pk [0,1,2,3,4,5,6])}
 {
 intro Dk s rest w qr h
 replace h:=h.n8
 refine ng<|ZpK 7 h fun w h=>XK ⟨_,rfl,?_⟩
 replace h:=h.pk [0,1,4,5,2,3,6,7]
 exact .inl ⟨s.1,_,⟨qr.1.1,by rw [qr.1.2,qr.2]⟩,Sat.bundle (l1:= [_,_,_,_]) h⟩}
 {
 intro Dk t rest w qr h
 replace h:=h.n5
 exact qr.elim}
theorem ZiJ{vV:Value}{u:Int}{pv:Ov}{ln:Of}{pt:Og}{cnt:Of}(w0:World)(D:tq w0 vV u pv ln pt cnt):
   Calls Om 151 [vV].toArray w0 fun e w=>∃v,e= .returned v/\∃g,v= .func (.func 225) #[] #[Or g]/\Sat w0 w [.blk g [vV]]:=by
 refine iE Tryz.func151 Tryz.ntmps151 fun w h=> ?_
 refine fQ<|iG (nS (cs:= [_]) h (hc:=iK.cells D.row.fP)) ?_;rintro _ w ⟨F,rfl,h⟩
 refine(zP)<|iT<|(zV wX)<|(zP)<|jk<|Oj ?_
 exact⟨_,rfl,h⟩
def tA(a m:List Int):List Int:=List.zipWith (fun x y=>x-min x y) a m
def tM(a m:List Int):List Int:=List.zipWith (fun x y=>y-min x y) a m
def WZ(s:List Int×Us)(a:List Int):List Int×Us:=(tM a s.1,if(tA a s.1).any (fun x=>decide (0<x)) then s.2++ [(tA a s.1,1)] else s.2)
def UI(m0:List Int)(h:List (List Int)):List Int×Us:=h.foldl WZ (m0, [])
theorem Kf(D:List Int)(h:List (List Int))(a:List Int):UI D (h++ [a])=WZ (UI D h) a:=by simp [UI]
theorem XY(F:Og)(n:Int)(f g:Of):List.zipWith F (lst n f) (lst n g)=lst n fun k=>F (f k) (g k):=by
 apply List.ext_getElem?
 intro k
 rw [List.getElem?_zipWith,lY,lY,lY]
 by_cases hk:(k:Int)<n
 · rw [if_pos hk,if_pos hk,if_pos hk]
 · rw [if_neg hk,if_neg hk,if_neg hk]
theorem UB{n:Int}{f:Of}:(lst n f).any (fun x=>decide (0<x))=true↔∃k,0<=k/\k<n/\0<f k:=by
 rw [List.any_eq_true]
 constructor
 {
 rintro⟨x,D,N⟩
 unfold lst at D
 obtain⟨k,J,rfl⟩:=List.mem_map.1 D
 have:=List.mem_range.1 J
 exact⟨(k:Int),Oa,Oa,by simpa using N⟩}
 {
 rintro⟨k,I,F,h⟩
 refine⟨f k,?_,by simpa using h⟩
 have:=lY n f k.toNat
 rw [Int.toNat_of_nonneg I,if_pos F] at this
 exact List.mem_of_getElem? this}
def U7(l:Us):List (List Int):=l.reverse.flatMap fun u=>List.replicate u.2.toNat u.1
theorem K1(u:Int):∀t:Nat,U1 (u+1) (t+1)=u::U1 u t
 |0=>by simp [U1]
 | t+1=>by
   rw [U1,K1 u t,U1,List.cons_append]
   congr 2
   congr 1
   push_cast;omega
theorem Zgh(ln:Of)(pt:Og)(cnt:Of){n:Int}(n0:0<=n):Vj ln pt cnt (BD n (-1))=U7 (nY n ln pt cnt):=by
 obtain⟨k,rfl⟩:=Int.eq_ofNat_of_zero_le n0
 have e:∀k:Nat,(U1 (k:Int) k).map (fun i=>(lst (ln i) (pt i),cnt i))=(nY (k:Int) ln pt cnt).reverse:=by
   intro k
   induction k with
   |zero=>simp [U1,nY]
   |succ k ih=>rw [show((k+1:Nat):Int)=(k:Int)+1 by omega,K1,List.map_cons,ih,Wp Oa,List.reverse_append];rfl
 unfold Vj U7 BD
 rw [show((k:Int)-1-(-1)).toNat=k by omega,<-e k,List.flatMap_map]
structure FV where
  h:List (List Int)
  M:Of
  vO:Value
  n:Int
  vv:Ov
  P:Og
  C:Of
def CU(p:cO)(m0:List Int)(s:FV):Prop:=(lst p.m s.M,nY s.n (fun _=>p.m) s.P s.C)=UI m0 s.h/\iK s.vO s.n/\(∀k,0<=k->k<p.m->0<=s.M k/\s.M k<=2000000000)/\s.n<=s.h.length/\∀k,0<=k->k<s.n->s.C k=1
theorem CU.yes{p:cO}{O:List Int}{s:FV}{a a2 M2:Of}(W:(lst p.m s.M,nY s.n (fun _=>p.m) s.P s.C)=UI O s.h)(n0:0<=s.n)(Y:∀k,0<=k->k<p.m->a2 k=a k-min (a k) (s.M k))(hM:∀k,0<=k->k<p.m->M2 k=s.M k-min (a k) (s.M k))(U:∃k,0<=k/\k<p.m/\0<a2 k){J:Og}{N:Of}(Z:∀k,0<=k->k<s.n->J k=s.P k)(F:J s.n=a2)(hC:∀k,0<=k->k<s.n->N k=s.C k)(I:N s.n=1):
   (lst p.m M2,nY (s.n+1) (fun _=>p.m) J N)=UI O (s.h++ [lst p.m a]):=by
 rw [Kf,<-W]
 unfold WZ tM tA
 dsimp only
 rw [XY,XY,Yn (f:=fun k=>a k-min (a k) (s.M k)) (g:=a2) fun k D h=>(Y k D h).symm,if_pos (UB.2 U),Yn (f:=fun k=>s.M k-min (a k) (s.M k)) (g:=M2) fun k D h=>(hM k D h).symm]
 congr 1
 exact Rj (ln:=fun _=>p.m) n0 (fun k D h=>⟨rfl,hC k D h,Z k D h⟩) rfl I F
theorem CU.no{p:cO}{I:List Int}{s:FV}{a a2 M2:Of}(N:(lst p.m s.M,nY s.n (fun _=>p.m) s.P s.C)=UI I s.h)(O:∀k,0<=k->k<p.m->a2 k=a k-min (a k) (s.M k))(hM:∀k,0<=k->k<p.m->M2 k=s.M k-min (a k) (s.M k))(J:¬∃k,0<=k/\k<p.m/\0<a2 k):
   (lst p.m M2,nY s.n (fun _=>p.m) s.P s.C)=UI I (s.h++ [lst p.m a]):=by
 rw [Kf,<-N]
 unfold WZ tM tA
 dsimp only
 rw [XY,XY,Yn (f:=fun k=>a k-min (a k) (s.M k)) (g:=a2) fun k F D=>(O k F D).symm,if_neg (fun h=>J (UB.1 h)),Yn (f:=fun k=>s.M k-min (a k) (s.M k)) (g:=M2) fun k F D=>(hM k F D).symm]
def AB(p:cO)(u:Int)(ln:Of)(pt:Og)(cnt:Of)(out:Us)(e:Int):Prop:=
  (¬nM p u ln pt cnt/\out= []/\e=1)\/(nM p u ln pt cnt/\¬(∀j,0<=j->j<p.m->p.D j<=ZJ u pt cnt j)/\out= []/\e=18)\/
  (nM p u ln pt cnt/\(∀j,0<=j->j<p.m->p.D j<=ZJ u pt cnt j)/\e=0/\∃N,pX (nY u ln pt cnt) N/\pX (UI (lst p.m fun j=>ZJ u pt cnt j-p.D j) (U7 N)).2 out)
theorem Zfx{p:cO}{u n2:Int}{ln cnt tV qm:Of}{pt tN:Og}(h:nM p u ln pt cnt)(Z:pX (nY u ln pt cnt) (nY n2 tV tN qm))(D:∀k,0<=k->k<n2->0<=tV k):∀k,0<=k->k<n2->tV k=p.m/\∀j,0<=j->j<p.m->0<=tN k j/\tN k j<=2000:=by
 intro k J I
 have Y:(lst (tV k) (tN k),qm k)∈nY n2 tV tN qm:=List.mem_iff_getElem?.2 ⟨k.toNat,by rw [nH,Int.toNat_of_nonneg J,if_pos I]⟩
 obtain⟨y,U,F⟩:=Z.keys _ Y
 obtain⟨i,hi⟩:=List.mem_iff_getElem?.1 U
 rw [nH] at hi
 split at hi
 {
 rename_i hlt
 injection hi with hi
 obtain⟨_,_,hf⟩:=h.2.2 i Oa hlt
 have W:=h.1.m1
 rw [<-hi] at F
 dsimp only at F
 obtain⟨q1,O⟩:=(UT (by have:=hf.eq;omega) (D k J I)).1 F
 refine⟨by have:=hf.eq;omega,fun j N j1=> ?_⟩
 rw [<-O j N (by have:=hf.eq;omega)]
 exact hf.all j N (by have:=hf.eq;omega)}
 · cases hi
theorem Zfy{p:cO}{u n2:Int}{ln cnt tV qm:Of}{pt tN:Og}(D:0<=u)(n0:0<=n2)(h:nM p u ln pt cnt)(F:pX (nY u ln pt cnt) (nY n2 tV tN qm)):jT (fun _=>1) qm n2.toNat<=1000000:=by
 have h1:=F.ni fun _=>1
 rw [Ya _ D,Ya _ n0] at h1
 rw [h1]
 have key:∀t:Nat,(t:Int)<=u->jT (fun _=>1) cnt t<=1000*t:=by
   intro t
   induction t with
   |zero=>intro _;simp [jT]
   |succ t ih=>intro I;have:=ih Oa;have:=(h.2.2 t Oa Oa).2.1;simp only [jT];push_cast;omega
 have N:=key u.toNat Oa
 have J:=h.2.1
 omega
theorem RE{p:cO}(F:p.Ok){k:Int}(D:0<=k)(h:k<p.m):0<=p.D k/\p.D k<=1000:=by
 have I:=F.all k D h
 unfold cO.each at I;omega
theorem Zfn{C:Of}{n:Int}(h:∀k,0<=k->k<n->C k=1):∀k,0<=k->k<n+1->snoc C n 1 k=1:=fun k D F=>by
 by_cases e:k<n
 · rw [Zt e];exact h k D e
 · exact Zu e
theorem Zn6:Zc Om 152=true:=Oc
theorem Zop{x:Int}(w0:World):
   Calls Om 152 [.int Oi x].toArray w0 fun e w=>∃v,e= .returned v/\v=B (0<x)/\Sat w0 w []:=by
 refine iE Tryz.func152 Tryz.ntmps152 fun w h=> ?_
 refine fQ<|(zP)<|iT<|(Oo)<|jk<|Oj ?_
 exact⟨Zm Oa,h⟩
theorem ZkZ{v:Value}{n:Int}{f:Of}(w0:World)(F:Row w0 v 1 n (ints f)):
   Calls Om 147 [v,.func (.func 152) #[] #[]].toArray w0 fun e w=>∃v,e= .returned v/\∃r:Int,v= .int Oi r/\((r= -1/\∀k,0<=k->k<n->¬(0<f k))\/(0<=r/\r<n/\(0<f r)/\∀k,0<=k->k<r->¬(0<f k)))/\Sat w0 w []:=by
 have hn:=F.fP.n0;have W:=F.fP.n1
 refine iE Tryz.func147 Tryz.ntmps147 fun w h=> ?_
 refine fQ<|(zP)<|l9<|(zP)<|(zV (iW Zb F.fP))<|(zP)<|nI<|ny (fun U M w=>∃(i:Int),U=((n-i).toNat)/\(0<=i)/\(i<=n)/\(∀k,0<=k->k<i->¬(0<f k))/\M= [(0,v),(1,.func (.func 152) #[] #[]),(7,.int Oi n),(8,.int Oi i)]/\Sat w0 w []) ⟨0,rfl,Oa,Oa,?_,rfl,h⟩ ?_
 {
 intro k O h1;omega}
 clear h w
 rintro U M w ⟨i,rfl,O,h1,I,rfl,h⟩
 refine fQ<|(zP)<|nG<|Zf ?_ ?_<;>intro hc
 {
 refine oC<|(On)<|iT<|(Oo)<|(zV (iy (kk:=i) Zb F.fP))<|(zV (iR (u:= .int Oi (f i)) dw (F.below h.below)))<|iJ (xc0 Zn6) (Zop (x:=(f i)) w) ?_;rintro _ w ⟨rfl,D⟩
 replace h:=h.cmp D;clear D
 refine ig<|Zf ?_ ?_<;>intro hc
 {
 refine fQ<|(On)<|sG<|Oj ?_
 exact⟨i,rfl,.inr ⟨by omega,Oa,‹0<f i›,I⟩,h⟩}
 refine rU<|(zV (Zg (r:=i+1)))<|(zP)<|iq<|jm ⟨i+1,rfl,Oa,Oa,?_,rfl,h⟩
 {
 intro k N Y;rcases Int.lt_or_eq_of_le (show k<=i by omega) with J|J;exact I k N J;rw [J];assumption}}
 refine oM<|(zP)<|jk<|Oj ?_
 exact⟨-1,rfl,.inl ⟨rfl,fun k O h1=>I k O Oa⟩,h⟩
theorem Zla{v:Value}{n:Int}{f:Of}(w0:World)(J:Row w0 v 1 n (ints f)):
   Calls Om 90 [v,.func (.func 152) #[] #[]].toArray w0 fun e w=>∃v,e= .returned v/\v=B (∃k,0<=k/\k<n/\0<f k)/\Sat w0 w []:=by
 refine iE Tryz.func90 Tryz.ntmps90 fun w F=> ?_
 refine fQ<|(zP)<|iT<|(On)<|iJ (xc0 WP) (ZkZ (n:=n) (f:=f) w (J.below F.below)) ?_;rintro _ w ⟨W,rfl,I,D⟩
 replace F:=F.cmp D;clear D
 refine(On)<|jk<|Oj ?_
 exact⟨Zm (by
  rcases I with⟨h1,h2⟩|⟨h1,h2,h3,_⟩
  · exact⟨fun h=>Oa,fun⟨k,U,O,N⟩=>absurd N (h2 k U O)⟩
  · exact⟨fun _=>⟨_,h1,h2,h3⟩,fun _=>h1⟩),F⟩
end Go.Proofs.YtpnamgfdakfccaaGreat
