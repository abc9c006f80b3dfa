import Derived.Test.YtpnamgfdakfccaaGreatTmC
import Derived.OrdersIn
set_option linter.unusedVariables false
set_option linter.unusedSimpArgs false
set_option maxRecDepth 20000
set_option maxHeartbeats 4000000
namespace Go.Proofs.Gw
variable {c e hi i j k lo m mid x y z:Int} {a b t:Of}
def PermOn(lo hi:Int)(a b:Of):Prop:=∃p q:Of,(∀k,p (q k)=k/\q (p k)=k)/\(∀k,¬(lo<=k/\k<hi)->p k=k)/\∀k,b k=a (p k)
theorem PermOn.refl(lo hi:Int)(a:Of):PermOn lo hi a a:=⟨id,id,fun _=>⟨rfl,rfl⟩,fun _ _=>rfl,fun _=>rfl⟩
theorem PermOn.trans{c:Of}(h:PermOn lo hi a b)(k:PermOn lo hi b c):PermOn lo hi a c:=by
 obtain⟨p,q,h1,h2,h3⟩:=h
 obtain⟨p',q',k1,k2,k3⟩:=k
 refine⟨fun x=>p (p' x),fun x=>q' (q x),fun x=>⟨?_,?_⟩,fun x hx=> ?_,fun x=> ?_⟩
 · show p (p' (q' (q x)))=x
   rw [(k1 _).1,(h1 _).1]
 · show q' (q (p (p' x)))=x
   rw [(h1 _).2,(k1 _).2]
 · show p (p' x)=x
   rw [k2 x hx,h2 x hx]
 · rw [k3,h3]
theorem PermOn.mono{lo' hi':Int}(h:PermOn lo hi a b)(h0:lo'<=lo)(h1:hi<=hi'):PermOn lo' hi' a b:=by
 obtain⟨p,q,h2,h3,h4⟩:=h
 exact⟨p,q,h2,fun k hk=>h3 k Oa,h4⟩
theorem PermOn.out(h:PermOn lo hi a b)(hk:¬(lo<=k/\k<hi)):b k=a k:=by
 obtain⟨p,q,h2,h3,h4⟩:=h
 rw [h4,h3 k hk]
theorem PermOn.fr(h:PermOn lo hi a b)(k0:lo<=k)(k1:k<hi):∃j,lo<=j/\j<hi/\b k=a j:=by
 obtain⟨p,q,h2,h3,h4⟩:=h
 by_cases hj:lo<=p k/\p k<hi
 · exact⟨p k,hj.1,hj.2,h4 k⟩
 · have h5:=h3 (p k) hj
   have h6:p k=k:=by
     have:=congrArg q h5
     rw [(h2 _).2,(h2 _).2] at this;exact this
   rw [h6] at hj
   exact absurd ⟨k0,k1⟩ hj
theorem PermOn.symm{lo hi:Int}{a b:Of}(h:PermOn lo hi a b):PermOn lo hi b a:=by
 obtain⟨p,q,h2,h3,h4⟩:=h
 refine⟨q,p,fun k=>⟨(h2 k).2,(h2 k).1⟩,fun k hk=> ?_,fun k=> ?_⟩
 · have:=congrArg q (h3 k hk)
   rw [(h2 k).2] at this;exact this.symm
 · rw [h4,(h2 k).1]
def swp(a:Of)(i j:Int):Of:=fun k=>if k=i then a j else if k=j then a i else a k
theorem Tz(i0:lo<=i)(i1:i<hi)(j0:lo<=j)(j1:j<hi):PermOn lo hi a (swp a i j):=by
 have e:∀k,(fun k=>if k=i then j else if k=j then i else k:Of) ((fun k=>if k=i then j else if k=j then i else k:Of) k)=k:=fun k=>by
   dsimp only;split<;>(try split)<;>(try split)<;>(try split)<;>omega
 refine⟨fun k=>if k=i then j else if k=j then i else k,fun k=>if k=i then j else if k=j then i else k,fun k=>⟨e k,e k⟩,fun k hk=> ?_,fun k=> ?_⟩
 · dsimp only;rw [if_neg Oa,if_neg Oa]
 · unfold swp;dsimp only;split
   · rfl
   · split<;>rfl
def Srt(R:Int->Int->Prop)(lo hi:Int)(a:Of):Prop:=∀i j,lo<=i->i<j->j<hi->R (a i) (a j)
theorem Srt.mono{R:Int->Int->Prop}{lo' hi':Int}(h:Srt R lo hi a)(h0:lo<=lo')(h1:hi'<=hi):Srt R lo' hi' a:=fun i j i0 ij j1=>h i j Oa ij Oa
theorem Srt.congr{R:Int->Int->Prop}(h:Srt R lo hi a)(e:∀k,lo<=k->k<hi->b k=a k):Srt R lo hi b:=fun i j i0 ij j1=>by
 rw [e i i0 Oa,e j Oa j1];exact h i j i0 ij j1
def Tie(lt:Int->Int->Prop):Int->Int->Prop:=fun x y=>lt x y\/(¬lt y x/\x<y)
structure Swo (lt:Int->Int->Prop):Prop where
  asym:∀x y,lt x y->¬lt y x
  trans:∀x y z,lt x y->lt y z->lt x z
  inc:∀x y z,¬lt x y->¬lt y z->¬lt x z
theorem Tie.trans{lt:Int->Int->Prop}(h:Swo lt){x y z:Int}(a:Tie lt x y)(b:Tie lt y z):Tie lt x z:=by
 rcases a with a|⟨a1,a2⟩<;>rcases b with b|⟨b1,b2⟩
 · exact .inl (h.trans _ _ _ a b)
 · left;exact Classical.byContradiction fun hn=>h.inc _ _ _ hn b1 a
 · left;exact Classical.byContradiction fun hn=>h.inc _ _ _ a1 hn b
 · exact .inr ⟨h.inc _ _ _ b1 a1,Oa⟩
theorem Tie.of{lt:Int->Int->Prop}(h:Swo lt)(hxy:x<y)(hn:¬lt y x):Tie lt x y:=by
 by_cases hl:lt x y
 · exact .inl hl
 · exact .inr ⟨hn,hxy⟩
def Parted(lo c hi:Int)(a:Of):Prop:=∀i j,lo<=i->i<c->c<=j->j<hi->a i<a j
def U9(lo hi:Int)(a:Of):Prop:=∀i j,lo<=i->i<j->j<hi->a i<a j
structure Ins (lt:Int->Int->Prop) (lo i j:Int) (a b:Of):Prop where
  perm:PermOn lo (i+1) a b
  rest:∀p q,lo<=p->p<q->q<=i->p≠j->q≠j->Tie lt (b p) (b q)
  less:∀q,j<q->q<=i->Tie lt (b j) (b q)
  big:∀p,lo<=p->p<j->b p<b j
theorem Ins.start{lt:Int->Int->Prop}(i0:lo<=i)(hs:Srt (Tie lt) lo i a)(hb:∀p,lo<=p->p<i->a p<a i):Ins lt lo i i a a:=
 ⟨.refl _ _ _,fun p q p0 pq q1 pi qi=>hs p q p0 pq Oa,fun q q0 q1=>Oa,hb⟩
theorem Ins.step{lt:Int->Int->Prop}(j0:lo<j)(j1:j<=i)(h:Ins lt lo i j a b)(hl:lt (b j) (b (j-1))):Ins lt lo i (j-1) a (swp b j (j-1)):=by
 have e0:swp b j (j-1) j=b (j-1):=by unfold swp;rw [if_pos rfl]
 have e1:swp b j (j-1) (j-1)=b j:=by unfold swp;rw [if_neg Oa,if_pos rfl]
 have e2:∀k,k≠j->k≠j-1->swp b j (j-1) k=b k:=fun k h1 h2=>by unfold swp;rw [if_neg h1,if_neg h2]
 refine⟨h.perm.trans (Tz Oa Oa Oa Oa),fun p q p0 pq q1 pj qj=> ?_,fun q q0 q1=> ?_,fun p p0 p1=> ?_⟩
 · by_cases hp:p=j
   · rw [hp,e0,e2 q Oa qj];exact h.rest (j-1) q Oa Oa q1 Oa Oa
   · rw [e2 p hp pj]
     by_cases hq:q=j
     · rw [hq,e0];exact h.rest p (j-1) p0 Oa Oa hp Oa
     · rw [e2 q hq qj];exact h.rest p q p0 pq q1 hp hq
 · rw [e1]
   by_cases hq:q=j
   · rw [hq,e0];exact .inl hl
   · rw [e2 q hq Oa];exact h.less q Oa q1
 · rw [e1,e2 p Oa Oa];exact h.big p p0 Oa
theorem Ins.fin{lt:Int->Int->Prop}(hw:Swo lt)(j0:lo<=j)(j1:j<=i)(h:Ins lt lo i j a b)(hl:j=lo\/¬lt (b j) (b (j-1))):Srt (Tie lt) lo (i+1) b:=fun p q p0 pq q1=>by
 have hle:∀p,lo<=p->p<j->Tie lt (b p) (b j):=fun p p0 p1=>by
   rcases hl with hl|hl
   · omega
   · have h1:Tie lt (b (j-1)) (b j):=Tie.of hw (h.big (j-1) Oa Oa) hl
     by_cases hp:p=j-1
     · rw [hp];exact h1
     · exact(h.rest p (j-1) p0 Oa Oa Oa Oa).trans hw h1
 by_cases hp:p=j
 · rw [hp];exact h.less q Oa Oa
 · by_cases hq:q=j
   · rw [hq];exact hle p p0 Oa
   · exact h.rest p q p0 pq Oa hp hq
def swr(a:Of)(x y n:Int):Of:=fun k=>if x<=k/\k<x+n then a (k-x+y) else if y<=k/\k<y+n then a (k-y+x) else a k
theorem Zbs(a:Of)(x y:Int):swr a x y 0=a:=by
 funext k;unfold swr;rw [if_neg Oa,if_neg Oa]
theorem Zbt (h0:0<=i) (h:x+i<y\/y+i<x) (hd:x+i<y\/y+i<x) (hx:x<=y):swp (swr a x y i) (x+i) (y+i)=swr a x y (i+1):=by
 funext k;unfold swp swr
 by_cases h1:k=x+i
 · subst h1
   rw [if_pos rfl,if_neg Oa,if_neg Oa,if_pos Oa];congr 1<;>omega
 · rw [if_neg h1]
   by_cases h2:k=y+i
   · subst h2
     rw [if_pos rfl,if_neg Oa,if_neg Oa,if_neg Oa,if_pos Oa];congr 1<;>omega
   · rw [if_neg h2]
     by_cases h3:x<=k/\k<x+i
     · rw [if_pos h3,if_pos Oa]
     · rw [if_neg h3]
       by_cases h4:y<=k/\k<y+i
       · rw [if_pos h4,if_neg Oa,if_pos Oa]
       · rw [if_neg h4,if_neg Oa,if_neg Oa]
def rot(a:Of)(lo c hi:Int):Of:=fun k=>if lo<=k/\k<lo+(hi-c) then a (k+(c-lo)) else if lo+(hi-c)<=k/\k<hi then a (k-(hi-c)) else a k
theorem VT (h0:1<=j) (h:j<i):rot (swr a (c-i) c j) (c-i+j) c (c+j)=rot a (c-i) c (c+j):=by
 funext k;unfold rot swr
 by_cases h1:c-i<=k/\k<c-i+j
 · rw [if_neg Oa,if_neg Oa,if_pos h1,if_pos Oa];congr 1<;>omega
 · by_cases h2:c-i+j<=k/\k<c-i+j+j
   · rw [if_pos Oa,if_neg (show¬(c-i<=k/\k<c-i+(c+j-c)) by omega),if_pos (show c-i+(c+j-c)<=k/\k<c+j by omega)]
     by_cases h3:c-i<=k+(c-(c-i+j))/\k+(c-(c-i+j))<c-i+j
     · exfalso;omega
     · rw [if_neg h3]
       by_cases h4:c<=k+(c-(c-i+j))/\k+(c-(c-i+j))<c+j
       · rw [if_pos h4];congr 1<;>omega
       · exfalso;omega
   · by_cases h3:c-i+j+j<=k/\k<c+j
     · rw [if_neg (by(try omega)),if_pos (by(try omega)),if_neg (by(try omega)),if_neg (by(try omega)),if_neg (by(try omega)),if_pos (by(try omega))]
     · rw [if_neg Oa,if_neg Oa,if_neg Oa,if_neg Oa,if_neg Oa,if_neg Oa]
theorem W9(h0:1<=i)(h:i<j):rot (swr a (c-i) (c+j-i) i) (c-i) c (c+j-i)=rot a (c-i) c (c+j):=by
 funext k;unfold rot swr
 by_cases h1:c-i<=k/\k<c+j-i-i
 · rw [if_pos Oa,if_neg Oa,if_neg Oa,if_pos Oa]
 · by_cases h2:c+j-i-i<=k/\k<c+j-i
   · by_cases h5:k<c-i
     · exfalso;omega
     · rw [if_neg Oa,if_pos Oa,if_pos Oa,if_pos Oa];congr 1<;>omega
   · by_cases h3:c+j-i<=k/\k<c+j
     · rw [if_neg Oa,if_neg Oa,if_neg Oa,if_pos Oa,if_neg Oa,if_pos Oa];congr 1<;>omega
     · rw [if_neg Oa,if_neg Oa,if_neg Oa,if_neg Oa,if_neg Oa,if_neg Oa]
theorem ZbH(h0:0<=i):swr a (c-i) c i=rot a (c-i) c (c+i):=by
 funext k;unfold rot swr
 by_cases h1:c-i<=k/\k<c
 · rw [if_pos Oa,if_pos Oa];congr 1<;>omega
 · by_cases h2:c<=k/\k<c+i
   · rw [if_neg Oa,if_pos Oa,if_neg Oa,if_pos Oa];congr 1<;>omega
   · rw [if_neg Oa,if_neg Oa,if_neg Oa,if_neg Oa]
theorem Ys(h0:lo<=c)(h1:c<=hi):PermOn lo hi a (rot a lo c hi):=by
 refine⟨fun k=>if lo<=k/\k<lo+(hi-c) then k+(c-lo) else if lo+(hi-c)<=k/\k<hi then k-(hi-c) else k,fun k=>if lo<=k/\k<c then k+(hi-c) else if c<=k/\k<hi then k-(c-lo) else k,fun k=>⟨?_,?_⟩,fun k hk=> ?_,fun k=> ?_⟩
 · dsimp only
   by_cases g1:lo<=k/\k<c
   · rw [if_pos g1,if_neg Oa,if_pos Oa];omega
   · rw [if_neg g1]
     by_cases g2:c<=k/\k<hi
     · rw [if_pos g2,if_pos Oa];omega
     · rw [if_neg g2,if_neg Oa,if_neg Oa]
 · dsimp only
   by_cases g1:lo<=k/\k<lo+(hi-c)
   · rw [if_pos g1,if_neg Oa,if_pos Oa];omega
   · rw [if_neg g1]
     by_cases g2:lo+(hi-c)<=k/\k<hi
     · rw [if_pos g2,if_pos Oa];omega
     · rw [if_neg g2,if_neg Oa,if_neg Oa]
 · dsimp only;rw [if_neg Oa,if_neg Oa]
 · unfold rot;dsimp only;split
   · rfl
   · split<;>rfl
theorem ZbD(a:Of)(lo:Int):rot a lo (lo+1) (lo+1)=a:=by
 funext k;unfold rot
 by_cases h:lo<=k/\k<lo+1
 · rw [if_neg Oa,if_pos Oa];congr 1<;>omega
 · rw [if_neg Oa,if_neg Oa]
theorem ZbE(h:lo<=k):swp (rot a lo (lo+1) (k+1)) k (k+1)=rot a lo (lo+1) (k+1+1):=by
 funext j;unfold swp rot
 by_cases h1:j=k
 · subst h1
   rw [if_pos rfl,if_neg Oa,if_neg Oa,if_pos Oa];congr 1<;>omega
 · rw [if_neg h1]
   by_cases h2:j=k+1
   · subst h2
     rw [if_pos rfl,if_neg Oa,if_pos Oa,if_neg Oa,if_pos Oa];congr 1<;>omega
   · rw [if_neg h2]
     by_cases h3:lo<=j/\j<k
     · rw [if_pos Oa,if_pos Oa]
     · rw [if_neg Oa,if_neg Oa,if_neg Oa,if_neg Oa]
theorem ZbB(a:Of)(c:Int):rot a c c (c+1)=a:=by
 funext k;unfold rot
 by_cases h:c<=k/\k<c+1
 · rw [if_pos Oa];congr 1<;>omega
 · rw [if_neg Oa,if_neg Oa]
theorem ZbC(h:k<=c):swp (rot a k c (c+1)) k (k-1)=rot a (k-1) c (c+1):=by
 funext j;unfold swp rot
 by_cases h1:j=k
 · subst h1
   rw [if_pos rfl,if_neg Oa,if_neg Oa,if_neg Oa,if_pos Oa];congr 1<;>omega
 · rw [if_neg h1]
   by_cases h2:j=k-1
   · subst h2
     rw [if_pos rfl,if_pos Oa,if_pos Oa];congr 1<;>omega
   · rw [if_neg h2]
     by_cases h3:k+1<=j/\j<c+1
     · rw [if_neg Oa,if_pos Oa,if_neg Oa,if_pos Oa]
     · rw [if_neg Oa,if_neg Oa,if_neg Oa,if_neg Oa]
theorem R8 {lt:Int->Int->Prop} (hw:Swo lt) {a b:Int} {s:Of} (hs:Srt (Tie lt) (a+1) b s) (hb:∀j,a+1<=j->j<b->s a<s j) (e0:a+1<=e) (e1:e<=b)
   (h1:e=a+1\/lt (s (e-1)) (s a)) (h2:e=b\/¬lt (s e) (s a)):Srt (Tie lt) a b (rot s a (a+1) e):=fun i j i0 ij j1=>by
 have r1:∀k,a<=k->k<e-1->rot s a (a+1) e k=s (k+1):=fun k k0 k1=>by unfold rot;rw [if_pos Oa];congr 1<;>omega
 have r2:rot s a (a+1) e (e-1)=s a:=by unfold rot;rw [if_neg Oa,if_pos Oa];congr 1<;>omega
 have r3:∀k,e<=k->rot s a (a+1) e k=s k:=fun k k0=>by unfold rot;rw [if_neg Oa,if_neg Oa]
 by_cases hi:i<e-1
 · rw [r1 i i0 hi]
   by_cases hj:j<e-1
   · rw [r1 j Oa hj];exact hs _ _ Oa Oa Oa
   · by_cases hj2:j=e-1
     · rw [hj2,r2]
       rcases h1 with h1|h1
       · omega
       · by_cases hie:i+1=e-1
         · rw [hie];exact .inl h1
         · exact(hs (i+1) (e-1) Oa Oa Oa).trans hw (.inl h1)
     · rw [r3 j Oa];exact hs _ _ Oa Oa j1
 · by_cases hi2:i=e-1
   · rw [hi2,r2,r3 j Oa]
     rcases h2 with h2|h2
     · omega
     · have h3:Tie lt (s a) (s e):=Tie.of hw (hb e e0 Oa) h2
       by_cases hje:j=e
       · rw [hje];exact h3
       · exact h3.trans hw (hs e j e0 Oa j1)
   · rw [r3 i Oa,r3 j Oa];exact hs i j Oa ij j1
theorem TT {lt:Int->Int->Prop} (hw:Swo lt) {a:Int} {s:Of} (hs:Srt (Tie lt) a m s) (hb:∀i,a<=i->i<m->s i<s m) (e0:a<=e) (e1:e<=m)
   (h1:e=a\/¬lt (s m) (s (e-1))) (h2:e=m\/lt (s m) (s e)):Srt (Tie lt) a (m+1) (rot s e m (m+1)):=fun i j i0 ij j1=>by
 have r1:∀k,k<e->rot s e m (m+1) k=s k:=fun k k0=>by unfold rot;rw [if_neg Oa,if_neg Oa]
 have r2:rot s e m (m+1) e=s m:=by unfold rot;rw [if_pos Oa];congr 1<;>omega
 have r3:∀k,e<k->k<m+1->rot s e m (m+1) k=s (k-1):=fun k k0 k1=>by unfold rot;rw [if_neg Oa,if_pos Oa];congr 1<;>omega
 have hlo:∀i,a<=i->i<e->Tie lt (s i) (s m):=fun i i0 i1=>by
   rcases h1 with h1|h1
   · omega
   · have h3:Tie lt (s (e-1)) (s m):=Tie.of hw (hb (e-1) Oa Oa) h1
     by_cases hie:i=e-1
     · rw [hie];exact h3
     · exact(hs i (e-1) i0 Oa Oa).trans hw h3
 by_cases hi:i<e
 · rw [r1 i hi]
   by_cases hj:j<e
   · rw [r1 j hj];exact hs i j i0 ij Oa
   · by_cases hj2:j=e
     · rw [hj2,r2];exact hlo i i0 hi
     · rw [r3 j Oa j1];exact hs i (j-1) i0 Oa Oa
 · by_cases hi2:i=e
   · rw [hi2,r2,r3 j Oa j1]
     rcases h2 with h2|h2
     · omega
     · by_cases hje:j-1=e
       · rw [hje];exact .inl h2
       · exact Tie.trans hw (.inl h2) (hs e (j-1) e0 Oa Oa)
   · rw [r3 i Oa Oa,r3 j Oa j1];exact hs (i-1) (j-1) Oa Oa Oa
structure Halves (lt:Int->Int->Prop) (a s mid e b:Int) (t:Of):Prop where
  l1:Srt (Tie lt) a s t
  l2:Srt (Tie lt) s mid t
  r1:Srt (Tie lt) mid e t
  r2:Srt (Tie lt) e b t
  pl:Parted a s mid t
  pr:Parted mid e b t
  cross:∀i j,a<=i->i<mid->mid<=j->j<b->Tie lt (t i) (t j)
theorem V1 {lt:Int->Int->Prop} (hw:Swo lt) {a b s:Int} (h1:Srt (Tie lt) a m t) (h2:Srt (Tie lt) m b t) (hp:Parted a m b t) (he:s+e=mid+m) (s0:a<=s) (s1:s<=m) (e0:m<=e) (e1:e<=b)
   (g1:s=a\/e=b\/¬lt (t e) (t (s-1))) (g2:s=m\/e=m\/lt (t (e-1)) (t s)):Halves lt a s mid e b (rot t s m e):=by
 have r0:∀k,k<s->rot t s m e k=t k:=fun k k0=>by unfold rot;rw [if_neg Oa,if_neg Oa]
 have r1:∀k,s<=k->k<mid->rot t s m e k=t (k+(m-s)):=fun k k0 k1=>by unfold rot;rw [if_pos Oa]
 have r2:∀k,mid<=k->k<e->rot t s m e k=t (k-(e-m)):=fun k k0 k1=>by unfold rot;rw [if_neg Oa,if_pos Oa]
 have r3:∀k,e<=k->rot t s m e k=t k:=fun k k0=>by unfold rot;rw [if_neg Oa,if_neg Oa]
 have c1:∀i j,a<=i->i<s->e<=j->j<b->Tie lt (t i) (t j):=fun i j i0 i1 j0 j1=>by
   rcases g1 with g1|g1|g1
   · omega
   · omega
   · have h3:Tie lt (t (s-1)) (t e):=Tie.of hw (hp (s-1) e Oa Oa e0 Oa) g1
     have h4:Tie lt (t i) (t e):=by
       by_cases hi:i=s-1
       · rw [hi];exact h3
       · exact(h1 i (s-1) i0 Oa Oa).trans hw h3
     by_cases hj:j=e
     · rw [hj];exact h4
     · exact h4.trans hw (h2 e j e0 Oa j1)
 have c2:∀i j,m<=i->i<e->s<=j->j<m->Tie lt (t i) (t j):=fun i j i0 i1 j0 j1=>by
   rcases g2 with g2|g2|g2
   · omega
   · omega
   · have h4:Tie lt (t i) (t s):=by
       by_cases hi:i=e-1
       · rw [hi];exact .inl g2
       · exact(h2 i (e-1) i0 Oa Oa).trans hw (.inl g2)
     by_cases hj:j=s
     · rw [hj];exact h4
     · exact h4.trans hw (h1 s j Oa Oa j1)
 refine⟨fun i j i0 ij j1=> ?_,fun i j i0 ij j1=> ?_,fun i j i0 ij j1=> ?_,fun i j i0 ij j1=> ?_,fun i j i0 i1 j0 j1=> ?_,fun i j i0 i1 j0 j1=> ?_,fun i j i0 i1 j0 j1=> ?_⟩
 · rw [r0 i Oa,r0 j j1];exact h1 i j i0 ij Oa
 · rw [r1 i i0 Oa,r1 j Oa j1];exact h2 _ _ Oa Oa Oa
 · rw [r2 i i0 Oa,r2 j Oa j1];exact h1 _ _ Oa Oa Oa
 · rw [r3 i i0,r3 j Oa];exact h2 _ _ Oa Oa Oa
 · rw [r0 i i1,r1 j j0 j1];exact hp _ _ i0 Oa Oa Oa
 · rw [r2 i i0 i1,r3 j j0];exact hp _ _ Oa Oa Oa Oa
 · by_cases hi:i<s
   · rw [r0 i hi]
     by_cases hj:j<e
     · rw [r2 j j0 hj];exact h1 _ _ Oa Oa Oa
     · rw [r3 j Oa];exact c1 i j i0 hi Oa j1
   · rw [r1 i Oa i1]
     by_cases hj:j<e
     · rw [r2 j j0 hj];exact c2 _ _ Oa Oa Oa Oa
     · rw [r3 j Oa];exact h2 _ _ Oa Oa Oa
theorem Halves.left{lt:Int->Int->Prop}{a s b:Int}(h:Halves lt a s mid e b t)(hn:¬(a<s/\s<mid))(s0:a<=s)(s1:s<=mid):Srt (Tie lt) a mid t:=by
 by_cases h1:a<s
 · obtain rfl:s=mid:=Oa
   exact h.l1
 · obtain rfl:a=s:=Oa
   exact h.l2
theorem Halves.right{lt:Int->Int->Prop}{a s b:Int}(h:Halves lt a s mid e b t)(hn:¬(mid<e/\e<b))(s0:mid<=e)(s1:e<=b):Srt (Tie lt) mid b t:=by
 by_cases h1:mid<e
 · obtain rfl:e=b:=Oa
   exact h.r1
 · obtain rfl:mid=e:=Oa
   exact h.r2
theorem Halves.join{lt:Int->Int->Prop}(hw:Swo lt){a s b:Int}{u v:Of}(h:Halves lt a s mid e b t)(a0:a<=mid)(b0:mid<=b)(h1:PermOn a mid t u)(h2:Srt (Tie lt) a mid u)(h3:PermOn mid b u v)(h4:Srt (Tie lt) mid b v):Srt (Tie lt) a b v:=fun i j i0 ij j1=>by
 by_cases hj:j<mid
 · rw [h3.out Oa,h3.out Oa];exact h2 i j i0 ij hj
 · by_cases hi:i<mid
   · rw [h3.out Oa]
     obtain⟨i',g0,g1,g2⟩:=h1.fr i0 hi
     obtain⟨j',f0,f1,f2⟩:=h3.fr (show mid<=j by omega) j1
     rw [g2,f2,h1.out Oa]
     exact h.cross i' j' g0 g1 f0 f1
   · exact h4 i j Oa ij j1
theorem Parted.keep(h:Parted lo c hi a)(hp:PermOn x y a b)(x0:lo<=x)(y0:y<=hi)(hc:y<=c\/c<=x):Parted lo c hi b:=fun i j i0 i1 j0 j1=>by
 have gi:∃i',lo<=i'/\i'<c/\b i=a i':=by
   by_cases hx:x<=i/\i<y
   · obtain⟨i',g0,g1,g2⟩:=hp.fr hx.1 hx.2
     exact⟨i',Oa,Oa,g2⟩
   · exact⟨i,i0,i1,hp.out hx⟩
 have gj:∃j',c<=j'/\j'<hi/\b j=a j':=by
   by_cases hx:x<=j/\j<y
   · obtain⟨j',g0,g1,g2⟩:=hp.fr hx.1 hx.2
     exact⟨j',Oa,Oa,g2⟩
   · exact⟨j,j0,j1,hp.out hx⟩
 obtain⟨i',a1,a2,a3⟩:=gi
 obtain⟨j',b1,b2,b3⟩:=gj
 rw [a3,b3];exact h i' j' a1 a2 b1 b2
def Runs_(lt:Int->Int->Prop)(s n x y:Int)(t:Of):Prop:=∀c,x<=c->c<y->s∣c->Srt (Tie lt) c (min (c+s) n) t/\Parted 0 c n t
theorem Runs_.keep{lt:Int->Int->Prop}{s n x y p q:Int}{t u:Of}(h:Runs_ lt s n x y t)(hp:PermOn p q t u)(p0:0<=p)(q0:q<=n)(hc:∀c,x<=c->c<y->s∣c->min (c+s) n<=p/\c<=p\/q<=c):Runs_ lt s n x y u:=fun c c0 c1 cd=>by
 have h1:=h c c0 c1 cd
 have h2:=hc c c0 c1 cd
 exact⟨h1.1.congr fun k k0 k1=>hp.out Oa,h1.2.keep hp p0 q0 Oa⟩
theorem Tm{s a:Int}(hs:0<s)(h1:s∣c)(h2:s∣a)(h:c<a):c+s<=a:=by
 have:=Int.le_of_dvd (show 0<a-c by omega) (Int.dvd_sub h2 h1)
 omega
theorem PermOn.dom{n N:Int}(h:PermOn lo hi a b)(h0:0<=lo)(h1:hi<=n\/n<=lo)(hd:∀k,0<=k->k<n->0<=a k/\a k<N):∀k,0<=k->k<n->0<=b k/\b k<N:=fun k k0 k1=>by
 by_cases hk:lo<=k/\k<hi
 · obtain⟨j,j0,j1,j2⟩:=h.fr hk.1 hk.2
   rw [j2];exact hd j Oa Oa
 · rw [h.out hk];exact hd k k0 k1
theorem Zd9{a b:Int}{s:Of}(hp:PermOn a i s t)(qQ:U9 a b s)(hi:i<b):∀p,a<=p->p<i->t p<t i:=fun p p0 p1=>by
 obtain⟨j,j0,j1,j2⟩:=hp.fr p0 p1
 rw [j2,hp.out Oa];exact qQ j i j0 j1 hi
theorem VS(h0:x<=m)(h1:m<=e)(h:¬(x<m/\m<e)):rot a x m e=a:=by
 funext k;unfold rot
 by_cases g1:x<=k/\k<x+(e-m)
 · rw [if_pos g1];congr 1;omega
 · rw [if_neg g1]
   by_cases g2:x+(e-m)<=k/\k<e
   · rw [if_pos g2];congr 1;omega
   · rw [if_neg g2]
theorem Wu{lt:Int->Int->Prop}{n a b:Int}{s u:Of}(hz:0<z)(qQ:U9 0 n s)(hr:Runs_ lt z n 0 a t)(a0:0<=a)(hd:z∣a)(hp:PermOn 0 a s t)(hq:PermOn a b t u)(hs:Srt (Tie lt) a b u)(hb:b=a+z/\b<=n\/b=n/\n<a+z)(ab:a<=b):Runs_ lt z n 0 b u:=fun c c0 c1 cd=>by
 by_cases hc:c<a
 · exact(hr.keep hq a0 Oa (fun c c0 c1 cd=> .inl (by have:=Tm hz cd hd c1;omega))) c c0 hc cd
 · have hca:c=a:=by
     by_cases h:a<c
     · have:=Tm hz hd cd h;omega
     · omega
   subst hca
   refine⟨hs.mono Oa Oa,fun i j i0 i1 j0 j1=> ?_⟩
   obtain⟨i',g0,g1,g2⟩:=hp.fr i0 i1
   rw [hq.out Oa,g2]
   by_cases hj:j<b
   · obtain⟨j',f0,f1,f2⟩:=hq.fr j0 hj
     rw [f2,hp.out Oa];exact qQ i' j' g0 Oa Oa
   · rw [hq.out Oa,hp.out Oa];exact qQ i' j g0 Oa j1
theorem VO{lt:Int->Int->Prop}{n a b:Int}(hz:0<z)(a0:0<=a)(hd:z∣a)(h:Runs_ lt z n a n t)(hm:a+z<b)(hb:b<=a+2*z)(hn:b<=n):Srt (Tie lt) a (a+z) t/\Srt (Tie lt) (a+z) b t/\Parted a (a+z) b t:=by
 have h1:=h a (Int.le_refl _) Oa hd
 have h2:=h (a+z) Oa Oa (Int.dvd_add hd (Int.dvd_refl z))
 exact⟨h1.1.mono Oa Oa,h2.1.mono Oa Oa,fun i j i0 i1 j0 j1=>h2.2 i j Oa i1 j0 Oa⟩
theorem Yo {lt:Int->Int->Prop} {n a b:Int} {u:Of} (hz:0<z) (a0:0<=a) (hd:2*z∣a) (h2:Runs_ lt (2*z) n 0 a t) (h1:Runs_ lt z n a n t) (hq:PermOn a b t u) (hs:Srt (Tie lt) a b u) (hb:b=a+2*z/\b<=n\/b=n/\n<a+2*z) (ab:a<b):Runs_ lt (2*z) n 0 b u/\Runs_ lt z n b n u:=by
 refine⟨fun c c0 c1 cd=> ?_,fun c c0 c1 cd=> ?_⟩
 · by_cases hc:c<a
   · exact(h2.keep hq a0 Oa (fun c c0 c1 cd=> .inl (by have:=Tm Oa cd hd c1;omega))) c c0 hc cd
   · have hca:c=a:=by
       by_cases h:a<c
       · have:=Tm Oa hd cd h;omega
       · omega
     subst hca
     exact⟨hs.mono Oa Oa,(h1 c Oa Oa (Int.dvd_trans (Int.dvd_mul_left 2 z) cd)).2.keep hq a0 Oa (.inr (Int.le_refl _))⟩
 · have h3:=h1 c Oa c1 cd
   exact⟨h3.1.congr fun k k0 k1=>hq.out Oa,h3.2.keep hq a0 Oa (.inl Oa)⟩
theorem ZbG{lt:Int->Int->Prop}{n:Int}(h:Runs_ lt z n 0 n t)(hz:n<=z):Srt (Tie lt) 0 n t:=fun i j i0 ij j1=>by
 exact(h 0 (Int.le_refl _) Oa (Int.dvd_zero z)).1 i j i0 ij Oa
theorem Halves.after{lt:Int->Int->Prop}{a s b:Int}{u:Of}(h:Halves lt a s mid e b t)(hp:PermOn a mid t u)(hs:Srt (Tie lt) a mid u)(e0:mid<=e)(e1:e<=b):Halves lt a a mid e b u:=by
 refine⟨fun i j i0 ij j1=>Oa,hs,h.r1.congr fun k k0 k1=>hp.out Oa,h.r2.congr fun k k0 k1=>hp.out Oa,fun i j i0 i1 j0 j1=>Oa,fun i j i0 i1 j0 j1=> ?_,fun i j i0 i1 j0 j1=> ?_⟩
 · rw [hp.out Oa,hp.out Oa];exact h.pr i j i0 i1 j0 j1
 · obtain⟨i',g0,g1,g2⟩:=hp.fr i0 i1
   rw [g2,hp.out (k:=j) Oa];exact h.cross i' j g0 g1 j0 j1
theorem Vh{a n:Int}{s:Of}(hp:PermOn 0 a s t)(h:U9 0 n s)(a0:0<=a)(h0:a<=lo)(h1:hi<=n):U9 lo hi t:=fun i j i0 ij j1=>by
 rw [hp.out Oa,hp.out Oa];exact h i j Oa ij Oa
theorem VP{lt:Int->Int->Prop}{n a:Int}(hz:0<z)(a0:0<=a)(hd:2*z∣a)(h2:Runs_ lt (2*z) n 0 a t)(h1:Runs_ lt z n a n t)(ha:a<=n)(hm:n<=a+z):Runs_ lt (2*z) n 0 n t:=by
 by_cases h:a<n
 · exact(Yo hz a0 hd h2 h1 (.refl _ _ _) ((h1 a (Int.le_refl _) h (Int.dvd_trans (Int.dvd_mul_left 2 z) hd)).1.mono (Int.le_refl _) Oa) (.inr ⟨rfl,Oa⟩) h).1
 · obtain rfl:a=n:=Oa
   exact h2
end Go.Proofs.Gw
namespace Go.Proofs.Gw
variable {m:Int} {cnt f g ln:Of} {pt:Og} {a b:List Int}
def lst(n:Int)(f:Of):List Int:=(List.range n.toNat).map fun(k:Nat)=>f (k:Int)
theorem YY(n:Int)(f:Of):(lst n f).length=n.toNat:=by simp [lst]
theorem lst_get(n:Int)(f:Of)(k:Nat):(lst n f)[k]? =if(k:Int)<n then some (f k) else none:=by
 unfold lst
 by_cases h:(k:Int)<n
 · rw [if_pos h,List.getElem?_map,List.getElem?_range Oa];rfl
 · rw [if_neg h];simp;omega
theorem Uz{n:Int}(n0:0<=n)(m0:0<=m):lst n f=lst m g↔n=m/\∀k,0<=k->k<n->f k=g k:=by
 constructor
 · intro h
   have hl:=congrArg List.length h
   rw [YY,YY] at hl
   refine⟨by omega,fun k k0 k1=> ?_⟩
   have h1:=congrArg (fun l=>l[k.toNat]?) h
   simp only [lst_get] at h1
   rw [Int.toNat_of_nonneg k0,if_pos k1,if_pos Oa] at h1
   injection h1
 · rintro⟨rfl,h⟩
   apply List.ext_getElem?
   intro k
   rw [lst_get,lst_get]
   by_cases hk:(k:Int)<n
   · rw [if_pos hk,if_pos hk,h k Oa hk]
   · rw [if_neg hk,if_neg hk]
theorem Yj{n:Int}(h:∀k,0<=k->k<n->f k=g k):lst n f=lst n g:=by
 apply List.ext_getElem?
 intro k
 rw [lst_get,lst_get]
 by_cases hk:(k:Int)<n
 · rw [if_pos hk,if_pos hk,h k Oa hk]
 · rw [if_neg hk,if_neg hk]
def olt:Option Int->Option Int->Prop
  |none,some _=>True
  |some x,some y=>x<y
  |_,_=>False
theorem Zan:∀a,¬olt a a
 |none=>id
 |some x=>by simp [olt]
theorem R5:∀{a b c},olt a b->olt b c->olt a c
 |none,some _,some _,_,_=>trivial
 |some x,some y,some z,h,k=>by simp only [olt] at*;omega
theorem Zjm:∀{a b:Option Int},a≠b->olt a b\/olt b a
 |none,none,h=>absurd rfl h
 |none,some _,_=> .inl trivial
 |some _,none,_=> .inr trivial
 |some x,some y,h=>by simp only [olt];have:x≠y:=fun e=>h (by rw [e]);omega
def ahd(a b:List Int):Prop:=∃j:Nat,(∀k<j,a[k]? =b[k]?)/\olt b[j]? a[j]?
theorem Uj(h:ahd a b):¬ahd b a:=by
 rintro⟨j,h1,h2⟩
 obtain⟨i,g1,g2⟩:=h
 rcases Nat.lt_trichotomy i j with h|h|h
 · rw [h1 i h] at g2;exact Zan _ g2
 · subst h;exact Zan _ (R5 g2 h2)
 · rw [g1 j h] at h2;exact Zan _ h2
theorem KF{c:List Int}(h:ahd a b)(k:ahd b c):ahd a c:=by
 obtain⟨i,g1,g2⟩:=h
 obtain⟨j,h1,h2⟩:=k
 rcases Nat.lt_trichotomy i j with h|h|h
 · exact⟨i,fun k hk=>(g1 k hk).trans (h1 k Oa),by rw [<-h1 i h];exact g2⟩
 · subst h;exact⟨i,fun k hk=>(g1 k hk).trans (h1 k hk),R5 h2 g2⟩
 · exact⟨j,fun k hk=>(g1 k Oa).trans (h1 k hk),by rw [g1 j h];exact h2⟩
theorem ZeI(h:a≠b):ahd a b\/ahd b a:=by
 have hex:∃k:Nat,a[k]? ≠b[k]? :=Classical.byContradiction fun hn=>h (List.ext_getElem? fun k=>Classical.byContradiction fun hk=>hn ⟨k,hk⟩)
 have jf:∃k:Nat,a[k]? ≠b[k]? /\∀j<k,a[j]? =b[j]? :=by
   obtain⟨k,hk⟩:=hex
   induction k using Nat.strongRecOn with
   | ind k ih=>
     by_cases hb:∃j,j<k/\a[j]? ≠b[j]?
     · obtain⟨j,hj,hne⟩:=hb;exact ih j hj hne
     · exact⟨k,hk,fun j hj=>Classical.byContradiction fun hne=>hb ⟨j,hj,hne⟩⟩
 obtain⟨k,hk,hlt⟩:=jf
 rcases Zjm hk with h1|h1
 · exact .inr ⟨k,fun j hj=>(hlt j hj).symm,h1⟩
 · exact .inl ⟨k,hlt,h1⟩
theorem ZkG(a:List Int):¬ahd a a:=fun h=>Uj h h
theorem Ziz{n:Int}{j:Int}(j0:0<=j)(jn:j<n)(jm:j<m)(he:∀k,0<=k->k<j->f k=g k)(h:g j<f j):ahd (lst n f) (lst m g):=by
 refine⟨j.toNat,fun k hk=> ?_,?_⟩
 · rw [lst_get,lst_get,if_pos Oa,if_pos Oa,he k Oa Oa]
 · rw [lst_get,lst_get,Int.toNat_of_nonneg j0,if_pos jn,if_pos jm];exact h
theorem ZcF{n:Int}(m0:0<=m)(h:m<n)(he:∀k,0<=k->k<m->f k=g k):ahd (lst n f) (lst m g):=by
 refine⟨m.toNat,fun k hk=> ?_,?_⟩
 · rw [lst_get,lst_get,if_pos Oa,if_pos Oa,he k Oa Oa]
 · rw [lst_get,lst_get,Int.toNat_of_nonneg m0,if_neg Oa,if_pos h];trivial
theorem Ziy{n:Int}(he:∀k,0<=k->k<n->f k=g k):¬ahd (lst n f) (lst n g):=by
 rw [Yj he];exact ZkG _
abbrev Us:=List (List Int×Int)
def plL(n:Int)(ln:Of)(pt:Og)(cnt:Of):Us:=(List.range n.toNat).map fun(i:Nat)=>(lst (ln (i:Int)) (pt (i:Int)),cnt (i:Int))
theorem plL_len(n:Int)(ln:Of)(pt:Og)(cnt:Of):(plL n ln pt cnt).length=n.toNat:=by simp [plL]
theorem plL_get(n:Int)(ln:Of)(pt:Og)(cnt:Of)(k:Nat):(plL n ln pt cnt)[k]? =if(k:Int)<n then some (lst (ln k) (pt k),cnt k) else none:=by
 unfold plL
 by_cases h:(k:Int)<n
 · rw [if_pos h,List.getElem?_map,List.getElem?_range Oa];rfl
 · rw [if_neg h];simp;omega
theorem R0{n:Int}{ln':Of}{pt':Og}{cnt':Of}(h:∀k,0<=k->k<n->ln k=ln' k/\cnt k=cnt' k/\∀j,0<=j->j<ln k->pt k j=pt' k j):plL n ln pt cnt=plL n ln' pt' cnt':=by
 apply List.ext_getElem?
 intro k
 rw [plL_get,plL_get]
 by_cases hk:(k:Int)<n
 · obtain⟨h1,h2,h3⟩:=h k Oa hk
   rw [if_pos hk,if_pos hk,h2,<-h1,Yj h3]
 · rw [if_neg hk,if_neg hk]
theorem Wc{i:Int}(i0:0<=i):plL (i+1) ln pt cnt=plL i ln pt cnt++ [(lst (ln i) (pt i),cnt i)]:=by
 unfold plL
 rw [show(i+1).toNat=i.toNat+1 by omega,List.range_succ,List.map_append,List.map_singleton,Int.toNat_of_nonneg i0]
theorem TO{n:Int}{ln':Of}{pt':Og}{cnt':Of}(n0:0<=n)(h:∀k,0<=k->k<n->ln' k=ln k/\cnt' k=cnt k/\pt' k=pt k){l c:Int}{p:Of}(h1:ln' n=l)(h2:cnt' n=c)(h3:pt' n=p):plL (n+1) ln' pt' cnt'=plL n ln pt cnt++ [(lst l p,c)]:=by
 rw [Wc n0,h1,h2,h3]
 congr 1
 exact R0 fun k k0 k1=>⟨(h k k0 k1).1,(h k k0 k1).2.1,fun j _ _=>by rw [(h k k0 k1).2.2]⟩
def Xy:Us->List Int×Int->Us
  | [],u=> [u]
  |v::r,u=>if v.1=u.1 then(v.1,v.2+u.2)::r else v::Xy r u
def VM(l:Us):Us:=l.foldl Xy []
theorem ZcH:∀{a:Us} {u:List Int×Int},(∀v∈a,v.1≠u.1)->Xy a u=a++ [u]
 | [],_,_=>rfl
 | v::r,u,h=>by
   rw [Xy,if_neg (h v (by simp)),ZcH fun w hw=>h w (by simp [hw])];rfl
theorem ZeJ:∀{a:Us} {u:List Int×Int} {j:Nat} {v:List Int×Int},a[j]? =some v->v.1=u.1->(∀k<j,∀w,a[k]? =some w->w.1≠u.1)->Xy a u=a.set j (v.1,v.2+u.2)
 | [],_,_,_,h,_,_=>by simp at h
 | w::r,u,0,v,h,e,_=>by
   simp at h;subst h
   rw [Xy,if_pos e];rfl
 | w::r,u,j+1,v,h,e,hk=>by
   simp at h
   rw [Xy,if_neg (hk 0 Oa w (by simp)),ZeJ h e fun k hk' x hx=>hk (k+1) Oa x (by simpa using hx)];rfl
theorem UN:∀{a:Us} {u:List Int×Int},∀x∈Xy a u,x.1=u.1\/∃y∈a,y.1=x.1
 | [],u,x,h=>by simp [Xy] at h;exact .inl (by rw [h])
 | v ::r,u,x,h=>by
   rw [Xy] at h
   split at h
   · rcases List.mem_cons.1 h with h|h
     · right;exact⟨v,by simp,by rw [h]⟩
     · right;exact⟨x,by simp [h],rfl⟩
   · rcases List.mem_cons.1 h with h|h
     · right;exact⟨v,by simp,by rw [h]⟩
     · rcases UN x h with h|⟨y,hy,e⟩
       · exact .inl h
       · exact .inr ⟨y,by simp [hy],e⟩
theorem KG:∀{a:Us} {u:List Int×Int},a.Pairwise (fun x y=>x.1≠y.1)->(Xy a u).Pairwise (fun x y=>x.1≠y.1)
 | [],u,_=>by simp [Xy]
 | v ::r,u,h=>by
   have h1:=List.pairwise_cons.1 h
   rw [Xy]
   split
   · exact List.pairwise_cons.2 ⟨h1.1,h1.2⟩
   · rename_i hne
     refine List.pairwise_cons.2 ⟨fun x hx=> ?_,KG h1.2⟩
     rcases UN x hx with e|⟨y,hy,e⟩
     · rw [e];exact hne
     · rw [<-e];exact h1.1 y hy
theorem T3:∀(l a:Us),a.Pairwise (fun x y=>x.1≠y.1)->(l.foldl Xy a).Pairwise (fun x y=>x.1≠y.1)
 | [],_,h=>h
 |u::l,a,h=>T3 l _ (KG h)
theorem ZeT(l:Us):(VM l).Pairwise (fun x y=>x.1≠y.1):=T3 l [] .nil
theorem RK(l:Us)(u:List Int×Int):VM (l++ [u])=Xy (VM l) u:=by simp [VM]
theorem ZcG:∀{a:Us} {u:List Int×Int},(∀x∈a,1<=x.2)->1<=u.2->∀x∈Xy a u,1<=x.2
 | [],u,_,hu,x,h=>by simp [Xy] at h;rw [h];exact hu
 | v ::r,u,ha,hu,x,h=>by
   have hv:=ha v (by simp)
   rw [Xy] at h
   split at h
   · rcases List.mem_cons.1 h with h|h
     · rw [h];dsimp only;omega
     · exact ha x (by simp [h])
   · rcases List.mem_cons.1 h with h|h
     · rw [h];exact hv
     · exact ZcG (fun y hy=>ha y (by simp [hy])) hu x h
theorem Km:∀(l a:Us),(∀x∈a,1<=x.2)->(∀x∈l,1<=x.2)->∀x∈l.foldl Xy a,1<=x.2
 | [],_,h,_=>h
 |u::l,a,h,hl=>Km l _ (ZcG h (hl u (by simp))) fun x hx=>hl x (by simp [hx])
theorem ZfY{l:Us}(h:∀x∈l,1<=x.2):∀x∈VM l,1<=x.2:=Km l [] (by simp) h
def wsum(f:List Int->Int):Us->Int
  | []=>0
  |u::l=>f u.1*u.2+wsum f l
theorem WK(f:List Int->Int):∀a b:Us,wsum f (a++b)=wsum f a+wsum f b
 | [],b=>by simp [wsum]
 |u::a,b=>by simp only [List.cons_append,wsum,WK f a b];omega
theorem RE(f:List Int->Int):∀(a:Us) (u:List Int×Int),wsum f (Xy a u)=wsum f a+f u.1*u.2
 | [],u=>by simp [Xy,wsum]
 | v ::r,u=>by
   rw [Xy]
   split
   · rename_i e
     simp only [wsum,e,Int.mul_add];omega
   · simp only [wsum,RE f r u];omega
theorem Tv(f:List Int->Int):∀(l a:Us),wsum f (l.foldl Xy a)=wsum f a+wsum f l
 | [],a=>by simp [wsum]
 |u::l,a=>by rw [List.foldl_cons,Tv f l,RE,wsum];omega
theorem ZeQ(f:List Int->Int)(l:Us):wsum f (VM l)=wsum f l:=by rw [VM,Tv];simp [wsum]
theorem ZeR(f:List Int->Int){a b:Us}(h:a.Perm b):wsum f a=wsum f b:=by
 induction h with
 |nil=>rfl
 |cons x _ ih=>simp only [wsum,ih]
 |swap x y l=>simp only [wsum];omega
 |trans _ _ i1 i2=>rw [i1,i2]
def NormR(l out:Us):Prop:=out.Perm (VM l)/\out.Pairwise (fun u v=>ahd u.1 v.1)
theorem NormR.wsum{l a:Us}(h:NormR l a)(f:List Int->Int):wsum f a=wsum f l:=(ZeR f h.1).trans (ZeQ f l)
theorem NormR.pos{l a:Us}(h:NormR l a)(hp:∀x∈l,1<=x.2):∀x∈a,1<=x.2:=fun x hx=>ZfY hp x (h.1.mem_iff.1 hx)
theorem RL:∀(l a:Us),∀x∈l.foldl Xy a,(∃y∈a,y.1=x.1)\/∃y∈l,y.1=x.1
 | [],a,x,h=> .inl ⟨x,h,rfl⟩
 | u ::l,a,x,h=>by
   rcases RL l _ x h with⟨y,hy,e⟩|⟨y,hy,e⟩
   · rcases UN y hy with e2|⟨z,hz,e2⟩
     · exact .inr ⟨u,by simp,by rw [<-e2,e]⟩
     · exact .inl ⟨z,hz,by rw [e2,e]⟩
   · exact .inr ⟨y,by simp [hy],e⟩
theorem NormR.keys{l a:Us}(h:NormR l a):∀x∈a,∃y∈l,y.1=x.1:=fun x hx=>by
 rcases RL l [] x (h.1.mem_iff.1 hx) with⟨y,hy,_⟩|h
 · simp at hy
 · exact h
theorem Zdd {α:Type} {n:Int} {t:Of} (n0:0<=n) (h:PermOn 0 n (fun k=>k) t) (G:Int->α):((List.range n.toNat).map fun(i:Nat)=>G (t (i:Int))).Perm ((List.range n.toNat).map fun(i:Nat)=>G (i:Int)):=by
 have h1:((List.range n.toNat).map fun(i:Nat)=>t (i:Int)).Perm ((List.range n.toNat).map fun(i:Nat)=>(i:Int)):=by
   obtain⟨p,q,e1,e2,e3⟩:=h
   refine(List.perm_ext_iff_of_nodup ?_ ?_).2 fun x=> ?_
   · refine List.pairwise_map.2 (List.Pairwise.imp (R:=fun a b=>a≠b) (fun {a b} hab hh=> ?_) List.nodup_range)
     rw [e3,e3] at hh
     have:=congrArg q hh
     simp only [(e1 _).2] at this
     omega
   · exact List.pairwise_map.2 (List.Pairwise.imp (R:=fun a b=>a≠b) (fun {a b} hab hh=>Oa) List.nodup_range)
   · simp only [List.mem_map,List.mem_range]
     constructor
     · rintro⟨a,ha,rfl⟩
       obtain⟨j,j0,j1,j2⟩:=PermOn.fr (a:=fun k=>k) (b:=t) ⟨p,q,e1,e2,e3⟩ (show(0:Int)<=(a:Int) by omega) (show(a:Int)<n by omega)
       exact⟨j.toNat,Oa,by rw [j2];omega⟩
     · rintro⟨a,ha,rfl⟩
       obtain⟨j,j0,j1,j2⟩:=PermOn.fr (PermOn.symm (a:=fun k=>k) (b:=t) ⟨p,q,e1,e2,e3⟩) (show(0:Int)<=(a:Int) by omega) (show(a:Int)<n by omega)
       exact⟨j.toNat,Oa,by rw [Int.toNat_of_nonneg j0,<-j2]⟩
 have h2:=h1.map G
 simpa [List.map_map,Function.comp_def] using h2
theorem ZiV(f:Int->List Int):Swo (fun x y=>ahd (f x) (f y)):=
 ⟨fun x y h=>Uj h,fun x y z h k=>KF h k,fun x y z h k hh=>by
   by_cases e:f x=f y
   · rw [e] at hh;exact k hh
   · rcases ZeI e with h1|h1
     · exact h h1
     · exact k (KF h1 hh)⟩
theorem NormR.of_names {l:Us} {n:Int} {t:Of} (n0:0<=n) (hs:plL n ln pt cnt=VM l) (hp:PermOn 0 n (fun k=>k) t) (ho:Srt (Tie (fun x y=>ahd (lst (ln x) (pt x)) (lst (ln y) (pt y)))) 0 n t):
   NormR l (plL n (fun k=>ln (t k)) (fun k=>pt (t k)) (fun k=>cnt (t k))):=by
 refine⟨?_,?_⟩
 · rw [<-hs]
   exact Zdd n0 hp fun x=>(lst (ln x) (pt x),cnt x)
 · rw [List.pairwise_iff_getElem]
   intro i j hi hj hij
   rw [plL_len] at hi hj
   have g:∀(k:Nat) (hk:k<(plL n (fun k=>ln (t k)) (fun k=>pt (t k)) (fun k=>cnt (t k))).length),(plL n (fun k=>ln (t k)) (fun k=>pt (t k)) (fun k=>cnt (t k)))[k]=(lst (ln (t k)) (pt (t k)),cnt (t k)):=fun k hk=>by
     have h1:=plL_get n (fun k=>ln (t k)) (fun k=>pt (t k)) (fun k=>cnt (t k)) k
     rw [plL_len] at hk
     rw [if_pos Oa,List.getElem?_eq_getElem (by rw [plL_len];exact hk)] at h1
     injection h1
   rw [g,g]
   have h1:=ho i j Oa Oa Oa
   rcases h1 with h1|⟨h1,h2⟩
   · exact h1
   · obtain⟨a,a0,a1,a2⟩:=hp.fr (show(0:Int)<=(i:Int) by omega) (show(i:Int)<n by omega)
     obtain⟨b,b0,b1,b2⟩:=hp.fr (show(0:Int)<=(j:Int) by omega) (show(j:Int)<n by omega)
     have hd:=ZeT l
     rw [<-hs,List.pairwise_iff_getElem] at hd
     have gg:∀(k:Int) (k0:0<=k) (hk:k<n),∃h:k.toNat<(plL n ln pt cnt).length,(plL n ln pt cnt)[k.toNat]=(lst (ln k) (pt k),cnt k):=fun k k0 hk=>by
       have h1:=plL_get n ln pt cnt k.toNat
       have h3:k.toNat<(plL n ln pt cnt).length:=by rw [plL_len];omega
       rw [Int.toNat_of_nonneg k0,if_pos hk,List.getElem?_eq_getElem h3] at h1
       exact⟨h3,by injection h1⟩
     have hab:a≠b:=fun e=>by rw [<-a2,<-b2] at*;omega
     obtain⟨ha,ea⟩:=gg a a0 a1
     obtain⟨hb,eb⟩:=gg b b0 b1
     have hne:lst (ln a) (pt a)≠lst (ln b) (pt b):=by
       rcases Int.lt_or_gt_of_ne hab with h3|h3
       · have:=hd a.toNat b.toNat ha hb Oa;rw [ea,eb] at this;exact this
       · have:=hd b.toNat a.toNat hb ha Oa;rw [ea,eb] at this;exact fun e=>this e.symm
     rcases ZeI hne with h3|h3
     · dsimp only at a2 b2⊢;rw [a2,b2];exact h3
     · exact absurd (by dsimp only at a2 b2⊢;rw [a2,b2];exact h3) h1
end Go.Proofs.Gw
namespace Go.Proofs.Gw
open Go Go.RowKit
section
variable {P:Program} {L:List (Nat×Value)} {w w0:World} {o:Oper} {x y:Operand} {T T':TypeId} {l:List Ent}
theorem US{m r:Int}(ho:o.op= .binOp .shr T x y T':=by exact rfl)(hx:evL L x=some (.int .u64 m):=by exact rfl)(hy:evL L y=some (.int .u64 1):=by exact rfl)(e:r=m/2:=by exact rfl):Runs P L w o (.value (.int .u64 r)) w:=fun ρ h=>by
 subst e
 simp [execOp,ho,h _ _ hx,h _ _ hy,go_sem]
theorem ZhU(v:Value)(k:Int)(h0:0<=k):(cad v k).add 1=cad v (k+1)\/∀a len cap,v≠ .slice (some a) len cap:=by
 cases v with
 | slice a len cap=>cases a with
   |none=>right;intro a len cap h;cases h
   | some a=>
     left
     have:(k+1).toNat=k.toNat+1:=Oa
     simp [cad,Addr.add,this,Nat.add_assoc]
 |_=>right;intro a len cap h;cases h
theorem xso2 (j:Nat) {v u0 u1:Value} {E:TypeId} {n k:Int} {c d:Int->Value} (ht:Zx P T=some 2) (hS:Sat w0 w l) (e:upd (upd c k u0) (k+1) u1=d) (ho:o.op= .store T x y:=by exact rfl) (hi:l[j]? =some (.own v 2 E n c):=by exact rfl) (hx:evL L x=some (.pointer (some (cad v k))):=by exact rfl) (hy:evL L y=some (.agg #[u0,u1]):=by exact rfl)
   (hv:u0.oneCell'=true:=by exact rfl) (hu:u1.oneCell'=true:=by exact rfl) (h0:0<=k:=by omega) (h1:k+1<n*2:=by omega):∃w',Runs P L w o .skip w'/\Sat w0 w' (l.set j (.own v 2 E n d)):=by
 subst e
 obtain⟨_,hsz⟩:=Xh (w:=w) ht
 have hS':=hS
 rw [Z3 hi] at hS'
 have hr0:=hS'.get.row
 have dO:(cad v k).add 1=cad v (k+1):=by
   rcases ZhU v k h0 with h|h
   · exact h
   · exfalso
     obtain⟨q0,q1,a,cap,rfl,hz⟩:=hr0.slh
     rcases hz with hz|⟨b,off,rfl⟩
     · omega
     · exact h _ _ _ rfl
 have fP:(cad v k).add 0=cad v k:=by simp [Addr.add]
 have c0:=hr0.cell h0 Oa
 have f0:w.frozen? (cad v k)=false:=by
   rcases hS'.get.freeRow k with h|h
   · exact absurd h (by
       obtain⟨q0,q1,a,cap,rfl,hz⟩:=hr0.slh
       rcases hz with hz|⟨b,off,rfl⟩
       · omega
       · intro hh;cases hh)
   · exact h
 have hS1:=hS'.setOwn k h0 Oa u0
 have hr1:=hS1.get.row
 have c1:=hr1.cell (k:=k+1) Oa Oa
 have f1:(w.setCell (cad v k) u0).frozen? (cad v (k+1))=false:=by
   rcases hS1.get.freeRow (k+1) with h|h
   · exact absurd h (by
       obtain⟨q0,q1,a,cap,rfl,hz⟩:=hr0.slh
       rcases hz with hz|⟨b,off,rfl⟩
       · omega
       · intro hh;cases hh)
   · exact h
 have hS2:=hS1.setOwn (k+1) Oa Oa u1
 rw [Yx hi]
 refine⟨_,fun ρ h=> ?_,hS2⟩
 simp [execOp,ho,h _ _ hx,h _ _ hy,Instr.storeAt,Instr.sureAddr,storeVar,Value.cells,hsz,storeCells,fP,dO,run_store P w _ u0 _ hv,c0,f0,run_store P _ _ u1 _ hu,c1,f1]
end
theorem XV(pv:Int->Value)(cnt:Of){i k:Int}(s:Value)(x:Int)(h:k=2*i):upd (upd (Ze pv cnt) k s) (k+1) (.int Oi x)=Ze (fun q=>if q=i then s else pv q) (fun q=>if q=i then x else cnt q):=by
 subst h
 funext q
 unfold upd Ze
 by_cases h1:q=2*i+1
 · subst h1;rw [if_pos rfl,if_neg Oa];dsimp only;rw [if_pos Oa]
 · rw [if_neg h1]
   by_cases h2:q=2*i
   · subst h2;rw [if_pos rfl,if_pos Oa];dsimp only;rw [if_pos Oa]
   · rw [if_neg h2]
     by_cases h3:q%2=0
     · rw [if_pos h3,if_pos h3];dsimp only;rw [if_neg Oa]
     · rw [if_neg h3,if_neg h3];dsimp only;rw [if_neg Oa]
theorem Wq(pv:Int->Value)(cnt s:Of)(i j:Int):Ze (fun q=>if q=j then pv (s i) else(fun q=>if q=i then pv (s j) else(fun k=>pv (s k)) q) q) (fun q=>if q=j then cnt (s i) else(fun q=>if q=i then cnt (s j) else(fun k=>cnt (s k)) q) q)=Ze (fun k=>pv (swp s i j k)) (fun k=>cnt (swp s i j k)):=by
 congr 1
 · funext q;unfold swp;dsimp only
   by_cases h1:q=j
   · rw [if_pos h1]
     by_cases h2:q=i
     · rw [if_pos h2];congr 2;omega
     · rw [if_neg h2,if_pos h1]
   · rw [if_neg h1]
     by_cases h2:q=i
     · rw [if_pos h2,if_pos h2]
     · rw [if_neg h2,if_neg h2,if_neg h1]
 · funext q;unfold swp;dsimp only
   by_cases h1:q=j
   · rw [if_pos h1]
     by_cases h2:q=i
     · rw [if_pos h2];congr 2;omega
     · rw [if_neg h2,if_pos h1]
   · rw [if_neg h1]
     by_cases h2:q=i
     · rw [if_pos h2,if_pos h2]
     · rw [if_neg h2,if_neg h2,if_neg h1]
theorem V4(s:Of)(i j:Int):upd (upd (ints s) i (.int Oi (s j))) j (.int Oi (s i))=ints (swp s i j):=by
 funext q;unfold upd ints swp
 by_cases h1:q=j
 · rw [if_pos h1]
   by_cases h2:q=i
   · rw [if_pos h2];congr 2;omega
   · rw [if_neg h2,if_pos h1]
 · rw [if_neg h1]
   by_cases h2:q=i
   · rw [if_pos h2,if_pos h2]
   · rw [if_neg h2,if_neg h2,if_neg h1]
theorem PermOn.inj{lo hi:Int}{t:Of}(h:PermOn lo hi (fun k=>k) t){i j:Int}(e:t i=t j):i=j:=by
 obtain⟨p,q,e1,e2,e3⟩:=h
 rw [e3,e3] at e
 have:=congrArg q e
 rwa [(e1 _).2,(e1 _).2] at this
theorem Sat.pmrows{w0 w:World}{l:List Ent}(h:Sat w0 w l)(i:Nat){E:TypeId}{n:Int}{vv:Int->Value}{ln:Of}{f:Og}{t:Of}(hp:PermOn 0 n (fun k=>k) t)(hi:l[i]? =some (.sem (Frame.rows E n vv ln f)):=by exact rfl):
   Sat w0 w (l.set i (.sem (Frame.rows E n (fun k=>vv (t k)) (fun k=>ln (t k)) (fun k=>f (t k))))):=
 h.resem i hi (fun⟨h1,h2⟩=>⟨fun k k0 k1=>by
     obtain⟨j,j0,j1,j2⟩:=hp.fr k0 k1
     have e:t k=j:=j2
     show(Ent.own (vv (t k)) 1 E (ln (t k)) (ints (f (t k)))).holds w
     rw [e];exact h1 j j0 j1,fun a b a0 a1 b0 b1 hab g hg hg'=>by
     obtain⟨j,j0,j1,j2⟩:=hp.fr a0 a1
     obtain⟨k,k0,k1,k2⟩:=hp.fr b0 b1
     exact h2 (t a) (t b) (by rw [j2];exact j0) (by rw [j2];exact j1) (by rw [k2];exact k0) (by rw [k2];exact k1) (fun e=>hab (hp.inj e)) g hg hg'⟩)
   (fun g ⟨a,a0,a1,hg⟩=>by
     obtain⟨j,j0,j1,j2⟩:=hp.fr a0 a1
     exact⟨t a,by rw [j2];exact j0,by rw [j2];exact j1,hg⟩)
theorem Zef{f:Int->Value}{n:Int}{x:Value}(h:∀k,(f k).oneCell'=true)(hx:x.oneCell'=true):∀k,(gsn f n x k).oneCell'=true:=fun k=>by
 unfold gsn;split
 · exact h k
 · exact hx
end Go.Proofs.Gw
namespace Go.Proofs.YtpnamgfdakfccaaGreat
open Go Go.RowKit Go.Proofs.Gw
variable {a b nm:Int} {cnt:Of} {pv:Int->Value} {vd:Value}
theorem ZaZ:Zd Om 138=true:=Oc
theorem Zm3:Zd Om 218=true:=Oc
theorem ZhE:Zd Om 272=true:=Oc
theorem ZaV:Zd Om 273=true:=Oc
theorem Zmv:Zd Om 308=true:=Oc
theorem Zdv:Zd Om 325=true:=Oc
theorem Yv:Zu Om 28=some (97,2):=Oc
theorem Z2:Zx Om 97=some 2:=Oc
theorem ZdE{n:Int}{s:Of}{F:Gw.Frame}{m:Int}(w0 w:World)(hS:Sat w0 w [.own vd 2 97 n (Ze (fun z9=>pv (s z9)) (fun z9=>cnt (s z9))),.sem F])(hsl:Slh vd n)(hn8:n<=100000000)(qk:∀x,(pv x).oneCell'=true)(a0:0<=a)(m0:0<=m)(ab:a+m<=b)(bn:b+m<=n):
   Calls Om 325 [vd,.int Oi a,.int Oi b,.int Oi m,.func (.func 138) #[] #[]].toArray w fun e w=>∃v,e= .returned v/\v= .tuple #[]/\Sat w0 w [.own vd 2 97 n (Ze (fun z9=>pv ((swr s a b m) z9)) (fun z9=>cnt ((swr s a b m) z9))),.sem F]:=by
 refine zenF Tryz.func325 Tryz.ntmps325 ?_
 refine zsr<|(zP)<|zx6<|zlp (fun mm M w=>∃(t:Of) (i:Int),mm=((m-i).toNat)/\(0<=i)/\(i<=m)/\(t=swr s a b i)/\M= [(0,vd),(1,.int Oi a),(2,.int Oi b),(3,.int Oi m),(10,.int Oi i)]/\Sat w0 w [.own vd 2 97 n (Ze (fun z9=>pv (t z9)) (fun z9=>cnt (t z9))),.sem F]) ⟨s,0,rfl,Oa,Oa,?_,rfl,hS⟩ ?_
 ·
  exact(Zbs s a b).symm
 clear hS w
 rintro mm M w ⟨t,i,rfl,i0,i1,ht,rfl,hS⟩
 refine zsq<|zsr<|(Oo)<|zlt<|Zf ?_ ?_<;>intro hc
 ·
  refine zsk<|ztn<|zsq<|zbk<|zdst [0,1] [1] 21 mx_ hS ?_;clear hS;intro w hS
  refine(zDw 0 xmv)<|(zDw 1 xmv)<|(zDw 2 xmv)<|(zDw 3 (Zh (r:=a+i)))<|(zDw 4 xmv)<|(zDw 5 xmv)<|(zDw 6 xmv)<|(zDw 7 (Zh (r:=b+i)))<|(zDw 8 xmv)<|(zDw 9 xmv)<|(zDw 10 xmv)<|(zDw 11 (Zh (r:=b+i)))<|(zDw 12 (xix (kk:=2*b+2*i) Yv hsl))<|zdl 13 (fun w hS=>(xlw (cs:= [(pv (t (b+i))),.int Oi (cnt (t (b+i)))]) Z2 (hS.rowN 0 rfl) (Zy (k:=2*b+2*i) (i:=b+i) (fun z9=>pv (t z9)) (fun z9=>cnt (t z9)) Oa))) ?_
  refine(zDw 14 xmv)<|(zDw 15 xmv)<|(zDw 16 xmv)<|(zDw 17 (Zh (r:=a+i)))<|(zDw 18 (xix (kk:=2*a+2*i) Yv hsl))<|zdl 19 (fun w hS=>(xlw (cs:= [(pv (t (a+i))),.int Oi (cnt (t (a+i)))]) Z2 (hS.rowN 0 rfl) (Zy (k:=2*a+2*i) (i:=a+i) (fun z9=>pv (t z9)) (fun z9=>cnt (t z9)) Oa))) ?_
  refine(zDw 20 (xix (kk:=2*a+2*i) Yv hsl))<|zde 21 (xso2 0 Z2 hS (XV (i:=a+i) (k:=2*a+2*i) _ _ _ _ Oa) (hv:=qk _)) ?_;clear hS;rintro w hS
  refine⟨⟨fun h=>absurd h (by decide),hS.pk [1]⟩,?_⟩
  refine(zDw 22 (xix (kk:=2*b+2*i) Yv hsl))<|zde 23 (xso2 0 Z2 hS (Eq.trans (XV (i:=b+i) (k:=2*b+2*i) _ _ _ _ Oa) (Wq pv cnt t (a+i) (b+i))) (hv:=qk _)) ?_;clear hS;rintro w hS
  refine⟨⟨fun h=>absurd h (by decide),hS.pk [1]⟩,?_⟩
  refine zdd<|zbn<|ztn<|zrg ?_
  refine(zP)<|(zV (Zh (r:=i+1)))<|(zP)<|zln<|zlq ⟨swp t (a+i) (b+i),i+1,rfl,Oa,Oa,?_,rfl,hS⟩
  ·
   rw [ht];exact Zbt i0 Oa Oa Oa
 refine zxt<|ztx<|ztx<|zbh<|XD ⟨_,rfl,?_⟩
 obtain rfl:i=m:=Oa
 subst ht
 exact⟨rfl,hS⟩
theorem ZnC{n:Int}{s:Of}{F:Gw.Frame}{m:Int}(w0 w:World)(hS:Sat w0 w [.own vd 2 97 n (Ze (fun z9=>pv (s z9)) (fun z9=>cnt (s z9))),.sem F])(hsl:Slh vd n)(hn8:n<=100000000)(qk:∀x,(pv x).oneCell'=true)(a0:0<=a)(am:a<m)(mb:m<b)(bn:b<=n):
   Calls Om 308 [vd,.int Oi a,.int Oi m,.int Oi b,.func (.func 138) #[] #[]].toArray w fun e w=>∃v,e= .returned v/\v= .tuple #[]/\Sat w0 w [.own vd 2 97 n (Ze (fun z9=>pv ((rot s a m b) z9)) (fun z9=>cnt ((rot s a m b) z9))),.sem F]:=by
 refine zenF Tryz.func308 Tryz.ntmps308 ?_
 refine zsr<|(On)<|(zV (Zp (r:=m-a)))<|(zP)<|zlz<|(On)<|(zV (Zp (r:=b-m)))<|(zP)<|zlt<|zsq<|zbk<|zlp (fun mm M w=>∃(t:Of) (i:Int) (j:Int),mm=((i+j).toNat)/\(1<=i)/\(1<=j)/\(a<=m-i)/\(m+j<=b)/\(rot t (m-i) m (m+j)=rot s a m b)/\M= [(0,vd),(2,.int Oi m),(4,.func (.func 138) #[] #[]),(10,.int Oi i),(11,.int Oi j)]/\Sat w0 w [.own vd 2 97 n (Ze (fun z9=>pv (t z9)) (fun z9=>cnt (t z9))),.sem F]) ⟨s,m-a,b-m,rfl,Oa,Oa,Oa,Oa,?_,rfl,hS⟩ ?_
 ·
  rw [show m-(m-a)=a by omega,show m+(b-m)=b by omega]
 clear hS w
 rintro mm M w ⟨t,i,j,rfl,i0,j0,ia,jb,hr,rfl,hS⟩
 refine zsq<|zsr<|(Oo)<|zlt<|Zf ?_ ?_<;>intro hc
 ·
  refine zsk<|ztn<|zbk<|zsr<|(Oo)<|zlt<|Zf ?_ ?_<;>intro hc
  ·
   refine zsr<|(Oo)<|(zV (Zp (r:=m-i)))<|(Oo)<|zlc (xc0 Zdv) (ZdE (s:=t) (a:=m-i) (b:=m) (m:=j) w0 w hS hsl hn8 qk Oa Oa Oa Oa) ?_;rintro _ w ⟨rfl,hS⟩
   refine zlt<|zrg<|(On)<|(zV (Zp (r:=i-j)))<|(zP)<|zln<|zbn<|zlq ⟨(swr t (m-i) m j),i-j,j,rfl,Oa,Oa,Oa,Oa,?_,rfl,hS⟩
   ·
    first|(rw [<-hr,show m-(i-j)=m-i+j by omega];exact VT Oa Oa)|(rw [<-hr,show m+(j-i)=m+j-i by omega];exact W9 Oa Oa)
  refine zsr<|(Oo)<|(zV (Zp (r:=m-i)))<|(On)<|(zV (Zh (r:=m+j)))<|(zP)<|(zV (Zp (r:=m+j-i)))<|(On)<|zlc (xc0 Zdv) (ZdE (s:=t) (a:=m-i) (b:=m+j-i) (m:=i) w0 w hS hsl hn8 qk Oa Oa Oa Oa) ?_;rintro _ w ⟨rfl,hS⟩
  refine zlt<|zrg<|(On)<|(zV (Zp (r:=j-i)))<|(zP)<|zln<|zbn<|zlq ⟨(swr t (m-i) (m+j-i) i),i,j-i,rfl,Oa,Oa,Oa,Oa,?_,rfl,hS⟩
  ·
   first|(rw [<-hr,show m-(i-j)=m-i+j by omega];exact VT Oa Oa)|(rw [<-hr,show m+(j-i)=m+j-i by omega];exact W9 Oa Oa)
 refine zxt<|ztx<|ztx<|zbh<|ztn<|zrg<|(Oo)<|(zV (Zp (r:=m-i)))<|(Oo)<|zlc (xc0 Zdv) (ZdE (s:=t) (a:=m-i) (b:=m) (m:=i) w0 w hS hsl hn8 qk Oa Oa Oa Oa) ?_;rintro _ w ⟨rfl,hS⟩
 refine zln<|XD ⟨_,rfl,?_⟩
 have hz:(swr t (m-i) m i)=rot s a m b:=by
   rw [<-hr,show j=i by omega];exact ZbH Oa
 rw [hz] at hS
 exact⟨rfl,hS⟩
theorem Zil {n:Int} {s:Of} {lt:Int->Int->Prop} {F:Gw.Frame} (w0 w:World) (hS:Sat w0 w [.own vd 2 97 n (Ze (fun z9=>pv (s z9)) (fun z9=>cnt (s z9))),.sem F]) (hsl:Slh vd n) (hn8:n<=100000000) (qk:∀x,(pv x).oneCell'=true) (qx:∀(w:World) (x y:Int),0<=x->x<nm->0<=y->y<nm->Below w0.heap.size w0 w->F.holds w->Calls Om 138 [.agg #[pv x,.int Oi (cnt x)],.agg #[pv y,.int Oi (cnt y)]].toArray w fun e w'=>∃v,e= .returned v/\∃c:Int,v= .int Oi c/\(c<0↔lt x y)/\Sat w w' []) (hd:∀k,0<=k->k<n->0<=s k/\s k<nm) (hw:Swo lt) (a0:0<=a) (ab:a<=b) (bn:b<=n) (qQ:U9 a b s):
   Calls Om 272 [vd,.int Oi a,.int Oi b,.func (.func 138) #[] #[]].toArray w fun e w=>∃v,e= .returned v/\v= .tuple #[]/\∃t:Of,PermOn a b s t/\Srt (Tie lt) a b t/\Sat w0 w [.own vd 2 97 n (Ze (fun z9=>pv (t z9)) (fun z9=>cnt (t z9))),.sem F]:=by
 refine zenF Tryz.func272 Tryz.ntmps272 ?_
 refine zsr<|(zP)<|(zV (Zh (r:=a+1)))<|(zP)<|zx6<|zlp (fun mm M w=>∃(t:Of) (i:Int),mm=((b-i).toNat)/\(a+1<=i)/\(i<=b\/i=a+1)/\(PermOn a i s t)/\(Srt (Tie lt) a i t)/\(∀k,0<=k->k<n->0<=t k/\t k<nm)/\M= [(0,vd),(1,.int Oi a),(2,.int Oi b),(3,.func (.func 138) #[] #[]),(8,.int Oi i)]/\Sat w0 w [.own vd 2 97 n (Ze (fun z9=>pv (t z9)) (fun z9=>cnt (t z9))),.sem F]) ⟨s,a+1,rfl,Oa,Oa,?_,?_,?_,rfl,hS⟩ ?_
 ·
  exact .refl _ _ _
 ·
  intro p q p0 pq q1;omega
 ·
  exact hd
 clear hS w
 rintro mm M w ⟨t,i,rfl,i0,i1,hp,hs,hd1,rfl,hS⟩
 refine zsq<|zsr<|(Oo)<|zlt<|Zf ?_ ?_<;>intro hc
 ·
  refine zx3<|(On)<|zx6<|zlp (fun mm M w=>∃(t2:Of) (j:Int),mm=((j-a).toNat)/\(a<=j)/\(j<=i)/\(Ins lt a i j t t2)/\(∀k,0<=k->k<n->0<=t2 k/\t2 k<nm)/\M= [(0,vd),(1,.int Oi a),(2,.int Oi b),(3,.func (.func 138) #[] #[]),(8,.int Oi i),(9,.int Oi j)]/\Sat w0 w [.own vd 2 97 n (Ze (fun z9=>pv (t2 z9)) (fun z9=>cnt (t2 z9))),.sem F]) ⟨t,i,rfl,Oa,Oa,?_,?_,rfl,hS⟩ ?_
  ·
   exact Ins.start Oa hs (Zd9 hp qQ Oa)
  ·
   exact hd1
  clear hS w
  rintro mm M w ⟨t2,j,rfl,j0,j1,hI,hd2,rfl,hS⟩
  refine zsq<|zsq<|zdst [0,1] [0,1] 1000 mx_ hS ?_;clear hS;intro w hS
  refine(zDw 0 xmv)<|(zDw 1 xmv)<|(zDw 2 Yw)<|(zDw 3 xmv)<|zdb 21 ?_ ?_<;>intro hc
  ·
   refine(zDw 4 xmv)<|(zDw 5 xmv)<|(zDw 6 xmv)<|(zDw 7 (xix (kk:=2*j) Yv hsl))<|(zDl 8 (fun w hS=>(xlw (cs:= [(pv (t2 j)),.int Oi (cnt (t2 j))]) Z2 (hS.rowN 0 rfl) (Zy (k:=2*j) (i:=j) (fun z9=>pv (t2 z9)) (fun z9=>cnt (t2 z9)) Oa))))<|(zDw 9 xmv)<|(zDw 10 xmv)<|(zDw 11 (Zp (r:=j-1)))<|(zDw 12 (xix (kk:=2*j-2) Yv hsl))<|(zDl 13 (fun w hS=>(xlw (cs:= [(pv (t2 (j-1))),.int Oi (cnt (t2 (j-1)))]) Z2 (hS.rowN 0 rfl) (Zy (k:=2*j-2) (i:=j-1) (fun z9=>pv (t2 z9)) (fun z9=>cnt (t2 z9)) Oa))))<|zdc 14 (xc0 ZaZ) (qx w (t2 j) (t2 (j-1)) (hd2 j Oa Oa).1 (hd2 j Oa Oa).2 (hd2 (j-1) Oa Oa).1 (hd2 (j-1) Oa Oa).2 hS.below (hS.holds _ (List.mem_of_getElem? (i:=1) rfl))) ?_;rintro _ w ⟨c1,rfl,hc1,hS'⟩
   replace hS:=hS.cmp hS';clear hS'
   refine⟨⟨fun _=>hS,hS⟩,?_⟩
   refine(zDw 15 Yc)<|(zDw 16 xpt)<|zdd<|ztn ?_
   refine Zf ?_ ?_<;>intro hc
   ·
    refine zsk<|ztn<|zsq<|zbk<|zdst [0,1] [1] 15 mx_ hS ?_;clear hS;intro w hS
    refine(zDw 0 xmv)<|(zDw 1 xmv)<|(zDw 2 xmv)<|(zDw 3 xmv)<|(zDw 4 (Zp (r:=j-1)))<|(zDw 5 xmv)<|(zDw 6 xmv)<|(zDw 7 (Zp (r:=j-1)))<|(zDw 8 (xix (kk:=2*j-2) Yv hsl))<|zdl 9 (fun w hS=>(xlw (cs:= [(pv (t2 (j-1))),.int Oi (cnt (t2 (j-1)))]) Z2 (hS.rowN 0 rfl) (Zy (k:=2*j-2) (i:=j-1) (fun z9=>pv (t2 z9)) (fun z9=>cnt (t2 z9)) Oa))) ?_
    refine(zDw 10 xmv)<|(zDw 11 xmv)<|(zDw 12 (xix (kk:=2*j) Yv hsl))<|zdl 13 (fun w hS=>(xlw (cs:= [(pv (t2 j)),.int Oi (cnt (t2 j))]) Z2 (hS.rowN 0 rfl) (Zy (k:=2*j) (i:=j) (fun z9=>pv (t2 z9)) (fun z9=>cnt (t2 z9)) Oa))) ?_
    refine(zDw 14 (xix (kk:=2*j) Yv hsl))<|zde 15 (xso2 0 Z2 hS (XV (i:=j) (k:=2*j) _ _ _ _ Oa) (hv:=qk _)) ?_;clear hS;rintro w hS
    refine⟨⟨fun h=>absurd h (by decide),hS.pk [1]⟩,?_⟩
    refine(zDw 16 (xix (kk:=2*j-2) Yv hsl))<|zde 17 (xso2 0 Z2 hS (Eq.trans (XV (i:=j-1) (k:=2*j-2) _ _ _ _ Oa) (Wq pv cnt t2 j (j-1))) (hv:=qk _)) ?_;clear hS;rintro w hS
    refine⟨⟨fun h=>absurd h (by decide),hS.pk [1]⟩,?_⟩
    refine zdd<|zbn<|ztn<|zrg ?_
    refine(zP)<|(zV (Zp (r:=j-1)))<|(zP)<|zln<|zlq ⟨swp t2 j (j-1),j-1,rfl,Oa,Oa,?_,?_,rfl,hS⟩
    ·
     exact hI.step Oa Oa (hc1.1 ‹c1<0›)
    ·
     exact(Tz (lo:=a) (hi:=n) Oa Oa Oa Oa).dom a0 (.inl Oa) hd2
   refine zxt<|ztx<|ztx<|zbh<|zbn<|ztn<|zrg<|(zP)<|(zV (Zh (r:=i+1)))<|(zP)<|zln<|zlq ⟨t2,i+1,rfl,Oa,Oa,?_,?_,?_,rfl,hS⟩
   ·
    exact(hp.mono Oa Oa).trans hI.perm
   ·
    exact hI.fin hw Oa Oa (by first|exact .inl Oa|exact .inr fun h=>absurd (hc1.2 h) ‹¬c1<0›)
   ·
    exact hd2
  refine(zDo 4)<|(zDo 5)<|(zDo 6)<|(zDo 7)<|(zDo 8)<|(zDo 9)<|(zDo 10)<|(zDo 11)<|(zDo 12)<|(zDo 13)<|(zDo 14)<|(zDo 15)<|(zDw 16 xpf)<|zdd<|ztn<|zcf<|zxt<|ztx<|ztx<|zbh<|zbn<|ztn<|zrg ?_
  refine(zP)<|(zV (Zh (r:=i+1)))<|(zP)<|zln<|zlq ⟨t2,i+1,rfl,Oa,Oa,?_,?_,?_,rfl,hS⟩
  ·
   exact(hp.mono Oa Oa).trans hI.perm
  ·
   exact hI.fin hw Oa Oa (by first|exact .inl Oa|exact .inr fun h=>absurd (hc1.2 h) ‹¬c1<0›)
  ·
   exact hd2
 refine zxt<|ztx<|ztx<|zbh<|XD ⟨_,rfl,?_⟩
 refine⟨rfl,t,?_,?_,hS⟩
 · by_cases hab:i<=b
   · exact hp.mono Oa Oa
   · obtain⟨p_,q_,e1,e2,e3⟩:=hp
     exact⟨p_,q_,e1,fun k hk=>by
       by_cases hka:k=a
       · subst hka
         apply Classical.byContradiction;intro hne
         have h5:=e2 (p_ k) Oa
         have h6:=congrArg q_ h5
         rw [(e1 _).2,(e1 _).2] at h6;exact hne h6
       · exact e2 k Oa,e3⟩
 · exact hs.mono Oa Oa
theorem ZhX {n:Int} {lt:Int->Int->Prop} {F:Gw.Frame} (hsl:Slh vd n) (hn8:n<=100000000) (qk:∀x,(pv x).oneCell'=true) (hw:Swo lt) (N:Nat):∀{s:Of} {a m b:Int} (w0 w:World) (hS:Sat w0 w [.own vd 2 97 n (Ze (fun z9=>pv (s z9)) (fun z9=>cnt (s z9))),.sem F]) (qx:∀(w:World) (x y:Int),0<=x->x<nm->0<=y->y<nm->Below w0.heap.size w0 w->F.holds w->Calls Om 138 [.agg #[pv x,.int Oi (cnt x)],.agg #[pv y,.int Oi (cnt y)]].toArray w fun e w'=>∃v,e= .returned v/\∃c:Int,v= .int Oi c/\(c<0↔lt x y)/\Sat w w' []) (hd:∀k,0<=k->k<n->0<=s k/\s k<nm) (a0:0<=a) (am:a<m) (mb:m<b) (bn:b<=n) (h1:Srt (Tie lt) a m s) (h2:Srt (Tie lt) m b s) (hp:Parted a m b s) (hN:(b-a).toNat<N),
   Calls Om 273 [vd,.int Oi a,.int Oi m,.int Oi b,.func (.func 138) #[] #[]].toArray w fun e w=>∃v,e= .returned v/\v= .tuple #[]/\∃t:Of,PermOn a b s t/\Srt (Tie lt) a b t/\Sat w0 w [.own vd 2 97 n (Ze (fun z9=>pv (t z9)) (fun z9=>cnt (t z9))),.sem F]:=by
 induction N with
 |zero=>intros;omega
 | succ N ih=>
   intro s a m b w0 w hS qx hd a0 am mb bn h1 h2 hp hN
   refine zenF Tryz.func273 Tryz.ntmps273 ?_
   refine zsq<|zsr<|(On)<|(zV (Zp (r:=m-a)))<|(zP)<|zlt<|Zf ?_ ?_<;>intro hc
   ·
    refine zsr<|(On)<|zlz<|(On)<|zlt<|zsq<|zbk<|zlp (fun mm M w=>∃(i:Int) (j:Int),mm=((j-i).toNat)/\(m<=i)/\(i<=j)/\(j<=b)/\(i=a+1\/lt (s (i-1)) (s a))/\(j=b\/¬lt (s j) (s a))/\M= [(0,vd),(1,.int Oi a),(2,.int Oi m),(3,.int Oi b),(4,.func (.func 138) #[] #[]),(10,.int Oi i),(11,.int Oi j)]/\Sat w0 w [.own vd 2 97 n (Ze (fun z9=>pv (s z9)) (fun z9=>cnt (s z9))),.sem F]) ⟨m,b,rfl,Oa,Oa,Oa,?_,?_,rfl,hS⟩ ?_
    ·
     exact .inl Oa
    ·
     exact .inl rfl
    clear hS w
    rintro mm M w ⟨i,j,rfl,i0,ij,j1,hi,hj,rfl,hS⟩
    refine zsq<|zsr<|(Oo)<|zlt<|Zf ?_ ?_<;>intro hc
    ·
     refine zsk<|ztn<|zbk<|zsr<|(On)<|(zV (Zh (r:=i+j)))<|(zV (xcv Rt X7))<|(zV (US (r:=((i+j)/2))))<|(zV (xcv Ws Zau))<|(zP)<|zx7<|zdst [0,1] [0,1] 1000 mx_ hS ?_;clear hS;intro w hS
     refine(zDw 0 xmv)<|(zDw 1 xmv)<|(zDw 2 xmv)<|(zDw 3 (xix (kk:=2*((i+j)/2)) Yv hsl))<|(zDl 4 (fun w hS=>(xlw (cs:= [(pv (s ((i+j)/2))),.int Oi (cnt (s ((i+j)/2)))]) Z2 (hS.rowN 0 rfl) (Zy (k:=2*((i+j)/2)) (i:=((i+j)/2)) (fun z9=>pv (s z9)) (fun z9=>cnt (s z9)) Oa))))<|(zDw 5 xmv)<|(zDw 6 xmv)<|(zDw 7 (xix (kk:=2*a) Yv hsl))<|(zDl 8 (fun w hS=>(xlw (cs:= [(pv (s a)),.int Oi (cnt (s a))]) Z2 (hS.rowN 0 rfl) (Zy (k:=2*a) (i:=a) (fun z9=>pv (s z9)) (fun z9=>cnt (s z9)) Oa))))<|zdc 9 (xc0 ZaZ) (qx w (s ((i+j)/2)) (s a) (hd ((i+j)/2) Oa Oa).1 (hd ((i+j)/2) Oa Oa).2 (hd a Oa Oa).1 (hd a Oa Oa).2 hS.below (hS.holds _ (List.mem_of_getElem? (i:=1) rfl))) ?_;rintro _ w ⟨c1,rfl,hc1,hS'⟩
     replace hS:=hS.cmp hS';clear hS'
     refine⟨⟨fun _=>hS,hS⟩,?_⟩
     refine(zDw 10 Yc)<|zdd<|ztn ?_
     refine Zf ?_ ?_<;>intro hc
     ·
      refine zrg<|(zP)<|(zV (Zh (r:=((i+j)/2)+1)))<|(zP)<|zln<|zbn<|zlq ⟨((i+j)/2)+1,j,rfl,Oa,Oa,Oa,?_,?_,rfl,hS⟩
      ·
       first|exact hi|(right;rw [show(i+j)/2+1-1=(i+j)/2 by omega];exact hc1.1 ‹c1<0›)
      ·
       first|exact hj|exact .inr fun h=>absurd (hc1.2 h) ‹¬c1<0›
     refine zrg<|(On)<|zln<|zbn<|zlq ⟨i,((i+j)/2),rfl,Oa,Oa,Oa,?_,?_,rfl,hS⟩
     ·
      first|exact hi|(right;rw [show(i+j)/2+1-1=(i+j)/2 by omega];exact hc1.1 ‹c1<0›)
     ·
      first|exact hj|exact .inr fun h=>absurd (hc1.2 h) ‹¬c1<0›
    refine zx18<|(On)<|zx6<|zlp (fun mm M w=>∃(t:Of) (k:Int),mm=((i-1-k).toNat)/\(a<=k)/\(k<=i-1)/\(t=rot s a (a+1) (k+1))/\M= [(0,vd),(1,.int Oi a),(2,.int Oi m),(3,.int Oi b),(4,.func (.func 138) #[] #[]),(10,.int Oi i),(13,.int Oi k)]/\Sat w0 w [.own vd 2 97 n (Ze (fun z9=>pv (t z9)) (fun z9=>cnt (t z9))),.sem F]) ⟨s,a,rfl,Oa,Oa,?_,rfl,hS⟩ ?_
    ·
     exact(ZbD s a).symm
    clear hS w
    rintro mm M w ⟨t,k,rfl,k0,k1,ht,rfl,hS⟩
    refine zsq<|zsr<|(On)<|(zV (Zp (r:=i-1)))<|(zP)<|zlt<|Zf ?_ ?_<;>intro hc
    ·
     refine zsk<|ztn<|zsq<|zbk<|zdst [0,1] [1] 15 mx_ hS ?_;clear hS;intro w hS
     refine(zDw 0 xmv)<|(zDw 1 xmv)<|(zDw 2 xmv)<|(zDw 3 xmv)<|(zDw 4 (Zh (r:=k+1)))<|(zDw 5 xmv)<|(zDw 6 xmv)<|(zDw 7 (Zh (r:=k+1)))<|(zDw 8 (xix (kk:=2*k+2) Yv hsl))<|zdl 9 (fun w hS=>(xlw (cs:= [(pv (t (k+1))),.int Oi (cnt (t (k+1)))]) Z2 (hS.rowN 0 rfl) (Zy (k:=2*k+2) (i:=k+1) (fun z9=>pv (t z9)) (fun z9=>cnt (t z9)) Oa))) ?_
     refine(zDw 10 xmv)<|(zDw 11 xmv)<|(zDw 12 (xix (kk:=2*k) Yv hsl))<|zdl 13 (fun w hS=>(xlw (cs:= [(pv (t k)),.int Oi (cnt (t k))]) Z2 (hS.rowN 0 rfl) (Zy (k:=2*k) (i:=k) (fun z9=>pv (t z9)) (fun z9=>cnt (t z9)) Oa))) ?_
     refine(zDw 14 (xix (kk:=2*k) Yv hsl))<|zde 15 (xso2 0 Z2 hS (XV (i:=k) (k:=2*k) _ _ _ _ Oa) (hv:=qk _)) ?_;clear hS;rintro w hS
     refine⟨⟨fun h=>absurd h (by decide),hS.pk [1]⟩,?_⟩
     refine(zDw 16 (xix (kk:=2*k+2) Yv hsl))<|zde 17 (xso2 0 Z2 hS (Eq.trans (XV (i:=k+1) (k:=2*k+2) _ _ _ _ Oa) (Wq pv cnt t k (k+1))) (hv:=qk _)) ?_;clear hS;rintro w hS
     refine⟨⟨fun h=>absurd h (by decide),hS.pk [1]⟩,?_⟩
     refine zdd<|zbn<|ztn<|zrg ?_
     refine(zP)<|(zV (Zh (r:=k+1)))<|(zP)<|zln<|zlq ⟨swp t k (k+1),k+1,rfl,Oa,Oa,?_,rfl,hS⟩
     ·
      rw [ht];exact ZbE Oa
    refine zxt<|ztx<|ztx<|zbh<|ztn<|zrt<|ztr<|zf0 ⟨_,rfl,?_⟩
    have hki:k+1=i:=Oa
    rw [hki] at ht
    refine⟨rfl,t,?_,?_,hS⟩
    · rw [ht];exact(Ys Oa Oa).mono Oa Oa
    · rw [ht];obtain rfl:m=a+1:=Oa
      exact R8 hw h2 (fun j j0 j1=>hp a j Oa Oa j0 j1) Oa Oa hi (by rw [show i=j by omega];exact hj)
   refine zsk<|ztn<|zsq<|zsr<|(On)<|(zV (Zp (r:=b-m)))<|(zP)<|zlt<|Zf ?_ ?_<;>intro hc
   ·
    refine zsr<|(On)<|zlz<|(On)<|zlt<|zsq<|zbk<|zlp (fun mm M w=>∃(i:Int) (j:Int),mm=((j-i).toNat)/\(a<=i)/\(i<=j)/\(j<=m)/\(i=a\/¬lt (s m) (s (i-1)))/\(j=m\/lt (s m) (s j))/\M= [(0,vd),(1,.int Oi a),(2,.int Oi m),(3,.int Oi b),(4,.func (.func 138) #[] #[]),(14,.int Oi i),(15,.int Oi j)]/\Sat w0 w [.own vd 2 97 n (Ze (fun z9=>pv (s z9)) (fun z9=>cnt (s z9))),.sem F]) ⟨a,m,rfl,Oa,Oa,Oa,?_,?_,rfl,hS⟩ ?_
    ·
     exact .inl rfl
    ·
     exact .inl rfl
    clear hS w
    rintro mm M w ⟨i,j,rfl,i0,ij,j1,hi,hj,rfl,hS⟩
    refine zsq<|zsr<|(Oo)<|zlt<|Zf ?_ ?_<;>intro hc
    ·
     refine zsk<|ztn<|zbk<|zsr<|(On)<|(zV (Zh (r:=i+j)))<|(zV (xcv Rt X7))<|(zV (US (r:=((i+j)/2))))<|(zV (xcv Ws Zau))<|(zP)<|zx7<|zdst [0,1] [0,1] 1000 mx_ hS ?_;clear hS;intro w hS
     refine(zDw 0 xmv)<|(zDw 1 xmv)<|(zDw 2 xmv)<|(zDw 3 (xix (kk:=2*m) Yv hsl))<|(zDl 4 (fun w hS=>(xlw (cs:= [(pv (s m)),.int Oi (cnt (s m))]) Z2 (hS.rowN 0 rfl) (Zy (k:=2*m) (i:=m) (fun z9=>pv (s z9)) (fun z9=>cnt (s z9)) Oa))))<|(zDw 5 xmv)<|(zDw 6 xmv)<|(zDw 7 (xix (kk:=2*((i+j)/2)) Yv hsl))<|(zDl 8 (fun w hS=>(xlw (cs:= [(pv (s ((i+j)/2))),.int Oi (cnt (s ((i+j)/2)))]) Z2 (hS.rowN 0 rfl) (Zy (k:=2*((i+j)/2)) (i:=((i+j)/2)) (fun z9=>pv (s z9)) (fun z9=>cnt (s z9)) Oa))))<|zdc 9 (xc0 ZaZ) (qx w (s m) (s ((i+j)/2)) (hd m Oa Oa).1 (hd m Oa Oa).2 (hd ((i+j)/2) Oa Oa).1 (hd ((i+j)/2) Oa Oa).2 hS.below (hS.holds _ (List.mem_of_getElem? (i:=1) rfl))) ?_;rintro _ w ⟨c1,rfl,hc1,hS'⟩
     replace hS:=hS.cmp hS';clear hS'
     refine⟨⟨fun _=>hS,hS⟩,?_⟩
     refine(zDw 10 Yc)<|(zDw 11 YI)<|zdd<|ztn ?_
     refine Zf ?_ ?_<;>intro hc
     ·
      refine zrg<|(zP)<|(zV (Zh (r:=((i+j)/2)+1)))<|(zP)<|zln<|zbn<|zlq ⟨((i+j)/2)+1,j,rfl,Oa,Oa,Oa,?_,?_,rfl,hS⟩
      ·
       first|exact hi|(right;rw [show(i+j)/2+1-1=(i+j)/2 by omega];exact fun h=>absurd (hc1.2 h) ‹¬c1<0›)
      ·
       first|exact hj|exact .inr (hc1.1 (Od ‹_›))
     refine zrg<|(On)<|zln<|zbn<|zlq ⟨i,((i+j)/2),rfl,Oa,Oa,Oa,?_,?_,rfl,hS⟩
     ·
      first|exact hi|(right;rw [show(i+j)/2+1-1=(i+j)/2 by omega];exact fun h=>absurd (hc1.2 h) ‹¬c1<0›)
     ·
      first|exact hj|exact .inr (hc1.1 (Od ‹_›))
    refine zx18<|(On)<|zx6<|zlp (fun mm M w=>∃(t:Of) (k:Int),mm=((k-i).toNat)/\(i<=k)/\(k<=m)/\(t=rot s k m (m+1))/\M= [(0,vd),(1,.int Oi a),(2,.int Oi m),(3,.int Oi b),(4,.func (.func 138) #[] #[]),(14,.int Oi i),(17,.int Oi k)]/\Sat w0 w [.own vd 2 97 n (Ze (fun z9=>pv (t z9)) (fun z9=>cnt (t z9))),.sem F]) ⟨s,m,rfl,Oa,Oa,?_,rfl,hS⟩ ?_
    ·
     exact(ZbB s m).symm
    clear hS w
    rintro mm M w ⟨t,k,rfl,k0,k1,ht,rfl,hS⟩
    refine zsq<|zsr<|(Oo)<|zlt<|Zf ?_ ?_<;>intro hc
    ·
     refine zsk<|ztn<|zsq<|zbk<|zdst [0,1] [1] 15 mx_ hS ?_;clear hS;intro w hS
     refine(zDw 0 xmv)<|(zDw 1 xmv)<|(zDw 2 xmv)<|(zDw 3 xmv)<|(zDw 4 (Zp (r:=k-1)))<|(zDw 5 xmv)<|(zDw 6 xmv)<|(zDw 7 (Zp (r:=k-1)))<|(zDw 8 (xix (kk:=2*k-2) Yv hsl))<|zdl 9 (fun w hS=>(xlw (cs:= [(pv (t (k-1))),.int Oi (cnt (t (k-1)))]) Z2 (hS.rowN 0 rfl) (Zy (k:=2*k-2) (i:=k-1) (fun z9=>pv (t z9)) (fun z9=>cnt (t z9)) Oa))) ?_
     refine(zDw 10 xmv)<|(zDw 11 xmv)<|(zDw 12 (xix (kk:=2*k) Yv hsl))<|zdl 13 (fun w hS=>(xlw (cs:= [(pv (t k)),.int Oi (cnt (t k))]) Z2 (hS.rowN 0 rfl) (Zy (k:=2*k) (i:=k) (fun z9=>pv (t z9)) (fun z9=>cnt (t z9)) Oa))) ?_
     refine(zDw 14 (xix (kk:=2*k) Yv hsl))<|zde 15 (xso2 0 Z2 hS (XV (i:=k) (k:=2*k) _ _ _ _ Oa) (hv:=qk _)) ?_;clear hS;rintro w hS
     refine⟨⟨fun h=>absurd h (by decide),hS.pk [1]⟩,?_⟩
     refine(zDw 16 (xix (kk:=2*k-2) Yv hsl))<|zde 17 (xso2 0 Z2 hS (Eq.trans (XV (i:=k-1) (k:=2*k-2) _ _ _ _ Oa) (Wq pv cnt t k (k-1))) (hv:=qk _)) ?_;clear hS;rintro w hS
     refine⟨⟨fun h=>absurd h (by decide),hS.pk [1]⟩,?_⟩
     refine zdd<|zbn<|ztn<|zrg ?_
     refine(zP)<|(zV (Zp (r:=k-1)))<|(zP)<|zln<|zlq ⟨swp t k (k-1),k-1,rfl,Oa,Oa,?_,rfl,hS⟩
     ·
      rw [ht];exact ZbC Oa
    refine zxt<|ztx<|ztx<|zbh<|ztn<|zrt<|ztr<|zf0 ⟨_,rfl,?_⟩
    have hki:k=i:=Oa
    rw [hki] at ht
    refine⟨rfl,t,?_,?_,hS⟩
    · rw [ht];exact(Ys Oa Oa).mono Oa Oa
    · rw [ht];obtain rfl:b=m+1:=Oa
      exact TT hw h1 (fun i i0 i1=>hp i m i0 i1 Oa Oa) Oa Oa hi (by rw [show i=j by omega];exact hj)
   refine ZV<|(On)<|(zV (Zh (r:=a+b)))<|(zV (xcv Rt X7))<|(zV (US (r:=((a+b)/2))))<|(zV (xcv Ws Zau))<|(zP)<|zlz<|(On)<|(zV (Zh (r:=((a+b)/2)+m)))<|(zP)<|zlz<|(On)<|zx7 ?_
   refine VI (fun M w=>∃(mid:Int) (s0:Int) (r0:Int),(mid=((a+b)/2))/\((mid<m/\s0=mid+m-b/\r0=mid)\/(m<=mid/\s0=a/\r0=m))/\M= [(0,vd),(1,.int Oi a),(2,.int Oi m),(3,.int Oi b),(4,.func (.func 138) #[] #[]),(25,.int Oi m),(26,.int Oi a),(27,.int Oi (m-a)),(28,B (m-a=1)),(77,.int Oi b),(78,.int Oi m),(79,.int Oi (b-m)),(80,B (b-m=1)),(129,.int Oi a),(130,.int Oi b),(131,.int Oi (a+b)),(132,.int .u64 (a+b)),(133,.int .u64 ((a+b)/2)),(134,.int Oi ((a+b)/2)),(18,.int Oi mid),(135,.int Oi ((a+b)/2)),(136,.int Oi m),(137,.int Oi (((a+b)/2)+m)),(19,.int Oi (mid+m)),(20,.int Oi s0),(21,.int Oi r0)]/\Sat w0 w [.own vd 2 97 n (Ze (fun z9=>pv (s z9)) (fun z9=>cnt (s z9))),.sem F]) ?_ ?_
   ·
    refine zsr<|(Oo)<|zlt<|Zf ?_ ?_<;>intro hc
    ·
     refine zsr<|(On)<|(zV (Zp (r:=((a+b)/2)+m-b)))<|(zP)<|zlt<|zrg<|(On)<|zln<|zgj ⟨((a+b)/2),(((a+b)/2)+m-b),((a+b)/2),rfl,Oa,rfl,hS⟩
    refine zsr<|(On)<|zlt<|zrg<|(On)<|zln<|zgj ⟨((a+b)/2),a,m,rfl,Oa,rfl,hS⟩
   clear hS w;rintro M w ⟨mid,s0,r0,jg,hq,rfl,hS⟩
   refine ztn<|zsr<|(zP)<|(zV (Zp (r:=mid+m-1)))<|(zP)<|zlt<|zsq<|zbk<|zlp (fun mm M w=>∃(x:Int) (y:Int),mm=((y-x).toNat)/\(s0<=x)/\(x<=y)/\(y<=r0)/\(x=s0\/¬lt (s (mid+m-x)) (s (x-1)))/\(y=r0\/lt (s (mid+m-y-1)) (s y))/\M= [(0,vd),(1,.int Oi a),(2,.int Oi m),(3,.int Oi b),(4,.func (.func 138) #[] #[]),(18,.int Oi mid),(19,.int Oi (mid+m)),(20,.int Oi x),(21,.int Oi y),(22,.int Oi (mid+m-1))]/\Sat w0 w [.own vd 2 97 n (Ze (fun z9=>pv (s z9)) (fun z9=>cnt (s z9))),.sem F]) ⟨s0,r0,rfl,Oa,Oa,Oa,?_,?_,rfl,hS⟩ ?_
   ·
    exact .inl rfl
   ·
    exact .inl rfl
   clear hS w
   rintro mm M w ⟨x,y,rfl,x0,xy,y1,hx,hy,rfl,hS⟩
   refine zsq<|zsr<|(Oo)<|zlt<|Zf ?_ ?_<;>intro hc
   ·
    refine zsk<|ztn<|zbk<|zsr<|(On)<|(zV (Zh (r:=x+y)))<|(zV (xcv Rt X7))<|(zV (US (r:=((x+y)/2))))<|(zV (xcv Ws Zau))<|(zP)<|zx7<|zdst [0,1] [0,1] 1000 mx_ hS ?_;clear hS;intro w hS
    refine(zDw 0 xmv)<|(zDw 1 xmv)<|(zDw 2 xmv)<|(zDw 3 xmv)<|(zDw 4 (Zp (r:=mid+m-((x+y)/2)-1)))<|(zDw 5 (xix (kk:=2*mid+2*m-2*((x+y)/2)-2) Yv hsl))<|(zDl 6 (fun w hS=>(xlw (cs:= [(pv (s (mid+m-((x+y)/2)-1))),.int Oi (cnt (s (mid+m-((x+y)/2)-1)))]) Z2 (hS.rowN 0 rfl) (Zy (k:=2*mid+2*m-2*((x+y)/2)-2) (i:=mid+m-((x+y)/2)-1) (fun z9=>pv (s z9)) (fun z9=>cnt (s z9)) Oa))))<|(zDw 7 xmv)<|(zDw 8 xmv)<|(zDw 9 (xix (kk:=2*((x+y)/2)) Yv hsl))<|(zDl 10 (fun w hS=>(xlw (cs:= [(pv (s ((x+y)/2))),.int Oi (cnt (s ((x+y)/2)))]) Z2 (hS.rowN 0 rfl) (Zy (k:=2*((x+y)/2)) (i:=((x+y)/2)) (fun z9=>pv (s z9)) (fun z9=>cnt (s z9)) Oa))))<|zdc 11 (xc0 ZaZ) (qx w (s (mid+m-((x+y)/2)-1)) (s ((x+y)/2)) (hd (mid+m-((x+y)/2)-1) Oa Oa).1 (hd (mid+m-((x+y)/2)-1) Oa Oa).2 (hd ((x+y)/2) Oa Oa).1 (hd ((x+y)/2) Oa Oa).2 hS.below (hS.holds _ (List.mem_of_getElem? (i:=1) rfl))) ?_;rintro _ w ⟨c1,rfl,hc1,hS'⟩
    replace hS:=hS.cmp hS';clear hS'
    refine⟨⟨fun _=>hS,hS⟩,?_⟩
    refine(zDw 12 Yc)<|(zDw 13 YI)<|zdd<|ztn ?_
    refine Zf ?_ ?_<;>intro hc
    ·
     refine zrg<|(zP)<|(zV (Zh (r:=((x+y)/2)+1)))<|(zP)<|zln<|zbn<|zlq ⟨((x+y)/2)+1,y,rfl,Oa,Oa,Oa,?_,?_,rfl,hS⟩
     ·
      first|exact hx|(right;rw [show mid+m-((x+y)/2+1)=mid+m-(x+y)/2-1 by omega,show(x+y)/2+1-1=(x+y)/2 by omega];exact fun h=>absurd (hc1.2 h) ‹¬c1<0›)
     ·
      first|exact hy|exact .inr (hc1.1 (Od ‹_›))
    refine zrg<|(On)<|zln<|zbn<|zlq ⟨x,((x+y)/2),rfl,Oa,Oa,Oa,?_,?_,rfl,hS⟩
    ·
     first|exact hx|(right;rw [show mid+m-((x+y)/2+1)=mid+m-(x+y)/2-1 by omega,show(x+y)/2+1-1=(x+y)/2 by omega];exact fun h=>absurd (hc1.2 h) ‹¬c1<0›)
    ·
     first|exact hy|exact .inr (hc1.1 (Od ‹_›))
   refine zx8<|(On)<|(zV (Zp (r:=mid+m-x)))<|(zP)<|zx7 ?_
   refine VI (fun M w=>∃(t:Of),(t=rot s x m (mid+m-x))/\M= [(0,vd),(1,.int Oi a),(2,.int Oi m),(3,.int Oi b),(4,.func (.func 138) #[] #[]),(18,.int Oi mid),(19,.int Oi (mid+m)),(20,.int Oi x),(21,.int Oi y),(22,.int Oi (mid+m-1)),(149,.int Oi x),(150,.int Oi y),(151,B (x<y)),(175,.int Oi (mid+m)),(176,.int Oi x),(177,.int Oi (mid+m-x)),(24,.int Oi (mid+m-x))]/\Sat w0 w [.own vd 2 97 n (Ze (fun z9=>pv (t z9)) (fun z9=>cnt (t z9))),.sem F]) ?_ ?_
   ·
    refine zsr<|zs4 ?_
    refine zlb 181 ?_ ?_<;>intro hc
    ·
     refine zs4 ?_
     refine zlt<|Zf ?_ ?_<;>intro hc
     ·
      refine zrg<|zs5 ?_
      refine zlc (xc0 Zmv) (ZnC (s:=s) (a:=x) (m:=m) (b:=mid+m-x) w0 w hS hsl hn8 qk Oa Oa Oa Oa) ?_;rintro _ w ⟨rfl,hS⟩
      refine zln<|zgj ⟨(rot s x m (mid+m-x)),rfl,rfl,hS⟩
     refine zsk<|zgj ⟨s,(VS Oa Oa Oa).symm,rfl,hS⟩
    iterate 3 refine zlo ?_
    refine(zP)<|zlt<|zcf<|zsk<|zgj ⟨s,(VS Oa Oa Oa).symm,rfl,hS⟩
   clear hS w;rintro M w ⟨t,ht,rfl,hS⟩
   have hdt:=(Ys (a:=s) (lo:=x) (c:=m) (hi:=mid+m-x) Oa Oa).dom (n:=n) (N:=nm) Oa (.inl Oa) hd
   rw [<-ht] at hdt
   have hH:=V1 hw h1 h2 hp (s:=x) (mid:=mid) (e:=mid+m-x) Oa Oa Oa Oa Oa (by rcases hq with hq|hq<;>rcases hx with hx|hx<;>first|exact .inl Oa|exact .inr (.inl Oa)|exact .inr (.inr hx)) (by rcases hq with hq|hq<;>rcases hy with hy|hy<;>first|exact .inl Oa|exact .inr (.inl Oa)|(refine .inr (.inr ?_);rw [show x=y by omega];exact hy))
   rw [<-ht] at hH
   refine ztn<|zsq<| ?_
   refine VI (fun M w=>∃(t1:Of),(PermOn a mid t t1)/\(Srt (Tie lt) a mid t1)/\(∀k,0<=k->k<n->0<=t1 k/\t1 k<nm)/\M= [(0,vd),(1,.int Oi a),(2,.int Oi m),(3,.int Oi b),(4,.func (.func 138) #[] #[]),(18,.int Oi mid),(19,.int Oi (mid+m)),(20,.int Oi x),(21,.int Oi y),(22,.int Oi (mid+m-1)),(149,.int Oi x),(150,.int Oi y),(151,B (x<y)),(175,.int Oi (mid+m)),(176,.int Oi x),(177,.int Oi (mid+m-x)),(24,.int Oi (mid+m-x))]/\Sat w0 w [.own vd 2 97 n (Ze (fun z9=>pv (t1 z9)) (fun z9=>cnt (t1 z9))),.sem F]) ?_ ?_
   ·
    refine zsr<|zs4 ?_
    refine zlb 195 ?_ ?_<;>intro hc
    ·
     refine zs4 ?_
     refine zlt<|Zf ?_ ?_<;>intro hc
     ·
      refine zrg<|zs5 ?_
      refine zlc (xc0 ZaV) (ih (s:=t) (a:=a) (m:=x) (b:=mid) w0 w hS qx hdt Oa Oa Oa Oa (hH.l1) (hH.l2) (hH.pl) Oa) ?_;rintro _ w ⟨rfl,u1,qr,xd,hS⟩
      have xX:=qr.dom Oa (.inl Oa) hdt
      refine zln<|zgj ⟨u1,qr,xd,xX,rfl,hS⟩
     refine zsk<|zgj ⟨t,(.refl _ _ _),(hH.left (by first|omega|(rintro⟨h3,h4⟩;omega)) Oa Oa),hdt,rfl,hS⟩
    iterate 3 refine zlo ?_
    refine(zP)<|zlt<|zcf<|zsk<|zgj ⟨t,(.refl _ _ _),(hH.left (by first|omega|(rintro⟨h3,h4⟩;omega)) Oa Oa),hdt,rfl,hS⟩
   clear hS w;rintro M w ⟨t1,hq1,hq2,br,rfl,hS⟩
   have hH2:Halves lt a a mid (mid+m-x) b t1:=Halves.after hH hq1 hq2 Oa Oa
   refine ztn<|zsr<|zs4 ?_
   refine zlb 209 ?_ ?_<;>intro hc
   ·
    refine zs4 ?_
    refine zlt<|Zf ?_ ?_<;>intro hc
    ·
     refine zrg<|zs5 ?_
     refine zlc (xc0 ZaV) (ih (s:=t1) (a:=mid) (m:=mid+m-x) (b:=b) w0 w hS qx br Oa Oa Oa Oa (hH2.r1) (hH2.r2) (hH2.pr) Oa) ?_;rintro _ w ⟨rfl,u1,qr,xd,hS⟩
     have xX:=qr.dom Oa (.inl Oa) br
     refine zln<|XD ⟨_,rfl,?_⟩
     refine⟨rfl,u1,((((Ys (a:=s) (lo:=x) (c:=m) (hi:=mid+m-x) Oa Oa).mono Oa Oa:PermOn a b s _)).trans (ht▸hq1.mono Oa Oa)).trans (qr.mono Oa Oa),?_,hS⟩
     exact hH.join hw Oa Oa hq1 hq2 qr xd
    refine zsk<|XD ⟨_,rfl,?_⟩
    refine⟨rfl,t1,(((Ys (a:=s) (lo:=x) (c:=m) (hi:=mid+m-x) Oa Oa).mono Oa Oa:PermOn a b s _)).trans (ht▸hq1.mono Oa Oa),?_,hS⟩
    exact hH.join hw Oa Oa hq1 hq2 (.refl _ _ _) (hH2.right (by first|omega|(rintro⟨h3,h4⟩;omega)) Oa Oa)
   iterate 3 refine zlo ?_
   refine(zP)<|zlt<|zcf<|zsk<|XD ⟨_,rfl,?_⟩
   refine⟨rfl,t1,(((Ys (a:=s) (lo:=x) (c:=m) (hi:=mid+m-x) Oa Oa).mono Oa Oa:PermOn a b s _)).trans (ht▸hq1.mono Oa Oa),?_,hS⟩
   exact hH.join hw Oa Oa hq1 hq2 (.refl _ _ _) (hH2.right (by first|omega|(rintro⟨h3,h4⟩;omega)) Oa Oa)
theorem Zfy{n:Int}{s:Of}{lt:Int->Int->Prop}{F:Gw.Frame}(w0 w:World)(hS:Sat w0 w [.own vd 2 97 n (Ze (fun z9=>pv (s z9)) (fun z9=>cnt (s z9))),.sem F])(hsl:Slh vd n)(hn8:n<=100000000)(qk:∀x,(pv x).oneCell'=true)(qx:∀(w:World) (x y:Int),0<=x->x<nm->0<=y->y<nm->Below w0.heap.size w0 w->F.holds w->Calls Om 138 [.agg #[pv x,.int Oi (cnt x)],.agg #[pv y,.int Oi (cnt y)]].toArray w fun e w'=>∃v,e= .returned v/\∃c:Int,v= .int Oi c/\(c<0↔lt x y)/\Sat w w' [])(hd:∀k,0<=k->k<n->0<=s k/\s k<nm)(hw:Swo lt)(qQ:U9 0 n s):
   Calls Om 218 [vd,.int Oi n,.func (.func 138) #[] #[]].toArray w fun e w=>∃v,e= .returned v/\v= .tuple #[]/\∃t:Of,PermOn 0 n s t/\Srt (Tie lt) 0 n t/\Sat w0 w [.own vd 2 97 n (Ze (fun z9=>pv (t z9)) (fun z9=>cnt (t z9))),.sem F]:=by
 have hn0:=hsl.n0
 refine zenF Tryz.func218 Tryz.ntmps218 ?_
 refine zsr<|(zP)<|zlz<|(Oo)<|zlt<|zsq<|zbk<|zlp (fun mm M w=>∃(t:Of) (a:Int) (b:Int),mm=((n-a).toNat)/\(0<=a)/\(a<=n)/\(b=a+20)/\((20:Int)∣a)/\(PermOn 0 a s t)/\(Runs_ lt 20 n 0 a t)/\(∀k,0<=k->k<n->0<=t k/\t k<nm)/\M= [(0,vd),(1,.int Oi n),(2,.func (.func 138) #[] #[]),(6,.int Oi 20),(7,.int Oi a),(8,.int Oi b)]/\Sat w0 w [.own vd 2 97 n (Ze (fun z9=>pv (t z9)) (fun z9=>cnt (t z9))),.sem F]) ⟨s,0,20,rfl,Oa,Oa,Oa,?_,?_,?_,?_,rfl,hS⟩ ?_
 ·
  exact Int.dvd_zero 20
 ·
  exact .refl _ _ _
 ·
  intro c c0 c1;omega
 ·
  exact hd
 clear hS w
 rintro mm M w ⟨t,a,b,rfl,a0,a1,hb,hda,hp,hr,hd1,rfl,hS⟩
 refine zsq<|zsr<|(Oo)<|zlt<|Zf ?_ ?_<;>intro hc
 ·
  refine zsk<|ztn<|zbk<|zsr<|zs4 ?_
  refine zlc (xc0 ZhE) (Zil (s:=t) (a:=a) (b:=b) w0 w hS hsl hn8 qk qx hd1 hw Oa Oa Oa (Vh hp qQ Oa Oa Oa)) ?_;rintro _ w ⟨rfl,u1,qr,xd,hS⟩
  have xX:=qr.dom Oa (.inl Oa) hd1
  refine zlz<|(On)<|zlt<|zrg<|(On)<|(zV (Zh (r:=b+20)))<|(zP)<|zln<|zbn<|zlq ⟨u1,b,b+20,rfl,Oa,Oa,Oa,?_,?_,?_,?_,rfl,hS⟩
  ·
   rw [hb];exact Int.dvd_add hda (Int.dvd_refl 20)
  ·
   exact(hp.mono Oa Oa).trans (qr.mono Oa Oa)
  ·
   exact Wu Oa qQ hr a0 hda hp qr xd (.inl ⟨hb,Oa⟩) Oa
  ·
   exact xX
 refine zx8<|zs4 ?_
 refine zlc (xc0 ZhE) (Zil (s:=t) (a:=a) (b:=n) w0 w hS hsl hn8 qk qx hd1 hw Oa Oa Oa (Vh hp qQ Oa Oa Oa)) ?_;rintro _ w ⟨rfl,u1,qr,xd,hS⟩
 have xX:=qr.dom Oa (.inl Oa) hd1
 refine zx6<|zlp (fun mm M w=>∃(t2:Of) (z:Int),mm=((n-z).toNat)/\(20<=z)/\(z<=2*n+20)/\(PermOn 0 n s t2)/\(Runs_ lt z n 0 n t2)/\(∀k,0<=k->k<n->0<=t2 k/\t2 k<nm)/\M= [(0,vd),(1,.int Oi n),(2,.func (.func 138) #[] #[]),(6,.int Oi z)]/\Sat w0 w [.own vd 2 97 n (Ze (fun z9=>pv (t2 z9)) (fun z9=>cnt (t2 z9))),.sem F]) ⟨u1,20,rfl,Oa,Oa,?_,?_,?_,rfl,hS⟩ ?_
 ·
  exact(hp.mono Oa Oa).trans (qr.mono Oa Oa)
 ·
  exact Wu Oa qQ hr a0 hda hp qr xd (.inr ⟨rfl,Oa⟩) Oa
 ·
  exact xX
 clear hS w
 rintro mm M w ⟨t2,z,rfl,z0,z1,hp2,hr2,hd2,rfl,hS⟩
 refine zsq<|zsr<|(Oo)<|zlt<|Zf ?_ ?_<;>intro hc
 ·
  refine zsk<|ztn<|zbk<|zsr<|(zP)<|(zV (Yi (r:=2*z)))<|(On)<|zlt<|zsq<|zbk<|zlp (fun mm M w=>∃(t3:Of) (a3:Int) (b3:Int),mm=((n-a3).toNat)/\(0<=a3)/\(a3<=n)/\(b3=a3+2*z)/\(2*z∣a3)/\(PermOn 0 n s t3)/\(Runs_ lt (2*z) n 0 a3 t3)/\(Runs_ lt z n a3 n t3)/\(∀k,0<=k->k<n->0<=t3 k/\t3 k<nm)/\M= [(0,vd),(1,.int Oi n),(2,.func (.func 138) #[] #[]),(6,.int Oi z),(7,.int Oi a3),(8,.int Oi b3)]/\Sat w0 w [.own vd 2 97 n (Ze (fun z9=>pv (t3 z9)) (fun z9=>cnt (t3 z9))),.sem F]) ⟨t2,0,2*z,rfl,Oa,Oa,Oa,?_,?_,?_,?_,?_,rfl,hS⟩ ?_
  ·
   exact Int.dvd_zero _
  ·
   exact hp2
  ·
   intro c c0 c1;omega
  ·
   exact hr2
  ·
   exact hd2
  clear hS w
  rintro mm M w ⟨t3,a3,b3,rfl,a30,a31,hb3,xi,hp3,hA,hB,hd3,rfl,hS⟩
  refine zsq<|zsr<|(Oo)<|zlt<|Zf ?_ ?_<;>intro hc
  ·
   refine zsk<|ztn<|zbk<|zsr<|zs4 ?_
   refine(zV (Zh (r:=a3+z)))<|zs2 ?_
   have hk:=VO (lt:=lt) (z:=z) (n:=n) (a:=a3) (b:=b3) (t:=t3) Oa a30 (Int.dvd_trans (Int.dvd_mul_left 2 z) xi) hB Oa Oa Oa
   refine zlc (xc0 ZaV) (ZhX (nm:=nm) (lt:=lt) hsl hn8 qk hw _ (s:=t3) (a:=a3) (m:=a3+z) (b:=b3) w0 w hS qx hd3 Oa Oa Oa Oa hk.1 hk.2.1 hk.2.2 (Nat.lt_succ_self _)) ?_;rintro _ w ⟨rfl,u2,qX,yk,hS⟩
   have yX:=qX.dom Oa (.inl Oa) hd3
   refine zlz<|(On)<|zlt<|zrg<|(On)<|(zV (Yi (r:=2*z)))<|(zV (Zh (r:=b3+2*z)))<|(zP)<|zln<|zbn<|zlq ⟨u2,b3,b3+2*z,rfl,Oa,Oa,Oa,?_,?_,?_,?_,?_,rfl,hS⟩
   ·
    rw [hb3];exact Int.dvd_add xi (Int.dvd_refl _)
   ·
    exact hp3.trans (qX.mono Oa Oa)
   ·
    exact(Yo Oa a30 xi hA hB qX yk (.inl ⟨hb3,Oa⟩) Oa).1
   ·
    exact(Yo Oa a30 xi hA hB qX yk (.inl ⟨hb3,Oa⟩) Oa).2
   ·
    exact yX
  refine zx18<|(On)<|(zV (Zh (r:=a3+z)))<|(zP)<|zlz<|(Oo)<|zlt<|Zf ?_ ?_<;>intro hc
  ·
   refine zrg<|zs5 ?_
   have hk:=VO (lt:=lt) (z:=z) (n:=n) (a:=a3) (b:=n) (t:=t3) Oa a30 (Int.dvd_trans (Int.dvd_mul_left 2 z) xi) hB Oa Oa Oa
   refine zlc (xc0 ZaV) (ZhX (nm:=nm) (lt:=lt) hsl hn8 qk hw _ (s:=t3) (a:=a3) (m:=a3+z) (b:=n) w0 w hS qx hd3 Oa Oa Oa Oa hk.1 hk.2.1 hk.2.2 (Nat.lt_succ_self _)) ?_;rintro _ w ⟨rfl,u2,qX,yk,hS⟩
   have yX:=qX.dom Oa (.inl Oa) hd3
   refine zlt<|zrg<|(zP)<|(zV (Yi (r:=2*z)))<|(zP)<|zln<|zbn<|zlq ⟨u2,2*z,rfl,Oa,Oa,?_,?_,?_,rfl,hS⟩
   ·
    first|exact hp3.trans (qX.mono Oa Oa)|exact hp3
   ·
    first|exact(Yo Oa a30 xi hA hB qX yk (.inr ⟨rfl,Oa⟩) Oa).1|exact VP Oa a30 xi hA hB Oa Oa
   ·
    first|exact yX|exact hd3
  refine zsk<|ztn<|zrg<|(zP)<|(zV (Yi (r:=2*z)))<|(zP)<|zln<|zbn<|zlq ⟨t3,2*z,rfl,Oa,Oa,?_,?_,?_,rfl,hS⟩
  ·
   first|exact hp3.trans (qX.mono Oa Oa)|exact hp3
  ·
   first|exact(Yo Oa a30 xi hA hB qX yk (.inr ⟨rfl,Oa⟩) Oa).1|exact VP Oa a30 xi hA hB Oa Oa
  ·
   first|exact yX|exact hd3
 refine zxt<|ztx<|ztx<|zbh<|XD ⟨_,rfl,?_⟩
 exact⟨rfl,t2,hp2,ZbG hr2 Oa,hS⟩
theorem ZhZ{n:Int}{s:Of}{lt:Int->Int->Prop}{F:Gw.Frame}(w0 w:World)(hS:Sat w0 w [.own vd 2 97 n (Ze (fun z9=>pv (s z9)) (fun z9=>cnt (s z9))),.sem F])(hsl:Slh vd n)(hn8:n<=100000000)(qk:∀x,(pv x).oneCell'=true)(qx:∀(w:World) (x y:Int),0<=x->x<nm->0<=y->y<nm->Below w0.heap.size w0 w->F.holds w->Calls Om 138 [.agg #[pv x,.int Oi (cnt x)],.agg #[pv y,.int Oi (cnt y)]].toArray w fun e w'=>∃v,e= .returned v/\∃c:Int,v= .int Oi c/\(c<0↔lt x y)/\Sat w w' [])(hd:∀k,0<=k->k<n->0<=s k/\s k<nm)(hw:Swo lt)(qQ:U9 0 n s):
   Calls Om 137 [vd,.func (.func 138) #[] #[]].toArray w fun e w=>∃v,e= .returned v/\v= .tuple #[]/\∃t:Of,PermOn 0 n s t/\Srt (Tie lt) 0 n t/\Sat w0 w [.own vd 2 97 n (Ze (fun z9=>pv (t z9)) (fun z9=>cnt (t z9))),.sem F]:=by
 refine zenF Tryz.func137 Tryz.ntmps137 ?_
 refine zrg<|(On)<|(zV (xln ZR hsl))<|(zP)<|zlc (xc0 Zm3) (Zfy (s:=s) w0 w hS hsl hn8 qk qx hd hw qQ) ?_;rintro _ w ⟨rfl,u1,qr,xd,hS⟩
 refine zln<|XD ⟨_,rfl,?_⟩
 exact⟨rfl,u1,qr,xd,hS⟩
end Go.Proofs.YtpnamgfdakfccaaGreat
namespace Go.Proofs.YtpnamgfdakfccaaGreat
open Go Go.RowKit Go.Proofs.Gw
variable {m:Int} {f g:Of} {vA vB:Value}
theorem Znr:Zd Om 139=true:=Oc
theorem Zm4:Zd Om 182=true:=Oc
theorem ZhF:Zd Om 253=true:=Oc
theorem fd_97_0:Zv Om 97 0=some 0:=Oc
theorem ZeD{x:Int}(w0:World):
   Calls Om 253 [.int Oi x].toArray w0 fun e w=>∃v,e= .returned v/\v= .bool false/\Sat w0 w []:=by
 refine zenG Tryz.func253 Tryz.ntmps253 fun w hS=> ?_
 refine zsr<|(zP)<|zlz<|(On)<|(zV (xkf YE))<|(zP)<|zx1<|Oj ?_
 exact⟨rfl,hS⟩
def ZdK(x y c:Int):Prop:=(c= -1/\x<y)\/(c=0/\x=y)\/(c=1/\y<x)
theorem Zn8{x y:Int}(w0:World):
   Calls Om 182 [.int Oi x,.int Oi y].toArray w0 fun e w=>∃v,e= .returned v/\∃c:Int,v= .int Oi c/\ZdK x y c/\Sat w0 w []:=by
 refine zenG Tryz.func182 Tryz.ntmps182 fun w hS=> ?_
 refine zsr<|(zP)<|zlz<|(zP)<|zlc (xc0 ZhF) (ZeD (x:=x) w) ?_;rintro _ w ⟨rfl,hS'⟩
 replace hS:=hS.cmp hS';clear hS'
 refine(zP)<|zlz<|(zP)<|zlc (xc0 ZhF) (ZeD (x:=y) w) ?_;rintro _ w ⟨rfl,hS'⟩
 replace hS:=hS.cmp hS';clear hS'
 refine(zP)<|zx5<|(zP)<|zlt<|zcf<|zsk<|ztn<|zsq<|zsr ?_
 refine(zP)<|zlt<|zcf<|zsk<|ztn<|zsq<|zsr ?_
 refine(Oo)<|zlt<|Zf ?_ ?_<;>intro hc
 ·
  refine zsr<|(zP)<|zx14<|Oj ?_
  exact⟨(-1),rfl,by unfold ZdK;omega,hS⟩
 refine zsk<|ztn<|zsq<|zsr<|(Oo)<|zlt<|Zf ?_ ?_<;>intro hc
 ·
  refine zsr<|(zP)<|zx14<|Oj ?_
  exact⟨1,rfl,by unfold ZdK;omega,hS⟩
 refine ZV<|(zP)<|zx1<|Oj ?_
 exact⟨0,rfl,by unfold ZdK;omega,hS⟩
theorem ZnB {n:Int} (w0:World) (hA:Row w0 vA 1 n (ints f)) (hB:Row w0 vB 1 m (ints g)):
   Calls Om 139 [vA,vB].toArray w0 fun e w=>∃v,e= .returned v/\∃c:Int,v= .int Oi c/\(c<0↔ahd (lst m g) (lst n f))/\Sat w0 w []:=by
 have hn:=hA.slh.n0;have hn1:=hA.slh.n1;have hm:=hB.slh.n0;have hm1:=hB.slh.n1
 refine zenG Tryz.func139 Tryz.ntmps139 fun w hS=> ?_
 refine zsr<|(zP)<|zx5<|(zP)<|(zV (xln Zb hA.slh))<|(zP)<|zx6<|zlp (fun mm M w=>∃(i:Int),mm=((n-i).toNat)/\(0<=i)/\(i<=n)/\(i<=m)/\(∀k,0<=k->k<i->f k=g k)/\M= [(0,vA),(1,vB),(9,vA),(10,.int Oi n),(11,.int Oi i)]/\Sat w0 w []) ⟨0,rfl,Oa,Oa,Oa,?_,rfl,hS⟩ ?_
 ·
  intro k h0 h1;omega
 clear hS w
 rintro mm M w ⟨i,rfl,h0,h1,h2,qa,rfl,hS⟩
 refine zsr<|(zP)<|zx7<|Zf ?_ ?_<;>intro hc
 ·
  refine zx3<|(zP)<|(zV (xix (kk:=i) Zb hA.slh))<|(zV (xlr (u:= .int Oi (f i)) pl_3 (hA.below hS.below)))<|(On)<|zx5<|(On)<|(zV (xln Zb hB.slh))<|(zP)<|zlt<|Zf ?_ ?_<;>intro hc
  ·
   refine zsr<|(zP)<|zlt<|zrt<|ztr<|zbr<|ztr<|ztr<|zbr<|ztr<|Oj ?_
   exact⟨1,rfl,⟨fun h=>Oa,fun h=>absurd h (Uj (ZcF Oa Oa (fun k k0 k1=>qa k k0 Oa)))⟩,hS⟩
  refine ZV<|(On)<|(zV (xix (kk:=i) Zb hB.slh))<|(zV (xlr (u:= .int Oi (g i)) pl_3 (hB.below hS.below)))<|(zP)<|zlz<|(On)<|zlc (xc0 Zm4) (Zn8 (x:=(f i)) (y:=(g i)) w) ?_;rintro _ w ⟨c1,rfl,hc1,hS'⟩
  replace hS:=hS.cmp hS';clear hS'
  refine(zP)<|zlz<|(On)<|zlt<|Zf ?_ ?_<;>intro hc
  ·
   refine zsr<|(On)<|zx2<|Oj ?_
   exact⟨c1,rfl,⟨fun h=>Ziz (j:=i) Oa Oa Oa (fun k k0 k1=>(qa k k0 k1).symm) (by unfold ZdK at hc1;omega),fun h=>by
       unfold ZdK at hc1
       by_cases h9:c1<0
       · exact h9
       · exact absurd h (Uj (Ziz (j:=i) Oa Oa Oa (fun k k0 k1=>qa k k0 k1) Oa))⟩,hS⟩
  refine zx4<|(zV (Zh (r:=i+1)))<|(zP)<|zln<|zlq ⟨i+1,rfl,Oa,Oa,Oa,?_,rfl,hS⟩
  ·
   intro k h0' h1';rcases Int.lt_or_eq_of_le (show k<=i by omega) with hk|hk;exact qa k h0' hk;rw [hk];(unfold ZdK at hc1;omega)
 refine zx18<|(zP)<|(zV (xln Zb hA.slh))<|(zP)<|(zV (xln Zb hB.slh))<|(zP)<|zlt<|Zf ?_ ?_<;>intro hc
 ·
  refine zsr<|(zP)<|zx14<|Oj ?_
  exact⟨(-1),rfl,⟨fun _=>ZcF Oa Oa (fun k k0 k1=>(qa k k0 Oa).symm),fun _=>Oa⟩,hS⟩
 refine ZV<|(zP)<|zx1<|Oj ?_
 exact⟨0,rfl,⟨fun h=>Oa,fun h=>absurd h (by rw [show n=m by omega];exact Ziy (fun k k0 k1=>(qa k k0 Oa).symm))⟩,hS⟩
theorem ZnL{n:Int}{a b:Int}(w0:World)(hA:Row w0 vA 1 n (ints f))(hB:Row w0 vB 1 m (ints g)):
   Calls Om 138 [.agg #[vA,.int Oi a],.agg #[vB,.int Oi b]].toArray w0 fun e w=>∃v,e= .returned v/\∃c:Int,v= .int Oi c/\(c<0↔ahd (lst n f) (lst m g))/\Sat w0 w []:=by
 refine zenG Tryz.func138 Tryz.ntmps138 fun w hS=> ?_
 refine zsr<|zla (xbx (cs:= [_,_]) hS) ?_;rintro _ w ⟨g1,rfl,hS⟩
 refine zla (xbx (cs:= [_,_]) hS) ?_;rintro _ w ⟨g2,rfl,hS⟩
 refine(zP)<|zlz<|(zV (xfb 0 fd_97_0))<|(zV (xlb 1 pl_22 hS))<|(zV (xfb 0 fd_97_0))<|(zV (xlb 0 pl_22 hS))<|zlc (xc0 Znr) (ZnB (n:=m) (f:=g) (m:=n) (g:=f) w (hB.below hS.below) (hA.below hS.below)) ?_;rintro _ w ⟨c1,rfl,hc1,hS'⟩
 replace hS:=hS.cmp hS';clear hS'
 refine(zP)<|zx1<|Oj ?_
 exact⟨_,rfl,hc1,hS.nl⟩
theorem ZpG{n:Int}(w0:World)(hA:Row w0 vA 1 n (ints f))(hB:Row w0 vB 1 m (ints g)):
   Calls Om 134 [vA,vB].toArray w0 fun e w=>∃v,e= .returned v/\v=B (lst n f=lst m g)/\Sat w0 w []:=by
 have hn:=hA.slh.n0;have hn1:=hA.slh.n1;have hm:=hB.slh.n0;have hm1:=hB.slh.n1
 refine zenG Tryz.func134 Tryz.ntmps134 fun w hS=> ?_
 refine zsr<|(zP)<|zx5<|(zP)<|(zV (xln Zb hA.slh))<|(zP)<|(zV (xln Zb hB.slh))<|(zP)<|zlt<|Zf ?_ ?_<;>intro hc
 ·
  refine zsr<|(zP)<|zx14<|Oj ?_
  exact⟨Zj (by intro hh;have h9:=(Uz hn hm).1 hh;first|omega|(have:=h9.2 i h0 Oa;omega)),hS⟩
 refine zsk<|ztn<|zsq<|zsr<|(zP)<|(zV (xln Zb hA.slh))<|(zP)<|zx6<|zlp (fun mm M w=>∃(i:Int),mm=((n-i).toNat)/\(0<=i)/\(i<=n)/\(∀k,0<=k->k<i->f k=g k)/\M= [(0,vA),(1,vB),(12,.int Oi n),(13,.int Oi i)]/\Sat w0 w []) ⟨0,rfl,Oa,Oa,?_,rfl,hS⟩ ?_
 ·
  intro k h0 h1;omega
 clear hS w
 rintro mm M w ⟨i,rfl,h0,h1,qa,rfl,hS⟩
 refine zsr<|(zP)<|zx7<|Zf ?_ ?_<;>intro hc
 ·
  refine zx3<|(On)<|zx7<|zdst [] [] 1000 mx_ hS ?_;clear hS;intro w hS
  refine(zDw 0 xmv)<|(zDw 1 xmv)<|(zDw 2 (xix (kk:=i) Zb hA.slh))<|(zDl 3 (fun w hS=>(xlr (u:= .int Oi (f i)) pl_3 (hA.below hS.below))))<|(zDw 4 xmv)<|(zDw 5 xmv)<|(zDw 6 (xix (kk:=i) Zb hB.slh))<|(zDl 7 (fun w hS=>(xlr (u:= .int Oi (g i)) pl_3 (hB.below hS.below))))<|(zDw 8 YE)<|zdd<|ztn ?_
  refine Zf ?_ ?_<;>intro hc
  ·
   refine zsr<|(zP)<|zx2<|Oj ?_
   exact⟨Zj (by intro hh;have h9:=(Uz hn hm).1 hh;first|omega|(have:=h9.2 i h0 Oa;omega)),hS⟩
  refine zx4<|(zV (Zh (r:=i+1)))<|(zP)<|zln<|zlq ⟨i+1,rfl,Oa,Oa,?_,rfl,hS⟩
  ·
   intro k h0' h1';rcases Int.lt_or_eq_of_le (show k<=i by omega) with hk|hk;exact qa k h0' hk;rw [hk];omega
 refine zx8<|(zP)<|zx1<|Oj ?_
 exact⟨Yn (by exact(Uz hn hm).2 ⟨by omega,fun k k0 k1=>qa k k0 Oa⟩),hS⟩
end Go.Proofs.YtpnamgfdakfccaaGreat
namespace Go.Proofs.YtpnamgfdakfccaaGreat
open Go Go.RowKit Go.Proofs.Gw
variable {cnt ln:Of} {pt:Og} {pv:Int->Value} {vV:Value}
theorem Zdz:Zd Om 132=true:=Oc
theorem Znw:Zd Om 133=true:=Oc
theorem Znv:Zd Om 134=true:=Oc
theorem Znt:Zd Om 136=true:=Oc
theorem fd_97_1:Zv Om 97 1=some 1:=Oc
theorem Zpy{vB:Value}{m b:Int}{g:Of}{vA:Value}{n a:Int}{f:Of}{gu:Nat}(w0:World)(hG:(Ent.blk gu [vA,.int Oi a]).holds w0)(hA:Row w0 vA 1 n (ints f))(hB:Row w0 vB 1 m (ints g)):
   Calls Om 133 [.agg #[vB,.int Oi b],Or gu].toArray w0 fun e w=>∃v,e= .returned v/\v=B (lst n f=lst m g)/\Sat w0 w []:=by
 refine zenG Tryz.func133 Tryz.ntmps133 fun w hS=> ?_
 refine zsr<|zla (xbx (cs:= [_,_]) hS) ?_;rintro _ w ⟨g1,rfl,hS⟩
 refine(zP)<|zlz<|(zV (xfb 0 fd_97_0))<|(zV (xlf pl_22 (Ent.holds.cell hG (o:=0) rfl) hS))<|(zV (xfb 0 fd_97_0))<|(zV (xlb 0 pl_22 hS))<|zlc (xc0 Znv) (ZpG (n:=n) (f:=f) (m:=m) (g:=g) w (hA.below hS.below) (hB.below hS.below)) ?_;rintro _ w ⟨rfl,hS'⟩
 replace hS:=hS.cmp hS';clear hS'
 refine(zP)<|zx1<|Oj ?_
 exact⟨rfl,hS.nl⟩
theorem ZnS{u:Int}{vA:Value}{n a:Int}{f:Of}{gu:Nat}(w0:World)(hV:VAt w0 vV u pv ln pt cnt)(hG:(Ent.blk gu [vA,.int Oi a]).holds w0)(hA:Row w0 vA 1 n (ints f)):
   Calls Om 132 [vV,.func (.func 133) #[] #[Or gu]].toArray w0 fun e w=>∃v,e= .returned v/\∃r:Int,v= .int Oi r/\((r= -1/\∀k,0<=k->k<u->¬(lst n f=lst (ln k) (pt k)))\/(0<=r/\r<u/\(lst n f=lst (ln r) (pt r))/\∀k,0<=k->k<r->¬(lst n f=lst (ln k) (pt k))))/\Sat w0 w []:=by
 have hn:=hV.row.slh.n0;have hn1:=hV.row.slh.n1
 refine zenG Tryz.func132 Tryz.ntmps132 fun w hS=> ?_
 refine zsr<|(zP)<|zx5<|(zP)<|(zV (xln ZR hV.row.slh))<|(zP)<|zx6<|zlp (fun mm M w=>∃(i:Int),mm=((u-i).toNat)/\(0<=i)/\(i<=u)/\(∀k,0<=k->k<i->¬(lst n f=lst (ln k) (pt k)))/\M= [(0,vV),(1,.func (.func 133) #[] #[Or gu]),(7,.int Oi u),(8,.int Oi i)]/\Sat w0 w []) ⟨0,rfl,Oa,Oa,?_,rfl,hS⟩ ?_
 ·
  intro k h0 h1;omega
 clear hS w
 rintro mm M w ⟨i,rfl,h0,h1,qa,rfl,hS⟩
 refine zsr<|(zP)<|zx7<|Zf ?_ ?_<;>intro hc
 ·
  refine zx3<|(On)<|zlz<|(Oo)<|(zV (xix (kk:=2*i) ZR hV.row.slh))<|(zV (xlw (cs:= [(pv i),.int Oi (cnt i)]) Z2 (hV.row.below hS.below) (Zy (k:=2*i) (i:=i) pv cnt Oa)))<|zlc (xcc (vs:= [_]) Znw) (Zpy (n:=n) (f:=f) (m:=(ln i)) (g:=(pt i)) w (Sat.oldblk hS hG) (hA.below hS.below) ((hV.p i Oa Oa).below hS.below)) ?_;rintro _ w ⟨rfl,hS'⟩
  replace hS:=hS.cmp hS';clear hS'
  refine zlt<|Zf ?_ ?_<;>intro hc
  ·
   refine zsr<|(On)<|zx2<|Oj ?_
   exact⟨i,rfl,.inr ⟨by omega,Oa,‹lst n f=lst (ln i) (pt i)›,qa⟩,hS⟩
  refine zx4<|(zV (Zh (r:=i+1)))<|(zP)<|zln<|zlq ⟨i+1,rfl,Oa,Oa,?_,rfl,hS⟩
  ·
   intro k h0' h1';rcases Int.lt_or_eq_of_le (show k<=i by omega) with hk|hk;exact qa k h0' hk;rw [hk];assumption
 refine zx8<|(zP)<|zx1<|Oj ?_
 exact⟨-1,rfl,.inl ⟨rfl,fun k h0 h1=>qa k h0 Oa⟩,hS⟩
theorem Zpx{vB:Value}{m b:Int}{g:Of}(w0:World)(hB:Row w0 vB 1 m (ints g)):
   Calls Om 136 [.agg #[vB,.int Oi b]].toArray w0 fun e w=>∃v,e= .returned v/\v=B (b<1)/\Sat w0 w []:=by
 refine zenG Tryz.func136 Tryz.ntmps136 fun w hS=> ?_
 refine zsr<|zla (xbx (cs:= [_,_]) hS) ?_;rintro _ w ⟨g1,rfl,hS⟩
 refine(zP)<|zlz<|(zV (xfb 1 fd_97_1))<|(zV (xlb 0 pl_3 hS))<|(On)<|zx1<|Oj ?_
 exact⟨rfl,hS.nl⟩
theorem ZnR{u:Int}(w0:World)(hV:VAt w0 vV u pv ln pt cnt)(hpc:∀k,0<=k->k<u->1<=cnt k):
   Calls Om 132 [vV,.func (.func 136) #[] #[]].toArray w0 fun e w=>∃v,e= .returned v/\v= .int Oi (-1)/\Sat w0 w []:=by
 have hn:=hV.row.slh.n0;have hn1:=hV.row.slh.n1
 refine zenG Tryz.func132 Tryz.ntmps132 fun w hS=> ?_
 refine zsr<|(zP)<|zx5<|(zP)<|(zV (xln ZR hV.row.slh))<|(zP)<|zx6<|zlp (fun mm M w=>∃(i:Int),mm=((u-i).toNat)/\(0<=i)/\(i<=u)/\M= [(0,vV),(1,.func (.func 136) #[] #[]),(7,.int Oi u),(8,.int Oi i)]/\Sat w0 w []) ⟨0,rfl,Oa,Oa,rfl,hS⟩ ?_
 clear hS w
 rintro mm M w ⟨i,rfl,h0,h1,rfl,hS⟩
 refine zsr<|(zP)<|zx7<|Zf ?_ ?_<;>intro hc
 ·
  refine zx3<|(On)<|zlz<|(Oo)<|(zV (xix (kk:=2*i) ZR hV.row.slh))<|(zV (xlw (cs:= [(pv i),.int Oi (cnt i)]) Z2 (hV.row.below hS.below) (Zy (k:=2*i) (i:=i) pv cnt Oa)))<|zlc (xc0 Znt) (Zpx (b:=(cnt i)) w ((hV.p i Oa Oa).below hS.below)) ?_;rintro _ w ⟨rfl,hS'⟩
  replace hS:=hS.cmp hS';clear hS'
  refine zlt<|Zf ?_ ?_<;>intro hc
  ·
   refine zsr<|(On)<|zx2<|Oj ?_
   have:=hpc i h0 Oa
   omega
  refine zx4<|(zV (Zh (r:=i+1)))<|(zP)<|zln<|zlq ⟨i+1,rfl,Oa,Oa,rfl,hS⟩
 refine zx8<|(zP)<|zx1<|Oj ?_
 exact⟨rfl,hS⟩
theorem Zn2{u:Int}(w0:World)(hV:VAt w0 vV u pv ln pt cnt)(hpc:∀k,0<=k->k<u->1<=cnt k):
   Calls Om 135 [vV,.func (.func 136) #[] #[]].toArray w0 fun e w=>∃v,e= .returned v/\vV=v/\Sat w0 w []:=by
 refine zenG Tryz.func135 Tryz.ntmps135 fun w hS=> ?_
 refine zsr<|(zP)<|zlz<|(On)<|zlc (xc0 Zdz) (ZnR (u:=u) (pv:=pv) (ln:=ln) (pt:=pt) (cnt:=cnt) w (hV.below hS.below) hpc) ?_;rintro _ w ⟨rfl,hS'⟩
 replace hS:=hS.cmp hS';clear hS'
 refine(zP)<|zx5<|(zP)<|(zV (xkt YT))<|zlt<|zct<|zsr ?_
 refine(On)<|zx14<|Oj ?_
 exact⟨rfl,hS⟩
end Go.Proofs.YtpnamgfdakfccaaGreat
namespace Go.Proofs.YtpnamgfdakfccaaGreat
open Go Go.RowKit Go.Proofs.Gw
variable {cnt ln:Of} {pt:Og}
theorem Znu:Zd Om 135=true:=Oc
theorem Zns:Zd Om 137=true:=Oc
theorem ZbY{nO i:Int}{lO cO:Of}{gO:Og}(n0:0<=nO)(i0:0<=i)(hs:plL nO lO gO cO=VM (plL i ln pt cnt))(hne:∀k,0<=k->k<nO->¬(lst (ln i) (pt i)=lst (lO k) (gO k))):
   plL (nO+1) (gsn lO nO (ln i)) (gsn gO nO (pt i)) (snoc cO nO (cnt i))=VM (plL (i+1) ln pt cnt):=by
 rw [Wc i0,RK,<-hs,ZcH fun v hv e=>by
   obtain⟨j,hj⟩:=List.mem_iff_getElem?.1 hv
   rw [plL_get] at hj
   split at hj
   · injection hj with hj
     rw [<-hj] at e
     exact hne j Oa (by assumption) e.symm
   · cases hj]
 exact TO n0 (fun k k0 k1=>⟨Zq k1,Zs k1,Zq k1⟩) (ZB Oa) (Zt Oa) (ZB Oa)
theorem Zd5{nO i r:Int}{lO cO:Of}{gO:Og}(i0:0<=i)(hs:plL nO lO gO cO=VM (plL i ln pt cnt))(r0:0<=r)(r1:r<nO)(e:lst (ln i) (pt i)=lst (lO r) (gO r))(hne:∀k,0<=k->k<r->¬(lst (ln i) (pt i)=lst (lO k) (gO k))):
   plL nO lO gO (upd cO r (cO r+cnt i))=VM (plL (i+1) ln pt cnt):=by
 rw [Wc i0,RK,<-hs,ZeJ (j:=r.toNat) (v:=(lst (lO r) (gO r),cO r)) (by rw [plL_get,Int.toNat_of_nonneg r0,if_pos r1]) e.symm fun k hk w hw h=>by
   rw [plL_get,if_pos Oa] at hw
   injection hw with hw
   rw [<-hw] at h
   exact hne k Oa Oa h.symm]
 apply List.ext_getElem?
 intro k
 rw [List.getElem?_set,plL_get,plL_get,plL_len]
 unfold upd
 by_cases hk:(k:Int)<nO
 · rw [if_pos hk,if_pos hk]
   by_cases hr:r.toNat=k
   · have hr':(k:Int)=r:=Oa
     rw [if_pos hr',if_pos hr,if_pos Oa,hr']
   · have hr':¬(k:Int)=r:=Oa
     rw [if_neg hr',if_neg hr]
 · rw [if_neg hk,if_neg hk,if_neg Oa]
theorem Zgz{cC:Of}{nC B C x:Int}(h:∀k,0<=k->k<nC->1<=cC k/\cC k<=B)(hB:B<=C)(x1:1<=x)(x2:x<=C):∀k,0<=k->k<nC+1->1<=snoc cC nC x k/\snoc cC nC x k<=C:=fun k k0 k1=>by
 by_cases e:k<nC
 · rw [Zs e];have:=h k k0 e;omega
 · rw [Zt e];omega
theorem ZkR{cC:Of}{nC B C x r:Int}(h:∀k,0<=k->k<nC->1<=cC k/\cC k<=B)(hB:B<=C)(x1:1<=x)(x2:x<=C):∀k,0<=k->k<nC->1<=upd cC r x k/\upd cC r x k<=C:=fun k k0 k1=>by
 unfold upd
 by_cases e:k=r
 · rw [if_pos e];omega
 · rw [if_neg e];have:=h k k0 k1;omega
theorem Za4{vV:Value}{u:Int}{pv:Int->Value}(w0:World)(hV:VAt w0 vV u pv ln pt cnt)(hn5:u<=10000000)(hlc:∀k,0<=k->k<u->ln k<=100000)(hpc:∀k,0<=k->k<u->1<=cnt k/\cnt k<=1000):
   Calls Om 68 [vV].toArray w0 fun e w=>∃v,e= .returned v/\∃r n2 pv2 ln2 pt2 qf,v=r/\NormR (plL u ln pt cnt) (plL n2 ln2 pt2 qf)/\0<=n2/\n2<=u/\(∀k,0<=k->k<n2->1<=qf k/\qf k<=1000*u)/\Slh r n2/\Sat w0 w [.own r 2 97 n2 (Ze pv2 qf),.sem (Frame.rows 3 n2 pv2 ln2 pt2)]:=by
 have hn:=hV.row.slh.n0;have hn1:=hV.row.slh.n1
 refine zenG Tryz.func68 Tryz.ntmps68 fun w hS=> ?_
 refine zsr<|(zP)<|zlz<|(zP)<|zx5<|(zP)<|(zV (xln ZR hV.row.slh))<|(zP)<|zx6 ?_
 replace hS:=hS.addnil 2 97 (Ze (fun _=>Oh) (fun _=>0))
 replace hS:=hS.addrows 3 (fun _=>Oh) (fun _=>0) (fun _ _=>0)
 have aV:=fun k (k0:0<=k) (k1:k<0)=>hS.slhIn 1 rfl k0 k1
 refine zlp (fun mm M w=>∃(nC:Int) (wv:Int->Value) (lC:Of) (gC:Og) (cC:Of) (i:Int) (wC:Value),mm=((u-i).toNat)/\(0<=i)/\(i<=u)/\(0<=nC/\nC<=i)/\(plL nC lC gC cC=VM (plL i ln pt cnt))/\(∀k,0<=k->k<nC->1<=cC k/\cC k<=1000*i)/\(∀x,(wv x).oneCell'=true)/\(Slh wC nC)/\M= [(2,Oh),(3,wC),(7,vV),(8,.int Oi u),(9,.int Oi i)]/\Sat w0 w [.own wC 2 97 nC (Ze wv cC),.sem (Frame.rows 3 nC wv lC gC)]) ⟨0,(fun _=>Oh),(fun _=>0),(fun _ _=>0),(fun _=>0),0,Oh,rfl,Oa,Oa,Oa,?_,?_,?_,?_,rfl,hS⟩ ?_
 ·
  rfl
 ·
  intro k k0 k1;omega
 ·
  intro x;rfl
 ·
  exact slh_nil
 clear hS w
 rintro mm M w ⟨nC,wv,lC,gC,cC,i,wC,rfl,h0,h1,hnC,hs,hbc,qk,hwC,rfl,hS⟩
 have xp:=fun k (k0:0<=k) (k1:k<nC)=>hS.slhIn 1 rfl k0 k1
 refine zsr<|(zP)<|zx7<|Zf ?_ ?_<;>intro hc
 ·
  refine zx3<|(zV (xix (kk:=2*i) ZR hV.row.slh))<|zlv (xlw (cs:= [(pv i),.int Oi (cnt i)]) Z2 (hV.row.below hS.below) (Zy (k:=2*i) (i:=i) pv cnt Oa)) ?_
  have hci:=hpc i h0 Oa
  have hli:=hlc i h0 Oa
  refine zla (xal (cs:= [_,_]) Y8 hS) ?_;rintro _ w ⟨g1,rfl,hS⟩
  refine zle (xsw 2 Z2 hS (hd:=(Za (hV.p i Oa Oa).slh.one (Za rfl Zi)))) ?_;clear hS;rintro w hS
  refine zlz<|(zP)<|(zV xmf)<|zlc (xc0 Zdz) (ZnS (u:=nC) (pv:=wv) (ln:=lC) (pt:=gC) (cnt:=cC) (n:=(ln i)) (f:=(pt i)) w (⟨(hS.rowN 0 rfl),fun k k0 k1=>hS.rowIn 1 rfl k0 k1,fun k k0 k1=>hS.roomIn 1 rfl k0 k1⟩:VAt _ wC nC wv lC gC cC) (hS.holds _ (List.mem_of_getElem? (i:=2) rfl)) ((hV.p i Oa Oa).below hS.below)) ?_;rintro _ w ⟨r1,rfl,hr1,hS'⟩
  replace hS:=hS.cmp hS';clear hS'
  have hbr:0<=r1->1<=cC r1/\cC r1<=1000*i:=fun h=>hbc r1 h (by rcases hr1 with⟨h2,_⟩|⟨_,h2,_⟩<;>omega)
  have hrr:r1= -1\/(0<=r1/\r1<nC):=by rcases hr1 with⟨h2,_⟩|⟨h2,h3,_⟩<;>omega
  refine(zP)<|zlz<|(On)<|zlt<|Zf ?_ ?_<;>intro hc
  ·
   refine zdst [0,1,2] [1,2] 10 mx_ hS ?_;clear hS;intro w hS
   refine(zDw 0 xmv)<|(zDw 1 xmv)<|(zDw 2 (xix (kk:=2*r1) ZR hwC))<|(zDw 3 (xfc (kk:=2*r1+1) fd_97_1 hwC))<|zdl 4 (fun w hS=>(xlr (u:= .int Oi (cC r1)) pl_3 (hS.rowN 0 rfl) (e:=(ZdO wv cC Oa)))) ?_
   refine(zDw 5 (xfb 1 fd_97_1))<|(zDl 6 (fun w hS=>(xlb 1 pl_3 hS)))<|(zDw 7 (Zh (r:=(cC r1)+(cnt i))))<|(zDw 8 (xix (kk:=2*r1) ZR hwC))<|(zDw 9 (xfc (kk:=2*r1+1) fd_97_1 hwC))<|zde 10 (xso 0 pl_3 hS (Zbn (k:=2*r1+1) (i:=r1) _ _ Oa)) ?_;clear hS;rintro w hS
   refine⟨⟨fun h=>absurd h (by decide),hS.pk [1,2]⟩,?_⟩
   refine zdd<|zbn<|ztn<|zrg ?_
   refine(zV (Zh (r:=i+1)))<|(zP)<|zln<|zlq ⟨nC,wv,lC,gC,(upd cC r1 ((cC r1)+(cnt i))),i+1,wC,rfl,Oa,Oa,Oa,?_,?_,?_,?_,rfl,hS.pk [0,1]⟩
   ·
    first|exact ZbY Oa h0 hs (hr1.resolve_right (fun h=>Oa)).2|(have hr9:=hr1.resolve_left (fun h=>Oa);exact Zd5 h0 hs hr9.1 hr9.2.1 hr9.2.2.1 hr9.2.2.2)
   ·
    first|exact Zgz hbc Oa Oa Oa|exact ZkR hbc Oa Oa Oa
   ·
    first|exact qk|exact Zef qk ‹Slh _ _›.one
   ·
    exact hwC
  refine zdst [2] [2] 1000 mx_ hS ?_;clear hS;intro w hS
  refine(zDw 0 xmv)<|(zDw 1 (xfb 0 fd_97_0))<|(zDl 2 (fun w hS=>(xlb 0 pl_22 hS)))<|(zDw 4 (xfb 1 fd_97_1))<|(zDl 5 (fun w hS=>(xlb 0 pl_3 hS)))<|zdc 3 (xc0 cl_66) (c_clone (n:=(ln i)) (f:=(pt i)) w ((hV.p i Oa Oa).below hS.below) Oa) ?_;rintro vq1 w ⟨_,rfl,qb,hS'⟩
  replace hS:=(hS.comp hS').n4;clear hS'
  refine⟨⟨fun _=>hS.pk [2],hS.pk [2]⟩,?_⟩
  refine zDrv 6 (xany (v:= .agg #[vq1,.int Oi (cnt i)]) (hr:=by obtain⟨_,_,_,_,rfl,_⟩:=qb;kernel_rfl)) ?_
  refine zda 7 (xli (n:=1) (len:=1) (pv:= [(0,.agg #[vq1,.int Oi (cnt i)])]) (cs:= [vq1,.int Oi (cnt i)]) (c:=Ze (fun _=>vq1) (fun _=>(cnt i))) ZR Y8 hS (hf:=by obtain⟨_,_,_,_,rfl,_⟩:=qb;kernel_rfl)) ?_;rintro v1 w ⟨hS,hv1⟩
  refine⟨⟨fun _=>hS.pk [2],hS.pk [2]⟩,?_⟩
  refine zda 8 (xap 0 (r:=nC+1) ZR Y8 hS (hS.rowN 4 rfl) (Xn _ _ _ _ _) (h1:=fun k _ _=>Xe (fun _=>qb.one) k)) ?_;rintro v2 w ⟨hS,hv2⟩
  replace hS:=Sat.merge (l1:= [_]) (l2:= [_]) (l3:= [_]) hS Oa
  have za:=fun k (k0:0<=k) (k1:k<nC+1)=>hS.slhIn 1 rfl k0 k1
  refine⟨⟨fun _=>hS.pk [2],hS.pk [2]⟩,?_⟩
  refine(zDw 9 xas)<|zdd<|zbn<|ztn<|zrg ?_
  refine(zV (Zh (r:=i+1)))<|(zP)<|zln<|zlq ⟨nC+1,gsn wv nC vq1,gsn lC nC (ln i),gsn gC nC (pt i),(snoc cC nC (cnt i)),i+1,v2,rfl,Oa,Oa,Oa,?_,?_,?_,?_,rfl,hS.pk [0,1]⟩
  ·
   first|exact ZbY Oa h0 hs (hr1.resolve_right (fun h=>Oa)).2|(have hr9:=hr1.resolve_left (fun h=>Oa);exact Zd5 h0 hs hr9.1 hr9.2.1 hr9.2.2.1 hr9.2.2.2)
  ·
   first|exact Zgz hbc Oa Oa Oa|exact ZkR hbc Oa Oa Oa
  ·
   first|exact qk|exact Zef qk ‹Slh _ _›.one
  ·
   exact hv2
 refine zx8<|(zP)<|zlc (xc0 Znu) (Zn2 (u:=nC) (pv:=wv) (ln:=lC) (pt:=gC) (cnt:=cC) w (⟨(hS.rowN 0 rfl),fun k k0 k1=>hS.rowIn 1 rfl k0 k1,fun k k0 k1=>hS.roomIn 1 rfl k0 k1⟩:VAt _ wC nC wv lC gC cC) (fun k k0 k1=>(hbc k k0 k1).1)) ?_;rintro _ w ⟨rfl,hS'⟩
 replace hS:=hS.cmp hS';clear hS'
 refine(zP)<|zlz<|(zP)<|zlc (xc0 Zns) (ZhZ (vd:=wC) (n:=nC) (nm:=nC) (s:=fun k=>k) (pv:=wv) (cnt:=cC) (lt:=fun x y=>ahd (lst (lC x) (gC x)) (lst (lC y) (gC y))) (F:=Frame.rows 3 nC wv lC gC) w0 w (hS.pk [0,1]) hwC Oa qk (fun w x y x0 x1 y0 y1 _ hF=>ZnL w (hF.1 x x0 x1).row (hF.1 y y0 y1).row) (fun k k0 k1=>⟨k0,k1⟩) (ZiV fun x=>lst (lC x) (gC x)) (fun i j _ h _=>h)) ?_;rintro _ w ⟨rfl,t1,aj,dl,hS⟩
 replace hS:=hS.pmrows 1 aj
 replace hS:Sat w0 w [.own wC 2 97 nC (Ze (fun k=>wv (t1 k)) (fun k=>cC (t1 k))),.sem (Frame.rows 3 nC (fun k=>wv (t1 k)) (fun k=>lC (t1 k)) (fun k=>gC (t1 k)))]:=hS
 refine zlz<|(On)<|zx1<|Oj ?_
 obtain rfl:i=u:=Oa
 exact⟨_,_,_,_,_,_,rfl,.of_names hnC.1 hs aj dl,hnC.1,hnC.2,fun k k0 k1=>(by obtain⟨q,q0,q1,q2⟩:=aj.fr k0 k1;rw [show t1 k=q from q2];exact hbc q q0 q1),hwC,hS⟩
end Go.Proofs.YtpnamgfdakfccaaGreat
namespace Go.Proofs.Gw
variable {c i m x:Int} {sz:Of}
def incr1(p:List Int)(x:Int):List Int:=p.modify x.toNat (· +1)
def Yh(m room:Int)(sz:Of)(x:Int):Us->Us
  | []=> [(incr1 (lst m fun _=>0) x,room-sz x)]
  |b::r=>if sz x<=b.2 then(incr1 b.1 x,b.2-sz x)::r else b::Yh m room sz x r
def YR(m room:Int)(sz:Of)(l:List Int):Us:=l.foldl (fun s x=>Yh m room sz x s) []
theorem T5(m room:Int)(sz:Of)(l:List Int)(x:Int):YR m room sz (l++ [x])=Yh m room sz x (YR m room sz l):=by simp [YR]
theorem Ks{m room:Int}{sz:Of}{x:Int}:∀{s:Us},(∀b∈s,b.2<sz x)->Yh m room sz x s=s++ [(incr1 (lst m fun _=>0) x,room-sz x)]
 | [],_=>rfl
 | b::r,h=>by
   have h1:=h b (by simp)
   rw [Yh,if_neg Oa,Ks fun c hc=>h c (by simp [hc])];rfl
theorem Zcj{m room:Int}{sz:Of}{x:Int}:∀{s:Us} {j:Nat} {b:List Int×Int},s[j]? =some b->sz x<=b.2->(∀k<j,∀c,s[k]? =some c->c.2<sz x)->Yh m room sz x s=s.set j (incr1 b.1 x,b.2-sz x)
 | [],_,_,h,_,_=>by simp at h
 | c::r,0,b,h,e,_=>by
   simp at h;subst h
   rw [Yh,if_pos e];rfl
 | c::r,j+1,b,h,e,hk=>by
   simp at h
   have h1:=hk 0 Oa c (by simp)
   rw [Yh,if_neg Oa,Zcj h e fun k hk' d hd=>hk (k+1) Oa d (by simpa using hd)];rfl
theorem Ki{f:Of}(x0:0<=x):incr1 (lst m f) x=lst m (fun k=>if k=x then f k+1 else f k):=by
 apply List.ext_getElem?
 intro k
 unfold incr1
 rw [List.getElem?_modify,lst_get,lst_get]
 by_cases hk:(k:Int)<m
 · rw [if_pos hk,if_pos hk]
   by_cases hx:x.toNat=k
   · have hx':(k:Int)=x:=Oa
     simp [hx,hx']
   · have hx':¬(k:Int)=x:=Oa
     simp [hx,hx']
 · rw [if_neg hk,if_neg hk];rfl
theorem ZoV{n room:Int}{P P':Og}{L L':Of}{k:Int}(n0:0<=n)(x0:0<=x)(k0:0<=k)(kn:k<n)(h:sz x<=L k)(hf:∀j,0<=j->j<k->L j<sz x)
   (hP:∀a,0<=a->a<n->∀b,0<=b->b<m->P' a b=if a=k/\b=x then P a b+1 else P a b) (hL:∀a,0<=a->a<n->L' a=if a=k then L a-sz x else L a):plL n (fun _=>m) P' L'=Yh m room sz x (plL n (fun _=>m) P L):=by
 have hg:(plL n (fun _=>m) P L)[k.toNat]? =some (lst m (P k),L k):=by rw [plL_get,Int.toNat_of_nonneg k0,if_pos kn]
 rw [Zcj hg h fun j hj c hc=>by
   rw [plL_get,if_pos Oa] at hc;injection hc with hc;rw [<-hc];exact hf j Oa Oa]
 apply List.ext_getElem?
 intro j
 rw [List.getElem?_set,plL_get,plL_get,plL_len]
 by_cases hj:(j:Int)<n
 · rw [if_pos hj,if_pos hj,hL j Oa hj]
   by_cases hjk:k.toNat=j
   · rw [if_pos hjk,if_pos Oa,if_pos Oa]
     rw [Ki x0,show(j:Int)=k by omega]
     congr 2
     apply Yj;intro b b0 b1
     rw [hP k k0 kn b b0 b1]
     by_cases hb:b=x
     · rw [if_pos ⟨rfl,hb⟩,if_pos hb]
     · rw [if_neg fun h=>hb h.2,if_neg hb]
   · rw [if_neg hjk,if_neg Oa]
     congr 2
     apply Yj;intro b b0 b1
     rw [hP j Oa hj b b0 b1,if_neg fun h=>hjk Oa]
 · rw [if_neg hj,if_neg hj]
   by_cases hjk:k.toNat=j
   · omega
   · rw [if_neg hjk]
theorem ZlP{n room:Int}{P P':Og}{L L':Of}(n0:0<=n)(x0:0<=x)(hf:∀j,0<=j->j<n->L j<sz x)
   (hP:∀a,0<=a->a<n->∀b,0<=b->b<m->P' a b=P a b) (hN:∀b,0<=b->b<m->P' n b=if b=x then 1 else 0) (hL:∀a,0<=a->a<n->L' a=L a) (hl:L' n=room-sz x):plL (n+1) (fun _=>m) P' L'=Yh m room sz x (plL n (fun _=>m) P L):=by
 rw [Ks fun b hb=>by
   obtain⟨j,hj⟩:=List.mem_iff_getElem?.1 hb
   rw [plL_get] at hj
   split at hj
   · injection hj with hj;rw [<-hj];exact hf j Oa (by assumption)
   · cases hj]
 rw [Wc n0,hl]
 congr 1
 · exact R0 fun k k0 k1=>⟨rfl,hL k k0 k1,fun j j0 j1=>hP k k0 k1 j j0 j1⟩
 · rw [Ki x0]
   congr 2
   apply Yj;intro b b0 b1
   rw [hN b b0 b1]
   by_cases hb:b=x
   · rw [if_pos hb,if_pos hb];rfl
   · rw [if_neg hb,if_neg hb]
def pcs(d:Of):Nat->List Int
  |0=> []
  |k+1=>pcs d k++List.replicate (d k).toNat (k:Int)
def pcsTo(d:Of)(i c:Int):List Int:=pcs d i.toNat++List.replicate c.toNat i
theorem Zc8(d:Of)(c0:0<=c):pcsTo d i (c+1)=pcsTo d i c++ [i]:=by
 unfold pcsTo;rw [show(c+1).toNat=c.toNat+1 by omega,List.replicate_succ',List.append_assoc]
theorem Zc9(d:Of)(i0:0<=i)(hc:c.toNat=(d i).toNat):pcsTo d (i+1) 0=pcsTo d i c:=by
 unfold pcsTo;rw [show(i+1).toNat=i.toNat+1 by omega,pcs,Int.toNat_of_nonneg i0,hc];simp
def psum(f d:Of):Nat->Int
  |0=>0
  |k+1=>psum f d k+f k*d k
theorem YO(f d:Of)(h:0<=i):psum f d (i+1).toNat=psum f d i.toNat+f i*d i:=by
 rw [show(i+1).toNat=i.toNat+1 by omega,psum,Int.toNat_of_nonneg h]
theorem K9(f:Of)(x:Int):∀n:Nat,((List.replicate n x).map f).sum=f x*n
 |0=>by simp
 |n+1=>by rw [List.replicate_succ,List.map_cons,List.sum_cons,K9 f x n];push_cast;rw [Int.mul_add];omega
theorem Zd1(f d:Of):∀n:Nat,(∀k:Nat,k<n->0<=d k)->((pcs d n).map f).sum=psum f d n
 |0,_=>by simp [pcs,psum]
 | n+1,h=>by
   have h0:=h n Oa
   rw [pcs,List.map_append,List.sum_append,Zd1 f d n fun k hk=>h k Oa,K9,psum,Int.toNat_of_nonneg h0]
theorem R3(f d:Of)(i0:0<=i)(c0:0<=c)(h:∀k,0<=k->k<i->0<=d k):((pcsTo d i c).map f).sum=psum f d i.toNat+f i*c:=by
 unfold pcsTo;rw [List.map_append,List.sum_append,Zd1 f d _ fun k hk=>h k Oa Oa,K9,Int.toNat_of_nonneg c0]
theorem Ze2(d:Of)(i0:0<=i)(c0:0<=c)(h:∀k,0<=k->k<i->0<=d k):((pcsTo d i c).length:Int)=psum (fun _=>1) d i.toNat+c:=by
 have h1:=R3 (fun _=>1) d i0 c0 h
 have h2:∀l:List Int,(l.map fun _=>(1:Int)).sum=l.length:=fun l=>by
   induction l with
   |nil=>rfl
   |cons a l ih=>rw [List.map_cons,List.sum_cons,ih,List.length_cons];push_cast;omega
 rw [h2] at h1;omega
theorem Vc{d:Of}{f:Of}:∀{i n:Nat},i<=n->(∀k:Nat,k<n->0<=f k*d k)->psum f d i<=psum f d n:=by
 intro i n hin h
 induction hin with
 |refl=>exact Int.le_refl _
 | step hh ih=>
   have h1:=ih fun k hk=>h k Oa
   have h2:=h _ (Nat.lt_succ_self _)
   simp only [psum];omega
def Wv(sz:Of)(p:List Int):Int:=((List.range p.length).map fun(k:Nat)=>p.getD k 0*sz k).sum
theorem X5{α:Type}{f g:α->Int}{l:List α}(h:∀x∈l,f x=g x):(l.map f).sum=(l.map g).sum:=by rw [List.map_congr_left h]
theorem ZdS{f:Nat->Int}{x:Nat}{c:Int}:∀{n:Nat},x<n->((List.range n).map fun k=>if k=x then f k+c else f k).sum=((List.range n).map f).sum+c
 |0,h=>Oa
 | n +1,h=>by
   rw [List.range_succ,List.map_append,List.map_append,List.sum_append,List.sum_append]
   by_cases hx:x=n
   · subst hx
     rw [X5 (g:=f) fun k hk=>by rw [if_neg];have:=List.mem_range.1 hk;omega]
     simp;omega
   · rw [ZdS Oa]
     simp [Ne.symm hx];omega
theorem Va(sz:Of){p:List Int}(x0:0<=x)(h:x.toNat<p.length):Wv sz (incr1 p x)=Wv sz p+sz x:=by
 unfold Wv incr1
 rw [List.length_modify,<-ZdS (x:=x.toNat) h]
 apply X5
 intro k hk
 have hk:=List.mem_range.1 hk
 rw [List.getD_eq_getElem?_getD,List.getD_eq_getElem?_getD,List.getElem?_modify]
 by_cases hx:x.toNat=k
 · have hx':(k:Int)=x:=Oa
   rw [if_pos hx.symm,List.getElem?_eq_getElem hk]
   simp [hx,Int.add_mul,hx']
 · rw [if_neg (Ne.symm hx)];simp [hx]
theorem RT(sz:Of)(m:Int):Wv sz (lst m fun _=>0)=0:=by
 unfold Wv
 rw [X5 (g:=fun _=>0) fun k hk=>by
   rw [YY] at hk
   have hk:=List.mem_range.1 hk
   rw [List.getD_eq_getElem?_getD,lst_get,if_pos Oa];simp]
 induction (List.range (lst m fun _=>0).length) with
 |nil=>rfl
 |cons a l ih=>rw [List.map_cons,List.sum_cons,ih];rfl
structure FFOk (m room:Int) (sz:Of) (qc:List Int) (s:Us):Prop where
  ok:∀b∈s,b.1.length=m.toNat/\Wv sz b.1+b.2=room/\0<=b.2
  pr:s.Pairwise fun a b=>a.2+b.2<room
  mt:(s.map fun b=>room-b.2).sum=(qc.map sz).sum
  ct:∀g:Of,(s.map fun b=>Wv g b.1).sum=(qc.map g).sum
  ln:s.length<=qc.length
  nn:∀b∈s,∀v∈b.1,0<=v
theorem FFOk.nil(m room:Int)(sz:Of):FFOk m room sz [] []:=⟨by simp,.nil,rfl,fun _=>rfl,by simp,by simp⟩
theorem Zb7{p:List Int}(h:∀v∈p,0<=v):∀v∈incr1 p x,0<=v:=by
 intro v hv
 unfold incr1 at hv
 obtain⟨k,hk⟩:=List.mem_iff_getElem?.1 hv
 rw [List.getElem?_modify] at hk
 cases hp:p[k]? with
 |none=>rw [hp] at hk;cases hk
 | some u=>
   rw [hp] at hk
   have h0:=h u (List.mem_of_getElem? hp)
   by_cases hx:x.toNat=k
   · simp [hx] at hk;omega
   · simp [hx] at hk;omega
theorem Vi {m room:Int} {sz:Of} {x:Int}:∀{s:Us},∀b∈Yh m room sz x s,b∈s\/(∃c∈s,sz x<=c.2/\b=(incr1 c.1 x,c.2-sz x))\/(b=(incr1 (lst m fun _=>0) x,room-sz x)/\∀c∈s,c.2<sz x)
 | [],b,h=>by simp [Yh] at h;exact .inr (.inr ⟨h,by simp⟩)
 | c :: r, b,h=>by
   rw [Yh] at h
   split at h
   · rename_i hc
     rcases List.mem_cons.1 h with h|h
     · exact .inr (.inl ⟨c,by simp,hc,h⟩)
     · exact .inl (by simp [h])
   · rename_i hc
     rcases List.mem_cons.1 h with h|h
     · exact .inl (by simp [h])
     · rcases Vi b h with h|⟨d,hd,e⟩|⟨e,hd⟩
       · exact .inl (by simp [h])
       · exact .inr (.inl ⟨d,by simp [hd],e⟩)
       · exact .inr (.inr ⟨e,fun d hd'=>by
           rcases List.mem_cons.1 hd' with h|h
           · rw [h];omega
           · exact hd d h⟩)
theorem Kr{m room:Int}{sz:Of}{x:Int}(F:List Int×Int->Int)(y:Int)(h1:∀c:List Int×Int,sz x<=c.2->F (incr1 c.1 x,c.2-sz x)=F c+y)(h2:F (incr1 (lst m fun _=>0) x,room-sz x)=y):∀{s:Us},((Yh m room sz x s).map F).sum=(s.map F).sum+y
 | []=>by simp [Yh,h2]
 | c ::r=>by
   rw [Yh]
   split
   · rename_i hc
     simp only [List.map_cons,List.sum_cons,h1 c hc];omega
   · simp only [List.map_cons,List.sum_cons,Kr F y h1 h2 (s:=r)];omega
theorem Zci{m room:Int}{sz:Of}{x:Int}(hx:0<=sz x):∀{s:Us},s.Pairwise (fun a b=>a.2+b.2<room)->(Yh m room sz x s).Pairwise fun a b=>a.2+b.2<room
 | [],_=>by simp [Yh]
 | c ::r,h=>by
   have h1:=List.pairwise_cons.1 h
   rw [Yh]
   split
   · refine List.pairwise_cons.2 ⟨fun b hb=> ?_,h1.2⟩
     have:=h1.1 b hb
     dsimp only;omega
   · refine List.pairwise_cons.2 ⟨fun b hb=> ?_,Zci hx h1.2⟩
     rcases Vi b hb with h|⟨d,hd,_,e⟩|⟨e,hd⟩
     · exact h1.1 b h
     · rw [e];have:=h1.1 d hd;dsimp only;omega
     · rw [e];dsimp only;omega
theorem Kt{m room:Int}{sz:Of}{x:Int}:∀{s:Us},(Yh m room sz x s).length<=s.length+1
 | []=>by simp [Yh]
 | c::r=>by
   rw [Yh]
   split
   · simp
   · simp only [List.length_cons];have:=Kt (m:=m) (room:=room) (sz:=sz) (x:=x) (s:=r);omega
theorem Zg6 {room:Int} {qc:List Int} {s:Us} (h:FFOk m room sz qc s) (x0:0<=x) (x1:x<m) (hx:0<=sz x) (hr:sz x<=room):FFOk m room sz (qc++ [x]) (Yh m room sz x s):=by
 have hl:x.toNat<(lst m fun _=>(0:Int)).length:=by rw [YY];omega
 refine⟨fun b hb=> ?_,Zci hx h.pr,?_,fun g=> ?_,?_,fun b hb=> ?_⟩
 · rcases Vi b hb with hb|⟨c,hc,hs,e⟩|⟨e,_⟩
   · exact h.ok b hb
   · obtain⟨h1,h2,h3⟩:=h.ok c hc
     rw [e]
     refine⟨by simp [incr1,h1],?_,by dsimp only;omega⟩
     rw [Va sz x0 Oa];dsimp only;omega
   · rw [e]
     refine⟨by simp [incr1,YY],?_,by dsimp only;omega⟩
     rw [Va sz x0 hl,RT];dsimp only;omega
 · rw [Kr (fun b=>room-b.2) (sz x) (fun c hc=>by dsimp only;omega) (by dsimp only;omega),h.mt];simp
 · have key:∀{s:Us},(∀b∈s,b.1.length=m.toNat)->((Yh m room sz x s).map fun b=>Wv g b.1).sum=(s.map fun b=>Wv g b.1).sum+g x:=by
     intro s hs
     induction s with
     |nil=>simp [Yh,Va g x0 hl,RT]
     | cons c r ih=>
       rw [Yh]
       split
       · simp only [List.map_cons,List.sum_cons]
         rw [Va g x0 (by rw [hs c (by simp)];omega)];omega
       · simp only [List.map_cons,List.sum_cons,ih fun b hb=>hs b (by simp [hb])];omega
   rw [key fun b hb=>(h.ok b hb).1,h.ct];simp
 · have:=Kt (m:=m) (room:=room) (sz:=sz) (x:=x) (s:=s);have:=h.ln;simp;omega
 · rcases Vi b hb with hb|⟨c,hc,hs,e⟩|⟨e,_⟩
   · exact h.nn b hb
   · rw [e];exact Zb7 (h.nn c hc)
   · rw [e];exact Zb7 fun v hv=>by
       unfold lst at hv;simp at hv;omega
theorem Zg5{room:Int}:∀{l:List Int},(∀x∈l,0<=x/\x<m/\0<=sz x/\sz x<=room)->FFOk m room sz l (YR m room sz l):=by
 intro l
 have key:∀(l h:List Int) (s:Us),FFOk m room sz h s->(∀x∈l,0<=x/\x<m/\0<=sz x/\sz x<=room)->FFOk m room sz (h++l) (l.foldl (fun s x=>Yh m room sz x s) s):=by
   intro l
   induction l with
   |nil=>intro h s hs _;simpa using hs
   | cons x l ih=>
     intro h s hs hl
     obtain⟨h1,h2,h3,h4⟩:=hl x (by simp)
     have:=ih (h++ [x]) _ (Zg6 hs h1 h2 h3 h4) fun y hy=>hl y (by simp [hy])
     simpa using this
 intro hl
 have:=key l [] [] (.nil _ _ _) hl
 simpa [YR] using this
theorem Zd2{d:Of}:∀{n:Nat},∀x∈pcs d n,0<=x/\x<n
 |0,x,h=>by simp [pcs] at h
 | n+1,x,h=>by
   rw [pcs] at h
   rcases List.mem_append.1 h with h|h
   · have:=Zd2 x h;omega
   · have:=(List.mem_replicate.1 h).2;omega
def Rx(s:Us):Us:=s.map fun b=>(b.1,1)
theorem Ul(f:List Int->Int):∀s:Us,wsum f (Rx s)=(s.map fun b=>f b.1).sum
 | []=>rfl
 | b::r=>by
   have:=Ul f r
   unfold Rx at this⊢
   simp only [List.map_cons,wsum,List.sum_cons,this];omega
end Go.Proofs.Gw
namespace Go.Proofs.YtpnamgfdakfccaaGreat
open Go Go.RowKit Go.Proofs.Gw
variable {vD:Value}
theorem Zno:Zd Om 145=true:=Oc
theorem Zka{vL:Value}{p:Prob}(w0:World)(h:PAt w0 vL vD p)(hok:p.Ok):
   Calls Om 145 [.agg #[vL,vD,.int Oi p.stock,.int Oi p.kerf]].toArray w0 fun e w=>∃v,e= .returned v/\v= .int Oi (psum (fun _=>1) p.D p.m.toNat)/\Sat w0 w []:=by
 obtain⟨hm,hm1,hd,hd1,hs,hk⟩:=h.Oq
 have hpd:=hok.d;have xb:=hok.m2
 refine zenG Tryz.func145 Tryz.ntmps145 fun w hS=> ?_
 refine zsr<|zla (xbx (cs:= [_,_,_,_]) hS) ?_;rintro _ w ⟨g1,rfl,hS⟩
 refine(zP)<|zlz<|(zP)<|zx5<|(zV (xfb 1 fd_27_1))<|(zV (xlb 0 pl_22 hS))<|(zV (xln Zb h.D.slh))<|(zP)<|zx6<|zlp (fun mm M w=>∃(s:Int) (i:Int),mm=((p.d-i).toNat)/\(0<=i)/\(i<=p.d)/\(s=psum (fun _=>1) p.D i.toNat)/\(0<=s/\s<=1000000*i)/\M= [(2,.int Oi 0),(3,.int Oi s),(7,vD),(8,.int Oi p.d),(9,.int Oi i)]/\Sat w0 w [.blk g1 [vL,vD,.int Oi p.stock,.int Oi p.kerf]]) ⟨0,0,rfl,Oa,Oa,?_,Oa,rfl,hS⟩ ?_
 ·
  rfl
 clear hS w
 rintro mm M w ⟨s,i,rfl,h0,h1,hs9,hsb,rfl,hS⟩
 refine zsr<|(zP)<|zx7<|Zf ?_ ?_<;>intro hc
 ·
  refine zx3<|(zV (xix (kk:=i) Zb h.D.slh))<|zlv (xlr (u:= .int Oi (p.D i)) pl_3 (h.D.below hS.below)) ?_
  have hbv:=h.iD i
  have he:=hok.all i h0 Oa;unfold Prob.each at he
  refine(zP)<|zlt<|zrg<|(On)<|(zV (Zh (r:=s+p.D i)))<|(zP)<|zx10<|(zV (Zh (r:=i+1)))<|(zP)<|zln<|zlq ⟨s+p.D i,i+1,rfl,Oa,Oa,?_,Oa,rfl,hS⟩
  ·
   rw [YO _ _ h0,<-hs9];omega
 refine zx8<|(On)<|zx1<|Oj ?_
 obtain rfl:p.m=i:=Oa
 rw [<-hs9]
 exact⟨rfl,hS.nl⟩
def ZiN(p:Prob)(e:Int):Prop:=(¬p.Ok/\e=1)\/(p.Ok/\1000<psum (fun _=>1) p.D p.m.toNat/\e=9)\/(p.Ok/\psum (fun _=>1) p.D p.m.toNat<=1000/\e=0)
theorem ZeF{vL:Value}{p:Prob}(w0:World)(h:PAt w0 vL vD p):
   Calls Om 75 [.agg #[vL,vD,.int Oi p.stock,.int Oi p.kerf]].toArray w0 fun e w=>∃v,e= .returned v/\∃e:Int,v= .int Oi e/\ZiN p e/\Sat w0 w []:=by
 obtain⟨hm,hm1,hd,hd1,hs,hk⟩:=h.Oq
 refine zenG Tryz.func75 Tryz.ntmps75 fun w hS=> ?_
 refine zsr<|zla (xbx (cs:= [_,_,_,_]) hS) ?_;rintro _ w ⟨g1,rfl,hS⟩
 refine(zP)<|zlt<|zsq<|zbk<|zsr<|(zV (xls 0 st_27 hS))<|zlc (xc0 XP) (Ya (p:=p) w (h.below hS.below)) ?_;rintro _ w ⟨rfl,hS'⟩
 replace hS:=hS.cmp hS';clear hS'
 refine(On)<|zlt<|Zf ?_ ?_<;>intro hc
 ·
  refine zsr<|(zP)<|zlt<|zrt<|zbr<|ztr<|Oj ?_
  exact⟨1,rfl,.inl ⟨‹¬p.Ok›,rfl⟩,hS.nl⟩
 refine zsr<|zlv (xls 0 st_27 hS) ?_
 have xT:p.Ok:=by first|assumption|exact Od ‹_›
 refine zlc (xc0 Zno) (Zka (p:=p) w (h.below hS.below) xT) ?_;rintro _ w ⟨rfl,hS'⟩
 replace hS:=hS.cmp hS';clear hS'
 refine(On)<|zlt<|Zf ?_ ?_<;>intro hc
 ·
  refine zsr<|(zP)<|zlt<|zrt<|zbr<|ztr<|Oj ?_
  exact⟨9,rfl,.inr (.inl ⟨xT,Oa,rfl⟩),hS.nl⟩
 refine zsk<|zbn<|ztn<|zsr<|(zP)<|zx1<|Oj ?_
 exact⟨0,rfl,.inr (.inr ⟨xT,Oa,rfl⟩),hS.nl⟩
theorem Zh8{vL:Value}{p:Prob}(w0:World)(h:PAt w0 vL vD p):
   Calls Om 146 [.agg #[vL,vD,.int Oi p.stock,.int Oi p.kerf]].toArray w0 fun e w=>∃v,e= .returned v/\∃g,v= .func (.func 223) #[] #[Or g]/\Sat w0 w [.blk g [vL,vD,.int Oi p.stock,.int Oi p.kerf]]:=by
 refine zenG Tryz.func146 Tryz.ntmps146 fun w hS=> ?_
 refine zsr<|zla (xbx (cs:= [_,_,_,_]) hS) ?_;rintro _ w ⟨g1,rfl,hS⟩
 refine(zP)<|zlz<|(zV xmf)<|(zP)<|zx1<|Oj ?_
 exact⟨_,rfl,hS⟩
theorem ZfB{vL:Value}{p:Prob}{gp:Nat}{St:Type}(qc:St->List Int)(Inv:St->Prop)(s0:St)(hs0:qc s0= [])(hI0:Inv s0)(w0:World)(h:PAt w0 vL vD p)(hok:p.Ok):ItC (St:=St) (X:=Int) (Tt:=Unit) Om w0 223 [Or gp] [.blk gp [vL,vD,.int Oi p.stock,.int Oi p.kerf]] (fun x=> [.int Oi x]) (fun s x rest=>Inv s/\∃c,0<=x/\x<p.m/\0<=c/\c<p.D x/\qc s=pcsTo p.D x c) (fun s x s1=>qc s1=qc s++ [x]/\Inv s1) (fun _ _ _=>False) (s0) (fun s rest=>Inv s/\qc s=pcsTo p.D p.m 0) (fun _ _=>False):=by
 intro l C D w hS hY
 obtain⟨hm,hm1,hd,hd1,hs,hk⟩:=h.Oq
 have hpd:=hok.d;have xb:=hok.m2
 refine ZgQ Tryz.func223 Tryz.ntmps223 ?_
 refine hsq<|hrz ?_
 refine zlv (xfb 1 fd_27_1) ?_
 refine zlv (xlb 1 pl_22 hS) ?_
 refine zlv (xln Zb h.D.slh) ?_
 refine zlv xmv ?_
 refine zln<|zh<|htn<|hbk<|hlp (fun mm M w=>∃(s:St) (i:Int),mm=((p.d-i).toNat)/\(0<=i)/\(i<=p.d)/\(Inv s)/\(qc s=pcsTo p.D i 0)/\M= [(0,.func (.yield l) #[] #[]),(6,vD),(7,.int Oi p.d),(8,.int Oi i)]/\Sat w0 w [.sem (C s),.blk gp [vL,vD,.int Oi p.stock,.int Oi p.kerf]]) ⟨s0,0,rfl,Oa,Oa,?_,?_,rfl,hS⟩ ?_
 ·
  exact hI0
 ·
  exact hs0
 clear hS w
 rintro mm M w ⟨s,i,rfl,h0,h1,hI,hh,rfl,hS⟩
 refine hsq<|hrz ?_
 refine zlv Yc ?_
 refine zln<|zh<|htn<|hsq ?_
 refine Y0 ?_ ?_<;>intro hc
 ·
  refine hsk<|htn<|hsq<|hbk<|hsq<|hrz ?_
  refine zlv xmv ?_
  refine zlv (xix (kk:=i) Zb h.D.slh) ?_
  refine zlv (xlr (u:= .int Oi (p.D i)) pl_3 (h.D.below hS.below)) ?_
  have hbv:=h.iD i
  have he:=hok.all i h0 Oa;unfold Prob.each at he
  refine zs2 ?_
  refine zln<|zh<|htn<|hsq<|hrz ?_
  refine zs2 ?_
  refine zln<|zh<|htn<|hbk<|hlp (fun mm M w=>∃(s2:St) (c:Int),mm=((p.D i-c).toNat)/\(0<=c)/\(c<=p.D i)/\(Inv s2)/\(qc s2=pcsTo p.D i c)/\M= [(0,.func (.yield l) #[] #[]),(3,.int Oi i),(6,vD),(7,.int Oi p.d),(8,.int Oi i),(13,.int Oi (p.D i)),(14,.int Oi c)]/\Sat w0 w [.sem (C s2),.blk gp [vL,vD,.int Oi p.stock,.int Oi p.kerf]]) ⟨s,0,rfl,Oa,Oa,?_,?_,rfl,hS⟩ ?_
  ·
   exact hI
  ·
   exact hh
  clear hS w
  rintro mm M w ⟨s2,c,rfl,c0,c1,hI2,hh2,rfl,hS⟩
  refine hsq<|hrz ?_
  refine zlv Yc ?_
  refine zln<|zh<|htn<|hsq ?_
  refine Y0 ?_ ?_<;>intro hc
  ·
   refine hsk<|htn<|hsq<|hbk<|hsq<|hrg ?_
   iterate 2 refine hlv xmv ?_
   refine hly (hY s2 i _ w ⟨hI2,c,h0,Oa,c0,Oa,hh2⟩ (Sat.bundle (l1:= [_,_]) (l2:= []) hS)) ?_;rintro _ w (⟨rfl,sy1,qw,hS⟩|⟨rfl,ty1,xh,hS⟩)
   ·
    replace hS:=Sat.unbundle (l1:= [_,_]) (l3:= []) hS
    replace hS:=hS.n2
    refine hlv xnt ?_
    refine hln<|htn<|hcf<|hsk<|zbn<|htn<|hrz ?_
    refine zlv (Zh (r:=c+1)) ?_
    refine zlv xmv ?_
    refine zln<|zh<|hlq ⟨sy1,c+1,rfl,Oa,Oa,?_,?_,rfl,hS⟩
    ·
     exact qw.2
    ·
     rw [qw.1,hh2,<-Zc8 _ c0]
   ·
    replace hS:=Sat.unbundle (l1:= [_,_]) (l3:= []) hS
    replace hS:=hS.n2
    refine hlv xnf ?_
    refine hln<|htn<|hct<|hrt<|zbr<|ztr<|ztr<|zbr<|zbr<|ztr<|ztr<|zbr<|zf0 ⟨_,rfl,?_⟩
    exact xh.elim
  refine hxt<|ztx<|ztx<|zbh<|zbn<|htn<|hrz ?_
  refine zlv (Zh (r:=i+1)) ?_
  refine zlv xmv ?_
  refine zln<|zh<|hlq ⟨s2,i+1,rfl,Oa,Oa,?_,?_,rfl,hS⟩
  ·
   exact hI2
  ·
   rw [Zc9 _ h0 (c:=c) Oa];exact hh2
 refine hxt<|ztx<|ztx<|zbh<|XD ⟨_,rfl,?_⟩
 exact .inl ⟨s,_,⟨hI,by rw [hh,show i=p.m by omega]⟩,Sat.bundle (l1:= [_,_]) (l2:= []) hS⟩
end Go.Proofs.YtpnamgfdakfccaaGreat
namespace Go.Proofs.YtpnamgfdakfccaaGreat
open Go Go.RowKit Go.Proofs.Gw
variable {m x:Int} {sz:Of}
theorem TP{d:Of}{i c:Int}(hd:∀k,0<=k->k<m->0<=d k)(i0:0<=i)(i1:i<=m)(c0:0<=c)(c1:i<m->c<=d i)(c2:i=m->c=0):(∀x∈pcsTo d i c,0<=x/\x<m)/\((pcsTo d i c).length:Int)<=psum (fun _=>1) d m.toNat:=by
 constructor
 · intro x hx
   unfold pcsTo at hx
   rcases List.mem_append.1 hx with h|h
   · have:=Zd2 x h;omega
   · have h1:=List.mem_replicate.1 h
     have h2:=h1.2
     rcases Int.lt_or_eq_of_le i1 with h3|h3
     · omega
     · have:=c2 h3;have:=h1.1;omega
 · rw [Ze2 d i0 c0 fun k k0 k1=>hd k k0 Oa]
   rcases Int.lt_or_eq_of_le i1 with h3|h3
   · have h4:=c1 h3
     have h5:=YO (fun _=>1) d i0
     have h6:=Vc (d:=d) (f:=fun _=>1) (i:=(i+1).toNat) (n:=m.toNat) Oa fun k hk=>by have:=hd k Oa Oa;omega
     rw [h5] at h6;omega
   · have:=c2 h3;rw [h3];omega
theorem Zak {p:List Int} (hp:∀v∈p,0<=v) (hs:∀k:Nat,k<p.length->1<=sz k) {j:Nat} (hj:j<p.length):p.getD j 0<=Wv sz p:=by
 have key:∀(l:List Nat) (f:Nat->Int),(∀k∈l,0<=f k)->∀j∈l,f j<=(l.map f).sum:=by
   intro l f
   induction l with
   |nil=>intro _ j h;simp at h
   | cons a l ih=>
     intro h0 j h
     have h1:0<=(l.map f).sum:=by
       clear ih h
       induction l with
       |nil=>simp
       |cons b l ih2=>rw [List.map_cons,List.sum_cons];have:=h0 b (by simp);have:=ih2 (fun k hk=>h0 k (by rcases List.mem_cons.1 hk with h|h<;>simp [h]));omega
     rw [List.map_cons,List.sum_cons]
     rcases List.mem_cons.1 h with e|e
     · rw [e];omega
     · have:=ih (fun k hk=>h0 k (by simp [hk])) j e;have:=h0 a (by simp);omega
 have nn:∀k:Nat,k<p.length->0<=p.getD k 0:=fun k hk=>by
   rw [List.getD_eq_getElem?_getD,List.getElem?_eq_getElem hk]
   exact hp _ (List.getElem_mem hk)
 have h1:=key (List.range p.length) (fun k=>p.getD k 0*sz k) (fun k hk=>by
   have hk:=List.mem_range.1 hk
   exact Int.mul_nonneg (nn k hk) (by have:=hs k hk;omega)) j (List.mem_range.2 hj)
 have h2:=nn j hj
 have h3:=hs j hj
 have h4:=Int.mul_le_mul_of_nonneg_left h3 h2
 exact Int.le_trans (show p.getD j 0<=p.getD j 0*sz j by omega) h1
structure FSt where
  h:List Int
  vB:Value
  n:Int
  vv:Int->Value
  P:Og
  vL:Value
  L:Of
abbrev szP(p:Prob):Of:=fun k=>p.L k+p.kerf
def FInv(p:Prob)(s:FSt):Prop:=plL s.n (fun _=>p.m) s.P s.L=YR p.m (p.stock+p.kerf) (szP p) s.h/\Slh s.vB s.n/\Slh s.vL s.n
def FSt.zer:FSt:=⟨[],Oh,0,fun _=> Oh,fun _ _=>0,Oh,fun _=>0⟩
theorem FInv.zer(p:Prob):FInv p FSt.zer:=⟨rfl,slh_nil,slh_nil⟩
theorem ZcZ{p:Prob}(hok:p.Ok)(x0:0<=x)(x1:x<p.m):1<=szP p x/\szP p x<=p.stock+p.kerf:=by
 have he:=hok.all x x0 x1
 unfold Prob.each at he
 have:=hok.k1
 unfold szP;omega
theorem Zei{p:Prob}(hok:p.Ok){l:List Int}(hm:∀x∈l,0<=x/\x<p.m):FFOk p.m (p.stock+p.kerf) (szP p) l (YR p.m (p.stock+p.kerf) (szP p) l):=
 Zg5 fun x hx=>by
   have h1:=hm x hx
   have h2:=ZcZ hok h1.1 h1.2
   exact⟨h1.1,h1.2,Oa,h2.2⟩
theorem FInv.rng{p:Prob}{s:FSt}(hok:p.Ok)(h:FInv p s)(hm:∀x∈s.h,0<=x/\x<p.m)(hl:(s.h.length:Int)<=1000):s.n<=1000/\∀k,0<=k->k<s.n->(0<=s.L k/\s.L k<=p.stock+p.kerf)/\∀j,0<=j->j<p.m->0<=s.P k j/\s.P k j<=p.stock+p.kerf:=by
 have hk:=Zei hok hm
 rw [<-h.1] at hk
 have h1:=hk.ln
 rw [plL_len] at h1
 refine⟨by omega,fun k k0 k1=> ?_⟩
 have hb:(lst p.m (s.P k),s.L k)∈plL s.n (fun _=>p.m) s.P s.L:=List.mem_iff_getElem?.2 ⟨k.toNat,by rw [plL_get,Int.toNat_of_nonneg k0,if_pos k1]⟩
 obtain⟨h2,h3,h4⟩:=hk.ok _ hb
 have h5:=hk.nn _ hb
 dsimp only at h2 h3 h4 h5
 have hg:∀j,0<=j->j<p.m->(lst p.m (s.P k)).getD j.toNat 0=s.P k j:=fun j j0 j1=>by rw [List.getD_eq_getElem?_getD,lst_get,Int.toNat_of_nonneg j0,if_pos j1];rfl
 have h8:∀j:Nat,j<(lst p.m (s.P k)).length->1<=szP p j:=fun j hj=>by
   rw [YY] at hj
   exact(ZcZ hok Oa Oa).1
 have h9:0<=Wv (szP p) (lst p.m (s.P k)):=by
   have hm1:=hok.m1
   have h10:=Zak h5 h8 (j:=0) (by rw [YY];omega)
   have h11:=hg 0 Oa Oa
   have h12:=h5 (s.P k 0) (by
     have:=lst_get p.m (s.P k) 0
     rw [if_pos Oa] at this
     exact List.mem_of_getElem? this)
   rw [show(0:Int).toNat=0 from rfl] at h11
   omega
 refine⟨⟨h4,Oa⟩,fun j j0 j1=> ?_⟩
 have h6:=Zak h5 h8 (j:=j.toNat) (by rw [YY];omega)
 rw [hg j j0 j1] at h6
 have h7:=h5 (s.P k j) (by
   have:=lst_get p.m (s.P k) j.toNat
   rw [Int.toNat_of_nonneg j0,if_pos j1] at this
   exact List.mem_of_getElem? this)
 exact⟨h7,Oa⟩
theorem Zg4{n room r y:Int}{L:Of}{P:Og}(n0:0<=n)(x0:0<=x)(r0:0<=r)(r1:r<n)(h:sz x<=L r)(hf:∀j,0<=j->j<r->¬(sz x<=L j))(hy:y=L r-sz x):
   plL n (fun _=>m) (upd P r (upd (P r) x (P r x+1))) (upd L r y)=Yh m room sz x (plL n (fun _=>m) P L):=
 ZoV n0 x0 r0 r1 h (fun j j0 j1=>by have:=hf j j0 j1;omega) (fun a a0 a1 b b0 b1=>by
   unfold upd
   by_cases ha:a=r
   · subst ha
     by_cases hb:b=x
     · subst hb;simp
     · simp [hb]
   · simp [ha]) (fun a a0 a1=>by
   unfold upd
   by_cases ha:a=r
   · subst ha;simp [hy]
   · simp [ha])
theorem Zeh{n room y:Int}{L:Of}{P:Og}(n0:0<=n)(x0:0<=x)(hf:∀j,0<=j->j<n->¬(sz x<=L j))(hy:y=snoc L n room n-sz x):
   plL (n+1) (fun _=>m) (upd (gsn P n (fun _=>0)) n (upd (gsn P n (fun _=>0) n) x (gsn P n (fun _=>0) n x+1))) (upd (snoc L n room) n y)=Yh m room sz x (plL n (fun _=>m) P L):=by
 have e1:gsn P n (fun _=>0) n=fun _=>0:=ZB Oa
 have e2:snoc L n room n=room:=Zt Oa
 rw [e2] at hy
 rw [e1]
 refine ZlP n0 x0 (fun j j0 j1=>by have:=hf j j0 j1;omega) (fun a a0 a1 b b0 b1=> ?_) (fun b b0 b1=> ?_) (fun a a0 a1=> ?_) ?_
 · unfold upd;rw [if_neg Oa,Zq a1]
 · unfold upd;rw [if_pos rfl]
   by_cases hb:b=x
   · simp [hb]
   · simp [hb]
 · unfold upd;rw [if_neg Oa,Zs a1]
 · unfold upd;rw [if_pos rfl];exact hy
theorem Zgu(n:Int)(ln:Of)(pt:Og)(cnt:Of):Rx (plL n ln pt cnt)=plL n ln pt (fun _=>1):=by
 unfold Rx plL
 rw [List.map_map];rfl
theorem Kj{α:Type}(a:α)(n:Int):gsn (fun _=>a) n a=fun _=>a:=by
 funext k;unfold gsn;split<;>rfl
end Go.Proofs.YtpnamgfdakfccaaGreat
namespace Go.Proofs.YtpnamgfdakfccaaGreat
open Go Go.RowKit Go.Proofs.Gw
theorem Znm:Zd Om 148=true:=Oc
theorem ZpE{x m:Int}{a1:Addr}(w0:World)(hp1:w0.cell? a1=some (.int Oi m)):
   Calls Om 148 [.int Oi x,.pointer (some a1)].toArray w0 fun e w=>∃v,e= .returned v/\v=B (m<=x)/\Sat w0 w []:=by
 refine zenG Tryz.func148 Tryz.ntmps148 fun w hS=> ?_
 refine zsr<|(zP)<|zlz<|(zP)<|(zV (xlf pl_3 hp1 hS))<|(On)<|zx1<|Oj ?_
 exact⟨Zm Oa,hS⟩
theorem ZnW{v:Value}{n m:Int}{f:Of}{a1:Addr}(w0:World)(hR:Row w0 v 1 n (ints f))(hp1:w0.cell? a1=some (.int Oi m)):
   Calls Om 147 [v,.func (.func 148) #[] #[.pointer (some a1)]].toArray w0 fun e w=>∃v,e= .returned v/\∃r:Int,v= .int Oi r/\((r= -1/\∀k,0<=k->k<n->¬(m<=f k))\/(0<=r/\r<n/\(m<=f r)/\∀k,0<=k->k<r->¬(m<=f k)))/\Sat w0 w []:=by
 have hn:=hR.slh.n0;have hn1:=hR.slh.n1
 refine zenG Tryz.func147 Tryz.ntmps147 fun w hS=> ?_
 refine zsr<|(zP)<|zx5<|(zP)<|(zV (xln Zb hR.slh))<|(zP)<|zx6<|zlp (fun mm M w=>∃(i:Int),mm=((n-i).toNat)/\(0<=i)/\(i<=n)/\(∀k,0<=k->k<i->¬(m<=f k))/\M= [(0,v),(1,.func (.func 148) #[] #[.pointer (some a1)]),(7,.int Oi n),(8,.int Oi i)]/\Sat w0 w []) ⟨0,rfl,Oa,Oa,?_,rfl,hS⟩ ?_
 ·
  intro k h0 h1;omega
 clear hS w
 rintro mm M w ⟨i,rfl,h0,h1,qa,rfl,hS⟩
 refine zsr<|(zP)<|zx7<|Zf ?_ ?_<;>intro hc
 ·
  refine zx3<|(On)<|zlz<|(Oo)<|(zV (xix (kk:=i) Zb hR.slh))<|(zV (xlr (u:= .int Oi (f i)) pl_3 (hR.below hS.below)))<|zlc (xcc (vs:= [_]) Znm) (ZpE (x:=(f i)) (m:=m) w (hS.ref hp1)) ?_;rintro _ w ⟨rfl,hS'⟩
  replace hS:=hS.cmp hS';clear hS'
  refine zlt<|Zf ?_ ?_<;>intro hc
  ·
   refine zsr<|(On)<|zx2<|Oj ?_
   exact⟨i,rfl,.inr ⟨by omega,Oa,‹m<=f i›,qa⟩,hS⟩
  refine zx4<|(zV (Zh (r:=i+1)))<|(zP)<|zln<|zlq ⟨i+1,rfl,Oa,Oa,?_,rfl,hS⟩
  ·
   intro k h0' h1';rcases Int.lt_or_eq_of_le (show k<=i by omega) with hk|hk;exact qa k h0' hk;rw [hk];assumption
 refine zx8<|(zP)<|zx1<|Oj ?_
 exact⟨-1,rfl,.inl ⟨rfl,fun k h0 h1=>qa k h0 Oa⟩,hS⟩
theorem Znn:Zd Om 146=true:=Oc
theorem ZmY:Zd Om 223=true:=Oc
theorem Zeu:Zd Om 68=true:=Oc
theorem Zhn:ZN Om 52=some (Oh,1,24):=Oc
theorem Rl{vL vD:Value}{p:Prob}(w0:World)(h:PAt w0 vL vD p)(hok:p.Ok)(aS:psum (fun _=>1) p.D p.m.toNat<=1000):
   Calls Om 76 [.agg #[vL,vD,.int Oi p.stock,.int Oi p.kerf]].toArray w0 fun e w=>∃v,e= .returned v/\∃r n2 pv2 ln2 pt2 qf,v=r/\NormR (Rx (YR p.m (p.stock+p.kerf) (szP p) (pcsTo p.D p.m 0))) (plL n2 ln2 pt2 qf)/\0<=n2/\n2<=1000/\(∀k,0<=k->k<n2->1<=qf k/\qf k<=1000000)/\Slh r n2/\Sat w0 w [.own r 2 97 n2 (Ze pv2 qf),.sem (Frame.rows 3 n2 pv2 ln2 pt2)]:=by
 obtain⟨hm,hm1,hd,hd1,hs,hk⟩:=h.Oq
 have hpd:=hok.d;have xb:=hok.m2;have aZ:=hok.m1;have hs1:=hok.s1;have hs2:=hok.s2;have hk1:=hok.k1;have hk2:=hok.k2
 refine ZjE Tryz.func76 Tryz.ntmps76 fun w hS=> ?_
 refine hsq<|hrz ?_
 refine zla (xbx (cs:= [_,_,_,_]) hS) ?_;rintro _ w ⟨g1,rfl,hS⟩
 refine(zP)<|zln<|zh<|htn<|hsq<|hrz ?_
 refine zla (xal (cs:= [_]) Zhn hS) ?_;rintro _ w ⟨g2,rfl,hS⟩
 refine zln<|zh<|htn<|hsq<|hrz ?_
 refine zla (xal (cs:= [_]) Yl hS) ?_;rintro _ w ⟨g3,rfl,hS⟩
 refine zln<|zh<|htn<|hsq<|hsq<|hrz ?_
 refine(zV (xls 0 st_27 hS))<|zlc (xc0 Znn) (Zh8 (p:=p) w (h.below hS.below)) ?_;rintro _ w ⟨g4,rfl,hS'⟩
 replace hS:=(hS.comp hS').n4;clear hS'
 refine zln<|zh<|htn<|hbk ?_
 replace hS:=hS.addnil 1 22 (fun _=>Oh)
 replace hS:=hS.addrows 3 (fun _=>Oh) (fun _=>p.m) (fun _ _=>0)
 replace hS:=hS.addnil 1 3 (ints (fun _=>0))
 refine hrf (St:=FSt) (X:=Int) (Tt:=Unit) (fun s=> [.blk g1 [vL,vD,.int Oi p.stock,.int Oi p.kerf],.blk g2 [s.vB],.blk g3 [s.vL],.own s.vB 1 22 s.n s.vv,.sem (Frame.rows 3 s.n s.vv (fun _=>p.m) s.P),.own s.vL 1 3 s.n (ints s.L)]) (fun t=> []) (fun _=> .ret) FSt.zer (fun x M es=>M= [(0,.agg #[vL,vD,.int Oi p.stock,.int Oi p.kerf]),(1,Or g1),(2,Oh),(3,Or g2),(4,Or g3),(11,.agg #[vL,vD,.int Oi p.stock,.int Oi p.kerf]),(12,.func (.func 223) #[] #[Or g4]),(13,.int Oi x),(5,.int Oi x)]/\es= []) (ZfB (gp:=g4) (fun s=>s.h) (FInv p) FSt.zer rfl (FInv.zer p) w0 h hok) (hS.pk [0,1,2,4,5,6,3]) ZmY (fun _=>rfl) (fun _=> .inl rfl) ?_ ?_ ?_ ?_
 ·
  intro lq s x rest w qs qK hrr hS
  refine hrz ?_
  refine(zP)<|zln<|zh<|ZgR ⟨rfl,rfl⟩ hS
 ·
  rintro lq s x _ _ rest w qs ⟨rfl,rfl⟩ qK hrr hS
  obtain⟨hIv,c,x0,x1,c0,c1,hh⟩:=qs
  have hlB:=hIv.2.1;have hlL:=hIv.2.2
  obtain⟨xU,xg⟩:=TP (d:=p.D) (i:=x) (c:=c) (fun k k0 k1=>by have he:=hok.all k k0 k1;unfold Prob.each at he;omega) x0 Oa c0 (fun _=>Oa) (fun _=>Oa)
  rw [<-hh] at xU xg
  obtain⟨hn9,hrg⟩:=hIv.rng hok xU Oa
  have hex:=hok.all x x0 x1;unfold Prob.each at hex
  have hsn:=hlB.n0
  have hrB:=fun k (k0:0<=k) (k1:k<s.n)=>hS.slhIn 4 rfl k0 k1
  refine hbk<|hsq ?_
  refine hdst [0,1,2,3,4,5,6,7] [0,1,2,3,4,5,6,7] 9 mx_ hS ?_;clear hS;intro w hS
  refine(zDw 0 (xfb 0 fd_27_0))<|(zDl 1 (fun w hS=>(xlb 0 pl_22 hS)))<|(zDw 2 xmv)<|(zDw 3 (xix (kk:=x) Zb h.L.slh))<|YF 4 (fun w hS=>(xlr (u:= .int Oi (p.L x)) pl_3 (h.L.below hS.below))) ?_
  have hbv:=h.iL x
  refine(zDw 5 (xfb 3 fd_27_3))<|(zDl 6 (fun w hS=>(xlb 0 pl_3 hS)))<|(zDw 7 (Zh (r:=p.L x+p.kerf)))<|zda 8 (xal (cs:= [_]) ZJ hS) ?_;rintro _ w ⟨g5,rfl,hS⟩
  refine⟨⟨fun _=>hS.pk [0,1,2,3,4,5,6,7],hS.pk [0,1,2,3,4,5,6,7]⟩,?_⟩
  refine zde 9 (xsb 8 pl_3 hS) ?_;clear hS;rintro w hS
  refine⟨⟨fun h=>absurd h (by decide),hS.pk [0,1,2,3,4,5,6,7]⟩,?_⟩
  refine zdd<|zh<|htn<|hsq<|hrz ?_
  refine(zV (xlb 2 pl_22 hS))<|(zV xmf)<|zlc (xc0 WX) (ZnW (n:=s.n) (m:=(p.L x+p.kerf)) (f:=s.L) w (hS.rowN 5 rfl) (hS.cellN 8 rfl rfl)) ?_;rintro _ w ⟨r1,rfl,hr1,hS'⟩
  replace hS:=hS.cmp hS';clear hS'
  have hrr:r1= -1\/(0<=r1/\r1<s.n):=by rcases hr1 with⟨h2,_⟩|⟨h2,h3,_⟩<;>omega
  have hbr:0<=r1->(0<=s.L r1/\s.L r1<=p.stock+p.kerf)/\0<=s.P r1 x/\s.P r1 x<=p.stock+p.kerf:=fun h=>by have h9:=hrg r1 h Oa;exact⟨h9.1,h9.2 x x0 x1⟩
  refine(zP)<|zln<|zh<|htn<|hsq<|hsq<|hrz ?_
  refine(On)<|zln<|zh<|htn ?_
  refine Y0 ?_ ?_<;>intro hc
  ·
   refine hsq<|hrz ?_
   refine(zV (xlb 1 ZM hS))<|(zV (xln Zk hlB))<|(zP)<|zln<|zh<|htn<|hsq ?_
   refine hdst [0,1,2,6,7,8] [0,2,6,7,8] 7 mx_ hS ?_;clear hS;intro w hS
   refine zdl 0 (fun w hS=>(xlb 1 ZM hS)) ?_
   refine(zDw 1 (xfb 0 fd_27_0))<|(zDl 2 (fun w hS=>(xlb 0 pl_22 hS)))<|(zDw 3 (xln Zb h.L.slh))<|zda 4 (xmk Zb ZJ hS) ?_;rintro v1 w ⟨hS,hv1⟩
   refine⟨⟨fun _=>hS.pk [0,1,2,6,7,8],hS.pk [0,2,6,7,8]⟩,?_⟩
   refine zda 5 (xli (n:=1) (len:=1) (pv:= [(0,v1)]) (cs:= [v1]) (c:=(fun _=>v1)) Zk Yl hS (hf:=by obtain⟨_,_,_,_,rfl,_⟩:=hv1;kernel_rfl)) ?_;rintro v2 w ⟨hS,hv2⟩
   refine⟨⟨fun _=>hS.pk [0,1,2,6,7,8],hS.pk [0,2,6,7,8]⟩,?_⟩
   refine zda 6 (xap 3 (r:=s.n+1) Zk Yl hS (hS.rowN 10 rfl) (WE _ _ _) (h1:=fun _ _ _=>hv1.one)) ?_;rintro v3 w ⟨hS,hv3⟩
   replace hS:=Sat.merge (l1:= [_,_,_,_]) (l2:= [_,_,_,_]) (l3:= [_]) hS Oa
   have xp:=fun k (k0:0<=k) (k1:k<s.n+1)=>hS.slhIn 4 rfl k0 k1
   refine⟨⟨fun _=>hS.pk [0,1,2,6,7,8],hS.pk [0,2,6,7,8]⟩,?_⟩
   refine zde 7 (xsb 1 ZM hS (hv:=hv3.one)) ?_;clear hS;rintro w hS
   refine⟨⟨fun h=>absurd h (by decide),hS.pk [0,2,6,7,8]⟩,?_⟩
   refine zdd<|zh<|htn<|hrz ?_
   refine(zV (xlb 2 pl_22 hS))<|(zV (xfb 2 fd_27_2))<|(zV (xlb 0 pl_3 hS))<|(zV (xfb 3 fd_27_3))<|(zV (xlb 0 pl_3 hS))<|(zV (Zh (r:=p.stock+p.kerf)))<|zla (xli (n:=1) (len:=1) (pv:= [(0,.int Oi (p.stock+p.kerf))]) (cs:= [.int Oi (p.stock+p.kerf)]) (c:=ints (fun _=>p.stock+p.kerf)) Zb ZJ hS) ?_;rintro v4 w ⟨hS,hv4⟩
   refine zla (xap 5 (r:=s.n+1) Zb ZJ hS (hS.rowN 10 rfl) (Wl _ _ _)) ?_;rintro v5 w ⟨hS,hv5⟩
   rw [Kj] at hS xp
   have hz9:gsn s.P s.n (fun _=>0) s.n x=0:=by rw [ZB Oa]
   have hl9:snoc s.L s.n (p.stock+p.kerf) s.n=p.stock+p.kerf:=Zt Oa
   refine zle (xsb 2 pl_22 hS (hv:=hv5.one)) ?_;clear hS;rintro w hS
   refine zln<|zh<|htn<|hsq<|hrz ?_
   refine(zV (xlb 1 ZM hS))<|(zP)<|(zV (xix (kk:=s.n) Zk hv3))<|(zV (xlr (u:=((gsn s.vv s.n v1) s.n)) pl_22 (hS.rowN 3 rfl)))<|(zP)<|(zV (xix (kk:=x) Zb (xp s.n Oa Oa)))<|(zV (xlr (u:= .int Oi ((gsn s.P s.n (fun _=>0)) s.n x)) pl_3 (show Row _ _ 1 p.m _ from(hS.rowIn (k:=s.n) 4 rfl Oa Oa))))<|(zV (Zh (r:=((gsn s.P s.n (fun _=>0)) s.n x)+1)))<|(zV (xix (kk:=x) Zb (xp s.n Oa Oa)))<|zle (xsr 4 pl_3 hS rfl) ?_;clear hS;rintro w hS
   refine zln<|zh<|htn ?_
   refine hdst [0,1,2,3,4,5,6,7,8,9,10] [0,1,2,3,4,6,7,8,9,10] 7 mx_ hS ?_;clear hS;intro w hS
   refine(zDl 0 (fun w hS=>(xlb 2 pl_22 hS)))<|(zDw 1 xmv)<|(zDw 2 (xix (kk:=s.n) Zb hv5))<|zdl 3 (fun w hS=>(xlr (u:= .int Oi ((snoc s.L s.n (p.stock+p.kerf)) s.n)) pl_3 (hS.rowN 5 rfl))) ?_
   refine(zDl 4 (fun w hS=>(xlb 7 pl_3 hS)))<|(zDw 5 (Zp (r:=((snoc s.L s.n (p.stock+p.kerf)) s.n)-p.L x-p.kerf)))<|(zDw 6 (xix (kk:=s.n) Zb hv5))<|zde 7 (xso 5 pl_3 hS (ZD _ _ _)) ?_;clear hS;rintro w hS
   refine⟨⟨fun h=>absurd h (by decide),hS.pk [0,1,2,3,4,6,7,8,9,10]⟩,?_⟩
   refine zdd<|zh<|zbn<|Zdg ⟨s.h++ [x],v3,s.n+1,gsn s.vv s.n v1,upd (gsn s.P s.n (fun _=>0)) s.n (upd ((gsn s.P s.n (fun _=>0)) s.n) x (((gsn s.P s.n (fun _=>0)) s.n x)+1)),v5,(upd (snoc s.L s.n (p.stock+p.kerf)) s.n (((snoc s.L s.n (p.stock+p.kerf)) s.n)-p.L x-p.kerf))⟩ ⟨rfl,(by show plL _ _ _ _=YR _ _ _ (s.h++ [x]);rw [T5,<-hIv.1];first|exact Zeh (sz:=szP p) hsn x0 (hr1.resolve_right (fun h=>Oa)).2 (by unfold szP;omega)|(have hr9:=hr1.resolve_left (fun h=>Oa);exact Zg4 (sz:=szP p) hsn x0 hr9.1 hr9.2.1 hr9.2.2.1 hr9.2.2.2 (by unfold szP;omega))),hv3,hv5⟩ (hS.pk [0,1,2,3,4,5,6,7])
  refine hsk<|htn<|hsq<|hrz ?_
  refine(zV (xlb 1 ZM hS))<|(zP)<|(zV (xix (kk:=r1) Zk hlB))<|(zV (xlr (u:=(s.vv r1)) pl_22 (hS.rowN 3 rfl)))<|(zP)<|(zV (xix (kk:=x) Zb (hrB r1 Oa Oa)))<|(zV (xlr (u:= .int Oi (s.P r1 x)) pl_3 (show Row _ _ 1 p.m _ from(hS.rowIn (k:=r1) 4 rfl Oa Oa))))<|(zV (Zh (r:=(s.P r1 x)+1)))<|(zV (xix (kk:=x) Zb (hrB r1 Oa Oa)))<|zle (xsr 4 pl_3 hS rfl) ?_;clear hS;rintro w hS
  refine zln<|zh<|htn ?_
  refine hdst [0,1,2,3,4,5,6,7,8] [0,1,2,3,4,6,7,8] 7 mx_ hS ?_;clear hS;intro w hS
  refine(zDl 0 (fun w hS=>(xlb 2 pl_22 hS)))<|(zDw 1 xmv)<|(zDw 2 (xix (kk:=r1) Zb hlL))<|zdl 3 (fun w hS=>(xlr (u:= .int Oi (s.L r1)) pl_3 (hS.rowN 5 rfl))) ?_
  refine(zDl 4 (fun w hS=>(xlb 7 pl_3 hS)))<|(zDw 5 (Zp (r:=(s.L r1)-p.L x-p.kerf)))<|(zDw 6 (xix (kk:=r1) Zb hlL))<|zde 7 (xso 5 pl_3 hS (ZD _ _ _)) ?_;clear hS;rintro w hS
  refine⟨⟨fun h=>absurd h (by decide),hS.pk [0,1,2,3,4,6,7,8]⟩,?_⟩
  refine zdd<|zh<|zbn<|Zdg ⟨s.h++ [x],s.vB,s.n,s.vv,upd s.P r1 (upd (s.P r1) x ((s.P r1 x)+1)),s.vL,(upd s.L r1 ((s.L r1)-p.L x-p.kerf))⟩ ⟨rfl,(by show plL _ _ _ _=YR _ _ _ (s.h++ [x]);rw [T5,<-hIv.1];first|exact Zeh (sz:=szP p) hsn x0 (hr1.resolve_right (fun h=>Oa)).2 (by unfold szP;omega)|(have hr9:=hr1.resolve_left (fun h=>Oa);exact Zg4 (sz:=szP p) hsn x0 hr9.1 hr9.2.1 hr9.2.2.1 hr9.2.2.2 (by unfold szP;omega))),hlB,hlL⟩ (hS.pk [0,1,2,3,4,5,6,7])
 ·
  intro Dk s rest w qt hS
  obtain⟨hIv,hh⟩:=qt
  have hlB:=hIv.2.1;have hlL:=hIv.2.2
  obtain⟨xU,xg⟩:=TP (d:=p.D) (i:=p.m) (c:=0) (fun k k0 k1=>by have he:=hok.all k k0 k1;unfold Prob.each at he;omega) Oa Oa Oa (fun h=>Oa) (fun _=>rfl)
  rw [<-hh] at xU xg
  obtain⟨hn9,hrg⟩:=hIv.rng hok xU Oa
  have hsn:=hlB.n0
  have hrB:=fun k (k0:0<=k) (k1:k<s.n)=>hS.slhIn 4 rfl k0 k1
  refine zbn<|htn<|hsq<|hrz ?_
  refine(zP)<|zln<|zh<|htn<|hsq<|hsq<|hrz ?_
  refine(zV (xlb 1 ZM hS))<|(zV (xln Zk hlB))<|(zP)<|zln<|zh<|htn<|hbk ?_
  replace hS:=hS.addnil 2 97 (Ze (fun _=>Oh) (fun _=>0))
  refine hlp (fun mm M w=>∃(nC:Int) (wv:Int->Value) (cC:Of) (i:Int) (wC:Value),mm=((s.n-i).toNat)/\(0<=i)/\(i<=s.n)/\(nC=i)/\(∀k,0<=k->k<i->wv k=s.vv k)/\(∀k,0<=k->k<i->cC k=1)/\(Slh wC nC)/\M= [(2,Oh),(8,wC),(60,s.vB),(61,.int Oi s.n),(62,.int Oi i)]/\Sat w0 w [.blk g1 [vL,vD,.int Oi p.stock,.int Oi p.kerf],.blk g2 [s.vB],.blk g3 [s.vL],.own s.vB 1 22 s.n s.vv,.sem (Frame.rows 3 s.n s.vv (fun _=>p.m) s.P),.own s.vL 1 3 s.n (ints s.L),.blk g4 [vL,vD,.int Oi p.stock,.int Oi p.kerf],.sem rest,.sem (Frame.obj Dk (.deferred (some []))),.own wC 2 97 nC (Ze wv cC)]) ⟨0,(fun _=>Oh),(fun _=>0),0,Oh,rfl,Oa,Oa,Oa,?_,?_,?_,rfl,hS⟩ ?_
  ·
   intro k k0 k1;omega
  ·
   intro k k0 k1;omega
  ·
   exact slh_nil
  clear hS w
  rintro mm M w ⟨nC,wv,cC,i,wC,rfl,h0,h1,hnC,hwv,hcC,hwC,rfl,hS⟩
  refine hsq<|hrz ?_
  refine(zP)<|zln<|zh<|htn<|hsq ?_
  refine Y0 ?_ ?_<;>intro hc
  ·
   refine hsk<|htn<|hsq<|hbk<|hsq<|hrz ?_
   refine(zV (xix (kk:=i) Zk hlB))<|(zV (xlr (u:=(s.vv i)) pl_22 (hS.rowN 3 rfl)))<|(zP)<|zln<|zh<|htn<|hrz ?_
   refine(On)<|zlv (xany (v:= .agg #[(s.vv i),.int Oi 1]) (hr:=by have hz:=(hrB i Oa Oa);revert hz;generalize (s.vv i)=z;rintro⟨_,_,_,_,rfl,_⟩;show _=_;kernel_rfl)) ?_
   refine zla (xli (n:=1) (len:=1) (pv:= [(0,.agg #[(s.vv i),.int Oi 1])]) (cs:= [(s.vv i),.int Oi 1]) (c:=Ze (fun _=>(s.vv i)) (fun _=>1)) ZR Y8 hS (hf:=by have hz:=(hrB i Oa Oa);revert hz;generalize (s.vv i)=z;rintro⟨_,_,_,_,rfl,_⟩;show _=_;kernel_rfl)) ?_;rintro v6 w ⟨hS,hv6⟩
   refine zla (xap 9 (r:=nC+1) ZR Y8 hS (hS.rowN 10 rfl) (Xn _ _ _ _ _) (h1:=fun k _ _=>Xe (fun _=>(hrB i Oa Oa).one) k)) ?_;rintro v7 w ⟨hS,hv7⟩
   refine(zP)<|zln<|zh<|zbn<|htn<|hrz ?_
   refine(zV (Zh (r:=i+1)))<|(zP)<|zln<|zh<|hlq ⟨nC+1,(gsn wv nC (s.vv i)),(snoc cC nC 1),i+1,v7,rfl,Oa,Oa,Oa,?_,?_,?_,rfl,hS.pk [0,1,2,3,4,5,6,7,8,9]⟩
   ·
    intro k k0 k1;by_cases e:k<nC
    · rw [Zq e];exact hwv k k0 Oa
    · rw [ZB e,show k=i by omega]
   ·
    intro k k0 k1;by_cases e:k<nC
    · rw [Zs e];exact hcC k k0 Oa
    · rw [Zt e]
   ·
    exact hv7
  refine hxt<|ztx<|ztx<|zbh<|htn<|hsq<|hrz ?_
  refine zlv xmv ?_
  have hiN:i=s.n:=Oa
  have hnN:nC=s.n:=Oa
  subst hnN
  replace hS:=hS.recont 9 rfl (d:=Ze s.vv (fun _=>1)) (fun k k0 k1=>by unfold Ze;rw [hwv _ Oa Oa,hcC _ Oa Oa])
  refine zlc (xc0 Zeu) (Za4 (u:=s.n) (pv:=s.vv) (ln:=(fun _=>p.m)) (pt:=s.P) (cnt:=(fun _=>1)) w (⟨(hS.rowN 9 rfl),fun k k0 k1=>hS.rowIn 4 rfl k0 k1,fun k k0 k1=>hS.roomIn 4 rfl k0 k1⟩:VAt _ wC s.n s.vv (fun _=>p.m) s.P (fun _=>1)) Oa (fun k k0 k1=>Oa) (fun k k0 k1=>Oa)) ?_;rintro xH w ⟨_,qH,xu,x9,yb,xD,rfl,xq,xt,yH,x5,xM,hS'⟩
  replace hS:=(hS.comp hS').n12;clear hS'
  have yq:=fun k (k0:0<=k) (k1:k<qH)=>hS.slhIn 11 rfl k0 k1
  refine(zP)<|zln<|zh<|htn<|hrt<|Zdh 8 hS fun w hS=>Oj ?_
  exact⟨_,_,_,_,_,_,rfl,(by rw [<-hh,<-hIv.1,Zgu];exact xq),xt,Oa,fun k k0 k1=>by have:=x5 k k0 k1;omega,xM,hS.pk [10,11]⟩
 ·
  intro Dk t rest w qt hS
  exact qt.elim
theorem wsum_plL(f:List Int->Int){ln:Of}{pt:Og}{cnt:Of}:∀n:Nat,wsum f (plL (n:Int) ln pt cnt)=psum (fun k=>f (lst (ln k) (pt k))) cnt n
 |0=>rfl
 | n+1=>by
   rw [show((n+1:Nat):Int)=(n:Int)+1 by omega,Wc Oa,WK,wsum_plL f n]
   simp only [wsum,psum];omega
theorem Z7(f:List Int->Int){n:Int}{ln:Of}{pt:Og}{cnt:Of}(n0:0<=n):wsum f (plL n ln pt cnt)=psum (fun k=>f (lst (ln k) (pt k))) cnt n.toNat:=by
 have:=wsum_plL f (ln:=ln) (pt:=pt) (cnt:=cnt) n.toNat
 rwa [Int.toNat_of_nonneg n0] at this
theorem sum_range(f:Nat->Int):∀n:Nat,((List.range (n+1)).map f).sum=((List.range n).map f).sum+f n:=fun n=>by
 rw [List.range_succ,List.map_append,List.sum_append];simp
theorem Zgi(sz:Of)(f:Of):∀n:Nat,Wv sz (lst (n:Int) f)=psum sz f n:=fun n=>by
 have key:∀j:Nat,j<=n->((List.range j).map fun(k:Nat)=>(lst (n:Int) f).getD k 0*sz k).sum=psum sz f j:=by
   intro j
   induction j with
   |zero=>intro _;rfl
   | succ j ih=>
     intro hj
     rw [sum_range,ih Oa,psum,List.getD_eq_getElem?_getD,lst_get,if_pos Oa,Int.mul_comm];rfl
 unfold Wv
 rw [YY,Int.toNat_natCast]
 exact key n (Nat.le_refl _)
theorem RU(sz:Of)(f:Of){n:Int}(n0:0<=n):Wv sz (lst n f)=psum sz f n.toNat:=by
 have:=Zgi sz f n.toNat
 rwa [Int.toNat_of_nonneg n0] at this
def FFitR(p:Prob)(l:Us)(e:Int):Prop:=ZiN p e/\(e=0->NormR (Rx (YR p.m (p.stock+p.kerf) (szP p) (pcsTo p.D p.m 0))) l)/\(e≠0->l= [])
theorem ZkY:Zd Om 75=true:=Oc
theorem ZkX:Zd Om 76=true:=Oc
theorem Zn0{vL vD:Value}{p:Prob}(w0:World)(h:PAt w0 vL vD p):
   Calls Om 37 [.agg #[vL,vD,.int Oi p.stock,.int Oi p.kerf]].toArray w0 fun e w=>∃v,e= .returned v/\∃r n pv ln pt cnt e,v= .tuple #[r,.int Oi e]/\FFitR p (plL n ln pt cnt) e/\(∀k,0<=k->k<n->1<=cnt k/\cnt k<=1000000)/\n<=1000/\Slh r n/\Sat w0 w [.own r 2 97 n (Ze pv cnt),.sem (Frame.rows 3 n pv ln pt)]:=by
 obtain⟨hm,hm1,hd,hd1,hs,hk⟩:=h.Oq
 refine zenG Tryz.func37 Tryz.ntmps37 fun w hS=> ?_
 refine zsr<|zla (xbx (cs:= [_,_,_,_]) hS) ?_;rintro _ w ⟨g1,rfl,hS⟩
 refine(On)<|zx5<|(zV (xls 0 st_27 hS))<|zlc (xc0 ZkY) (ZeF (p:=p) w (h.below hS.below)) ?_;rintro _ w ⟨dP,rfl,ap,hS'⟩
 replace hS:=hS.cmp hS';clear hS'
 refine(zP)<|zlz<|(On)<|zlt<|Zf ?_ ?_<;>intro hc
 ·
  refine zsr<|(Oo)<|zx14<|zf2 ⟨_,rfl,?_⟩
  exact⟨_,0,fun _=>undef,fun _=>0,fun _ _=>0,fun _=>0,_,rfl,⟨ap,fun h=>Oa,fun _=>rfl⟩,fun k k0 k1=>Oa,Oa,slh_nil,((hS.sub (.cons _ .slnil)).addnil 2 97 (Ze (fun _=>undef) (fun _=>0))).addrows 3 (fun _=>undef) (fun _=>0) (fun _ _=>0)⟩
 refine ZV<|zlv (xls 0 st_27 hS) ?_
 obtain⟨xT,aS⟩:p.Ok/\psum (fun _=>1) p.D p.m.toNat<=1000:=by rcases ap with⟨_,h9⟩|⟨_,_,h9⟩|⟨h8,h9,_⟩;omega;omega;exact⟨h8,h9⟩
 refine zlc (xc0 ZkX) (Rl (p:=p) w (h.below hS.below) xT Oa) ?_;rintro xH w ⟨_,qH,xu,x9,yb,xD,rfl,xq,xt,yH,x5,xM,hS'⟩
 replace hS:=(hS.comp hS').n3;clear hS'
 have yq:=fun k (k0:0<=k) (k1:k<qH)=>hS.slhIn 2 rfl k0 k1
 refine(On)<|zx1<|zf2 ⟨_,rfl,?_⟩
 exact⟨_,_,_,_,_,_,0,rfl,⟨(show dP=0 by omega)▸ap,fun _=>xq,fun h=>absurd rfl h⟩,x5,yH,xM,hS.pk [1,2]⟩
theorem Vn{vV:Value}{u:Int}{pv:Int->Value}{ln:Of}{pt:Og}{cnt:Of}(w0:World)(hV:VAt w0 vV u pv ln pt cnt)(hu6:u<=1000000)(hbc:∀k,0<=k->k<u->0<=cnt k/\cnt k<=1000000000):
   Calls Om 14 [vV].toArray w0 fun e w=>∃v,e= .returned v/\v= .int Oi (psum (fun _=>1) cnt u.toNat)/\Sat w0 w []:=by
 have hn:=hV.row.slh.n0;have hn1:=hV.row.slh.n1
 refine zenG Tryz.func14 Tryz.ntmps14 fun w hS=> ?_
 refine zsr<|(zP)<|zlz<|(zP)<|zx5<|(zP)<|(zV (xln ZR hV.row.slh))<|(zP)<|zx6<|zlp (fun mm M w=>∃(s:Int) (i:Int),mm=((u-i).toNat)/\(0<=i)/\(i<=u)/\(s=psum (fun _=>1) cnt i.toNat)/\(0<=s/\s<=1000000000*i)/\M= [(2,.int Oi 0),(3,.int Oi s),(6,vV),(7,.int Oi u),(8,.int Oi i)]/\Sat w0 w []) ⟨0,0,rfl,Oa,Oa,?_,Oa,rfl,hS⟩ ?_
 ·
  rfl
 clear hS w
 rintro mm M w ⟨s,i,rfl,h0,h1,hs9,hsb,rfl,hS⟩
 refine zsr<|(zP)<|zx7<|Zf ?_ ?_<;>intro hc
 ·
  refine zx3<|(zV (xix (kk:=2*i) ZR hV.row.slh))<|zlv (xlw (cs:= [(pv i),.int Oi (cnt i)]) Z2 (hV.row.below hS.below) (Zy (k:=2*i) (i:=i) pv cnt Oa)) ?_
  have hci:=hbc i h0 Oa
  refine zla (xal (cs:= [_,_]) Y8 hS) ?_;rintro _ w ⟨g1,rfl,hS⟩
  refine zle (xsw 0 Z2 hS (hd:=(Za (hV.p i Oa Oa).slh.one (Za rfl Zi)))) ?_;clear hS;rintro w hS
  refine zlt<|zrg<|(zP)<|(zV (xfb 1 fd_97_1))<|(zV (xlb 0 pl_3 hS))<|(zV (Zh (r:=s+(cnt i))))<|(zP)<|zx10<|(zV (Zh (r:=i+1)))<|(zP)<|zln<|zlq ⟨s+(cnt i),i+1,rfl,Oa,Oa,?_,Oa,rfl,hS.nl⟩
  ·
   rw [YO _ _ h0,<-hs9];omega
 refine zx8<|(On)<|zx1<|Oj ?_
 obtain rfl:i=u:=Oa
 exact⟨congrArg (Value.int .i64) hs9,hS⟩
variable {cnt ln:Of} {pt:Og} {pv:Int->Value} {gp:Nat} {vD vV:Value}
theorem Znf:Zd Om 155=true:=Oc
theorem Zne:Zd Om 157=true:=Oc
theorem Zev:Zd Om 40=true:=Oc
theorem Zo7:Zd Om 83=true:=Oc
theorem Zoc{vL:Value}{p:Prob}{vB:Value}{m b:Int}{g:Of}(w0:World)(hG:(Ent.blk gp [vL,vD,.int Oi p.stock,.int Oi p.kerf]).holds w0)(h:PAt w0 vL vD p)(hB:Row w0 vB 1 m (ints g)):
   Calls Om 155 [.agg #[vB,.int Oi b],Or gp].toArray w0 fun e w=>∃v,e= .returned v/\v=B (¬(1<=b/\b<=1000/\FitsP p m g))/\Sat w0 w []:=by
 refine zenG Tryz.func155 Tryz.ntmps155 fun w hS=> ?_
 refine zsr<|zla (xbx (cs:= [_,_]) hS) ?_;rintro _ w ⟨g1,rfl,hS⟩
 refine(zP)<|zlz<|(zV (xfb 1 fd_97_1))<|(zV (xlb 0 pl_3 hS))<|(On)<|zlb 7 ?_ ?_<;>intro hc;rotate_left
 refine(zV (xfb 1 fd_97_1))<|(zV (xlb 0 pl_3 hS))<|(Oo)<|zlb 12 ?_ ?_<;>intro hc;rotate_left
 refine(zV (xlfs st_27 hG hS))<|(zV (xfb 0 fd_97_0))<|(zV (xlb 0 pl_22 hS))<|zlc (xc0 ZhJ) (ZeC (p:=p) w (h.below hS.below) (hB.below hS.below)) ?_;rintro _ w ⟨rfl,hS'⟩
 replace hS:=hS.cmp hS';clear hS'
 refine(Oo)<|zx1<|Oj ?_
 exact⟨Zm ⟨fun h1 hh=>h1 hh.2.2,fun h1 hh=>h1 ⟨by omega,Oa,hh⟩⟩,hS.nl⟩
 all_goals
  refine zOps ?_
  refine zx1<|Oj ?_
  exact⟨Yn (by rintro⟨h1,h2,h3⟩;first|omega|exact absurd h3 ‹_›),hS.nl⟩
theorem Zkp{u:Int}{vL:Value}{p:Prob}(w0:World)(hV:VAt w0 vV u pv ln pt cnt)(hG:(Ent.blk gp [vL,vD,.int Oi p.stock,.int Oi p.kerf]).holds w0)(h:PAt w0 vL vD p):
   Calls Om 132 [vV,.func (.func 155) #[] #[Or gp]].toArray w0 fun e w=>∃v,e= .returned v/\∃r:Int,v= .int Oi r/\((r= -1/\∀k,0<=k->k<u->¬(¬(1<=(cnt k)/\(cnt k)<=1000/\FitsP p (ln k) (pt k))))\/(0<=r/\r<u/\(¬(1<=(cnt r)/\(cnt r)<=1000/\FitsP p (ln r) (pt r)))/\∀k,0<=k->k<r->¬(¬(1<=(cnt k)/\(cnt k)<=1000/\FitsP p (ln k) (pt k)))))/\Sat w0 w []:=by
 have hn:=hV.row.slh.n0;have hn1:=hV.row.slh.n1
 refine zenG Tryz.func132 Tryz.ntmps132 fun w hS=> ?_
 refine zsr<|(zP)<|zx5<|(zP)<|(zV (xln ZR hV.row.slh))<|(zP)<|zx6<|zlp (fun mm M w=>∃(i:Int),mm=((u-i).toNat)/\(0<=i)/\(i<=u)/\(∀k,0<=k->k<i->¬(¬(1<=(cnt k)/\(cnt k)<=1000/\FitsP p (ln k) (pt k))))/\M= [(0,vV),(1,.func (.func 155) #[] #[Or gp]),(7,.int Oi u),(8,.int Oi i)]/\Sat w0 w []) ⟨0,rfl,Oa,Oa,?_,rfl,hS⟩ ?_
 ·
  intro k h0 h1;omega
 clear hS w
 rintro mm M w ⟨i,rfl,h0,h1,qa,rfl,hS⟩
 refine zsr<|(zP)<|zx7<|Zf ?_ ?_<;>intro hc
 ·
  refine zx3<|(On)<|zlz<|(Oo)<|(zV (xix (kk:=2*i) ZR hV.row.slh))<|(zV (xlw (cs:= [(pv i),.int Oi (cnt i)]) Z2 (hV.row.below hS.below) (Zy (k:=2*i) (i:=i) pv cnt Oa)))<|zlc (xcc (vs:= [_]) Znf) (Zoc (p:=p) (m:=(ln i)) (g:=(pt i)) w (Sat.oldblk hS hG) (h.below hS.below) ((hV.p i Oa Oa).below hS.below)) ?_;rintro _ w ⟨rfl,hS'⟩
  replace hS:=hS.cmp hS';clear hS'
  refine zlt<|Zf ?_ ?_<;>intro hc
  ·
   refine zsr<|(On)<|zx2<|Oj ?_
   exact⟨i,rfl,.inr ⟨by omega,Oa,‹¬(1<=(cnt i)/\(cnt i)<=1000/\FitsP p (ln i) (pt i))›,qa⟩,hS⟩
  refine zx4<|(zV (Zh (r:=i+1)))<|(zP)<|zln<|zlq ⟨i+1,rfl,Oa,Oa,?_,rfl,hS⟩
  ·
   intro k h0' h1';rcases Int.lt_or_eq_of_le (show k<=i by omega) with hk|hk;exact qa k h0' hk;rw [hk];assumption
 refine zx8<|(zP)<|zx1<|Oj ?_
 exact⟨-1,rfl,.inl ⟨rfl,fun k h0 h1=>qa k h0 Oa⟩,hS⟩
theorem Zkx{u:Int}{vL:Value}{p:Prob}(w0:World)(hV:VAt w0 vV u pv ln pt cnt)(hG:(Ent.blk gp [vL,vD,.int Oi p.stock,.int Oi p.kerf]).holds w0)(h:PAt w0 vL vD p):
   Calls Om 157 [vV,.func (.func 155) #[] #[Or gp]].toArray w0 fun e w=>∃v,e= .returned v/\v=B (∃k,0<=k/\k<u/\¬(1<=(cnt k)/\(cnt k)<=1000/\FitsP p (ln k) (pt k)))/\Sat w0 w []:=by
 refine zenG Tryz.func157 Tryz.ntmps157 fun w hS=> ?_
 refine zsr<|(zP)<|zlz<|(On)<|zlc (xc0 Zdz) (Zkp (u:=u) (pv:=pv) (ln:=ln) (pt:=pt) (cnt:=cnt) (p:=p) w (hV.below hS.below) (Sat.oldblk hS hG) (h.below hS.below)) ?_;rintro _ w ⟨r1,rfl,hr1,hS'⟩
 replace hS:=hS.cmp hS';clear hS'
 refine(On)<|zx1<|Oj ?_
 exact⟨Zm (by
  rcases hr1 with⟨h1,h2⟩|⟨h1,h2,h3,_⟩
  · exact⟨fun h=>Oa,fun⟨k,h4,h5,h6⟩=>absurd h6 (h2 k h4 h5)⟩
  · exact⟨fun _=>⟨_,h1,h2,h3⟩,fun _=>h1⟩),hS⟩
def PlanOk(p:Prob)(u:Int)(ln:Of)(pt:Og)(cnt:Of):Prop:=p.Ok/\u<=1000/\∀k,0<=k->k<u->1<=cnt k/\cnt k<=1000/\FitsP p (ln k) (pt k)
def ZH(u:Int)(pt:Og)(cnt:Of):Of:=fun j=>psum (fun k=>pt k j) cnt u.toNat
theorem Zao{p:Prob}{u:Int}:¬(∃k,0<=k/\k<u/\¬(1<=cnt k/\cnt k<=1000/\FitsP p (ln k) (pt k)))↔∀k,0<=k->k<u->1<=cnt k/\cnt k<=1000/\FitsP p (ln k) (pt k):=
 ⟨fun h k k0 k1=>Od fun hn=>h ⟨k,k0,k1,hn⟩,fun h ⟨k,k0,k1,hn⟩=>hn (h k k0 k1)⟩
theorem XL{i j:Int}(i0:0<=i):ZH (i+1) pt cnt j=ZH i pt cnt j+pt i j*cnt i:=YO _ _ i0
theorem WR{a b A B:Int}(a0:0<=a)(a1:a<=A)(b0:0<=b)(b1:b<=B):0<=a*b/\a*b<=A*B:=
 ⟨Int.mul_nonneg a0 b0,Int.mul_le_mul a1 b1 b0 Oa⟩
theorem We{p:Prob}{u:Int}(h:∀k,0<=k->k<u->1<=cnt k/\cnt k<=1000/\FitsP p (ln k) (pt k)):∀{i:Int},0<=i->i<=u->∀{j:Int},0<=j->j<p.m->0<=ZH i pt cnt j/\ZH i pt cnt j<=2000000*i:=by
 intro i i0
 obtain⟨n,rfl⟩:=Int.eq_ofNat_of_zero_le i0
 induction n with
 |zero=>intro _ j _ _;exact⟨Int.le_refl _,by show(0:Int)<=_;omega⟩
 | succ n ih=>
   intro hi j j0 j1
   have h1:=ih Oa Oa j0 j1
   obtain⟨h2,h3,h4⟩:=h n Oa Oa
   have h5:=h4.all j j0 (by have:=h4.eq;omega)
   have h6:=WR h5.1 h5.2 (show 0<=cnt n by omega) h3
   have h7:=XL (pt:=pt) (cnt:=cnt) (i:=(n:Int)) (j:=j) Oa
   rw [show((n+1:Nat):Int)=(n:Int)+1 by omega,h7];omega
theorem Zh7{u:Int}{vL:Value}{p:Prob}(w0:World)(hV:VAt w0 vV u pv ln pt cnt)(h:PAt w0 vL vD p):
   Calls Om 83 [.agg #[vL,vD,.int Oi p.stock,.int Oi p.kerf],vV].toArray w0 fun e w=>∃v,e= .returned v/\v=B (PlanOk p u ln pt cnt)/\Sat w0 w []:=by
 obtain⟨hm,hm1,hd,hd1,hs,hk⟩:=h.Oq
 have hu:=hV.row.slh.n0;have hu1:=hV.row.slh.n1
 refine zenG Tryz.func83 Tryz.ntmps83 fun w hS=> ?_
 refine zsr<|zla (xbx (cs:= [_,_,_,_]) hS) ?_;rintro _ w ⟨g1,rfl,hS⟩
 refine(zP)<|zlz<|(zV xmf)<|(zP)<|zlz<|(zV (xls 0 st_27 hS))<|zlc (xc0 XP) (Ya (p:=p) w (h.below hS.below)) ?_;rintro _ w ⟨rfl,hS'⟩
 replace hS:=hS.cmp hS';clear hS'
 refine(zP)<|zlb 9 ?_ ?_<;>intro hc
 ·
  refine(zP)<|(zV (xln ZR hV.row.slh))<|(Oo)<|zlb 14 ?_ ?_<;>intro hc
  ·
   refine(On)<|zlc (xc0 Zne) (Zkx (u:=u) (pv:=pv) (ln:=ln) (pt:=pt) (cnt:=cnt) (p:=p) w (hV.below hS.below) (hS.holds _ (List.mem_of_getElem? (i:=0) rfl)) (h.below hS.below)) ?_;rintro _ w ⟨rfl,hS'⟩
   replace hS:=hS.cmp hS';clear hS'
   refine(Oo)<|zx1<|Oj ?_
   exact⟨Zm ⟨fun hh=>⟨by first|assumption|exact Od ‹_›,Oa,Zao.1 hh⟩,fun hh=>Zao.2 hh.2.2⟩,hS.nl⟩
  iterate 4 refine zlo ?_
  refine(On)<|zx1<|Oj ?_
  exact⟨Zj (by rintro⟨h1,h2,h3⟩;first|exact absurd h1 ‹_›|omega|exact absurd (Zao.2 h3) ‹_›),hS.nl⟩
 iterate 3 refine zlo ?_
 refine zs2 ?_
 iterate 4 refine zlo ?_
 refine(On)<|zx1<|Oj ?_
 exact⟨Zj (by rintro⟨h1,h2,h3⟩;first|exact absurd h1 ‹_›|omega|exact absurd (Zao.2 h3) ‹_›),hS.nl⟩
theorem Tp{u:Int}{vL:Value}{p:Prob}(w0:World)(hV:VAt w0 vV u pv ln pt cnt)(h:PAt w0 vL vD p):
   Calls Om 40 [.agg #[vL,vD,.int Oi p.stock,.int Oi p.kerf],vV].toArray w0 fun e w=>∃v,e= .returned v/\∃r n f e,v= .tuple #[r,.int Oi e]/\((¬PlanOk p u ln pt cnt/\n=0/\e=1)\/(PlanOk p u ln pt cnt/\n=p.m/\f=ZH u pt cnt/\e=0))/\Slh r n/\Sat w0 w [.own r 1 3 n (ints f)]:=by
 obtain⟨hm,hm1,hd,hd1,hs,hk⟩:=h.Oq
 have hu:=hV.row.slh.n0;have hu1:=hV.row.slh.n1
 refine zenG Tryz.func40 Tryz.ntmps40 fun w hS=> ?_
 refine zsr<|zla (xbx (cs:= [_,_,_,_]) hS) ?_;rintro _ w ⟨g1,rfl,hS⟩
 refine(On)<|zx5<|(zV (xls 0 st_27 hS))<|(zP)<|zlc (xc0 Zo7) (Zh7 (u:=u) (pv:=pv) (ln:=ln) (pt:=pt) (cnt:=cnt) (p:=p) w (hV.below hS.below) (h.below hS.below)) ?_;rintro _ w ⟨rfl,hS'⟩
 replace hS:=hS.cmp hS';clear hS'
 refine(zP)<|zlt<|Zf ?_ ?_<;>intro hc
 ·
  refine zsr<|(On)<|zx14<|zf2 ⟨_,rfl,?_⟩
  exact⟨_,0,fun _=>0,1,rfl,.inl ⟨‹¬PlanOk p u ln pt cnt›,rfl,rfl⟩,slh_nil,(hS.sub (.cons _ .slnil)).addnil 1 3 (ints fun _=>0)⟩
 refine ZV<|zlv (xfb 0 fd_27_0) ?_
 have qN:PlanOk p u ln pt cnt:=by first|assumption|exact Od ‹_›
 have aZ:=qN.1.m1;have xb:=qN.1.m2;have hu3:=qN.2.1
 refine(zV (xlb 0 pl_22 hS))<|(zV (xln Zb h.L.slh))<|zla (xmk Zb ZJ hS) ?_;rintro v1 w ⟨hS,hv1⟩
 refine(zP)<|zx5<|(zP)<|(zV (xln ZR hV.row.slh))<|(zP)<|zx6<|zlp (fun mm M w=>∃(f:Of) (i:Int),mm=((u-i).toNat)/\(0<=i)/\(i<=u)/\(∀k,0<=k->k<p.m->f k=ZH i pt cnt k)/\M= [(4,Oh),(5,.int Oi 0),(6,v1),(19,vV),(20,.int Oi u),(21,.int Oi i)]/\Sat w0 w [.blk g1 [vL,vD,.int Oi p.stock,.int Oi p.kerf],.own v1 1 3 p.m (ints f)]) ⟨(fun _=>0),0,rfl,Oa,Oa,?_,rfl,hS⟩ ?_
 ·
  intro k _ _;rfl
 clear hS w
 rintro mm M w ⟨f,i,rfl,h0,h1,hf,rfl,hS⟩
 refine zsr<|(zP)<|zx7<|Zf ?_ ?_<;>intro hc
 ·
  refine zx3<|(zV (xix (kk:=2*i) ZR hV.row.slh))<|zlv (xlw (cs:= [(pv i),.int Oi (cnt i)]) Z2 (hV.row.below hS.below) (Zy (k:=2*i) (i:=i) pv cnt Oa)) ?_
  obtain⟨hq1,hq2,hq3⟩:=qN.2.2 i h0 Oa
  have hq4:=hq3.eq
  refine zla (xal (cs:= [_,_]) Y8 hS) ?_;rintro _ w ⟨g2,rfl,hS⟩
  refine zle (xsw 2 Z2 hS (hd:=(Za (hV.p i Oa Oa).slh.one (Za rfl Zi)))) ?_;clear hS;rintro w hS
  refine zlz<|(zV (xfb 0 fd_97_0))<|(zV (xlb 2 pl_22 hS))<|(zV (xln Zb (hV.p i Oa Oa).slh))<|(zP)<|zx6<|zlp (fun mm M w=>∃(f2:Of) (j:Int),mm=((ln i-j).toNat)/\(0<=j)/\(j<=ln i)/\(∀k,0<=k->k<p.m->f2 k=(if k<j then ZH (i+1) pt cnt k else ZH i pt cnt k))/\M= [(4,Oh),(5,.int Oi 0),(6,v1),(8,Or g2),(19,vV),(20,.int Oi u),(21,.int Oi i),(26,(pv i)),(27,.int Oi (ln i)),(28,.int Oi j)]/\Sat w0 w [.blk g1 [vL,vD,.int Oi p.stock,.int Oi p.kerf],.own v1 1 3 p.m (ints f2),.blk g2 [(pv i),.int Oi (cnt i)]]) ⟨f,0,rfl,Oa,Oa,?_,rfl,hS⟩ ?_
  ·
   intro k k0 k1;rw [if_neg Oa];exact hf k k0 k1
  clear hS w
  rintro mm M w ⟨f2,j,rfl,j0,j1,hf2,rfl,hS⟩
  refine zsr<|(zP)<|zx7<|Zf ?_ ?_<;>intro hc
  ·
   refine zx3<|(zP)<|(zV (xix (kk:=j) Zb (hV.p i Oa Oa).slh))<|zlv (xlr (u:= .int Oi ((pt i) j)) pl_3 ((hV.p i Oa Oa).below hS.below)) ?_
   have hpj:=hq3.all j j0 Oa
   have hmr:=We qN.2.2 h0 Oa (j:=j) j0 Oa
   have hfj:=hf2 j j0 Oa
   rw [if_neg Oa] at hfj
   have hmj:=WR hpj.1 hpj.2 (show 0<=cnt i by omega) hq2
   refine(On)<|zlt<|zdst [0,1,2] [0,2] 10 mx_ hS ?_;clear hS;intro w hS
   refine(zDw 0 xmv)<|(zDw 1 xmv)<|(zDw 2 (xix (kk:=j) Zb hv1))<|zdl 3 (fun w hS=>(xlr (u:= .int Oi (f2 j)) pl_3 (hS.rowN 1 rfl))) ?_
   refine(zDw 4 xmv)<|(zDw 5 (xfb 1 fd_97_1))<|(zDl 6 (fun w hS=>(xlb 1 pl_3 hS)))<|(zDw 7 (Yi (r:=(((pt i) j)*(cnt i))) (e:=rfl)))<|(zDw 8 (Zh (r:=f2 j+(((pt i) j)*(cnt i)))))<|(zDw 9 (xix (kk:=j) Zb hv1))<|zde 10 (xso 1 pl_3 hS (ZD _ _ _)) ?_;clear hS;rintro w hS
   refine⟨⟨fun h=>absurd h (by decide),hS.pk [0,2]⟩,?_⟩
   refine zdd<|zbn<|ztn<|zrg ?_
   refine(zV (Zh (r:=j+1)))<|(zP)<|zln<|zlq ⟨(upd f2 j (f2 j+(((pt i) j)*(cnt i)))),j+1,rfl,Oa,Oa,?_,rfl,hS⟩
   ·
    intro k k0 k1;unfold upd;by_cases e:k=j
    · rw [if_pos e,if_pos Oa,e,XL h0];omega
    · rw [if_neg e,hf2 k k0 k1];by_cases e2:k<j
      · rw [if_pos e2,if_pos Oa]
      · rw [if_neg e2,if_neg Oa]
  refine zxt<|ztx<|ztx<|zbh<|zbn<|ztn<|zrg<|(zV (Zh (r:=i+1)))<|(zP)<|zln<|zlq ⟨f2,i+1,rfl,Oa,Oa,?_,rfl,hS.pk [0,1]⟩
  ·
   intro k k0 k1;rw [hf2 k k0 k1,if_pos Oa]
 refine zx8<|(Oo)<|zx1<|zf2 ⟨_,rfl,?_⟩
 have hiu:i=u:=Oa
 rw [hiu] at hf
 replace hS:=hS.recont 1 rfl (d:=ints (ZH u pt cnt)) (fun k k0 k1=>congrArg (Value.int .i64) (hf k k0 Oa))
 exact⟨_,_,_,0,rfl,.inr ⟨qN,rfl,rfl,rfl⟩,hv1,hS.pk [1]⟩
theorem Rk{u:Int}{vL:Value}{p:Prob}(w0:World)(hV:VAt w0 vV u pv ln pt cnt)(h:PAt w0 vL vD p):
   Calls Om 15 [.agg #[vL,vD,.int Oi p.stock,.int Oi p.kerf],vV].toArray w0 fun e w=>∃v,e= .returned v/\v=B (PlanOk p u ln pt cnt/\∀j,0<=j->j<p.m->p.D j<=ZH u pt cnt j)/\Sat w0 w []:=by
 obtain⟨hm,hm1,hd,hd1,hs,hk⟩:=h.Oq
 refine zenG Tryz.func15 Tryz.ntmps15 fun w hS=> ?_
 refine zsr<|zla (xbx (cs:= [_,_,_,_]) hS) ?_;rintro _ w ⟨g1,rfl,hS⟩
 refine(zP)<|zlz<|(zV (xls 0 st_27 hS))<|(zP)<|zlc (xc0 Zev) (Tp (u:=u) (pv:=pv) (ln:=ln) (pt:=pt) (cnt:=cnt) (p:=p) w (hV.below hS.below) (h.below hS.below)) ?_;rintro _ w ⟨qD,ql,qe,zg,rfl,qY,qB,hS'⟩
 replace hS:=(hS.comp hS').n2;clear hS'
 refine zs3 ?_
 have hnd:=qB.n0;have mc:=qB.n1
 have ma:ql<=p.d:=by
   rcases qY with⟨_,g2,_⟩|⟨g1,g2,_,_⟩
   · omega
   · have:=g1.1.d;omega
 refine(On)<|zx5<|(zP)<|(zV (xln Zb qB))<|(zP)<|zx6<|zlp (fun mm M w=>∃(i:Int),mm=((ql-i).toNat)/\(0<=i)/\(i<=ql)/\(∀k,0<=k->k<i->p.D k<=qe k)/\M= [(2,Or g1),(6,.int Oi zg),(15,qD),(16,.int Oi ql),(17,.int Oi i)]/\Sat w0 w [.blk g1 [vL,vD,.int Oi p.stock,.int Oi p.kerf],.own qD 1 3 ql (ints qe)]) ⟨0,rfl,Oa,Oa,?_,rfl,hS⟩ ?_
 ·
  intro k h0 h1;omega
 clear hS w
 rintro mm M w ⟨i,rfl,h0,h1,qa,rfl,hS⟩
 refine zsr<|(zP)<|zx7<|Zf ?_ ?_<;>intro hc
 ·
  refine zx3<|(zP)<|(zV (xix (kk:=i) Zb qB))<|(zV (xlr (u:= .int Oi (qe i)) pl_3 (hS.rowN 1 rfl)))<|(On)<|zlz<|(zP)<|(zV (xfb 1 fd_27_1))<|(zV (xlb 0 pl_22 hS))<|(zP)<|(zV (xix (kk:=i) Zb h.D.slh))<|zlv (xlr (u:= .int Oi (p.D i)) pl_3 (h.D.below hS.below)) ?_
  have hbv:=h.iD i
  refine(zP)<|zlt<|Zf ?_ ?_<;>intro hc
  ·
   refine zsr<|(zP)<|zx2<|Oj ?_
   refine⟨Zj ?_,hS.nl⟩
   rcases qY with⟨g1,g2,g3⟩|⟨g1,g2,g3,g4⟩
   · exact fun hh=>g1 hh.1
   · intro hh;subst g3;have h9:=hh.2 i h0 Oa;omega
  refine zx4<|(zV (Zh (r:=i+1)))<|(zP)<|zln<|zlq ⟨i+1,rfl,Oa,Oa,?_,rfl,hS⟩
  ·
   intro k h0' h1';rcases Int.lt_or_eq_of_le (show k<=i by omega) with hk|hk;exact qa k h0' hk;rw [hk];omega
 refine zx8<|(Oo)<|zx1<|Oj ?_
 refine⟨Zm ?_,hS.nl⟩
 rcases qY with⟨g1,g2,g3⟩|⟨g1,g2,g3,g4⟩
 · exact⟨fun hh=>Oa,fun hh=>absurd hh.1 g1⟩
 · exact⟨fun _=>⟨g1,fun j j0 j1=>by have:=qa j j0 Oa;rw [g3] at this;exact this⟩,fun _=>Oa⟩
end Go.Proofs.YtpnamgfdakfccaaGreat
namespace Go.Proofs.Gw
open Go Go.RowKit
section
variable {P:Program} {l rest:List Oper} {Q Q':Exit->Act->World->Prop} {w w' w0:World} {o:Oper} {n d fuel i:Nat} {L M:List (Nat×Value)} {x y:Code} {c:Operand} {e:Exit} {p:Prop} {r:Option Nat} {ds:List Deferred} {listed:Array Bool} {K:Act->World->Prop}
def Hd(P:Program)(r:Option Nat)(n:Nat)(l:List Oper)(Q:Exit->Act->World->Prop)(fuel:Nat)(listed:Array Bool)(ds:List Deferred)(L:List (Nat×Value))(w:World):Prop:=∀a,Frd a n ds L->wpAnyIn (FZ r) 0 P .any l.toArray Q fuel listed a w
def Ho(P:Program)(r:Option Nat)(n:Nat)(l:List Oper)(Q:Exit->Act->World->Prop)(o:Oper)(K:Act->World->Prop)(ds:List Deferred)(L:List (Nat×Value))(w:World):Prop:=∀a,Frd a n ds L->if Region.wanted o (yielded l.toArray a.tmps)=true then o.wpIn (FZ r) 0 P a w K Q else(∀f,o.about P w a.eval=some f->(FZ r).fn f)/\K (a.put o.dst undef) w
theorem Ho.op{i:Nat}(h:Ho P r n l Q o K ds L w)(ho:l[i]? =some o){a:Act}(hF:Frd a n ds L):wpOpIn (FZ r) 0 P l.toArray Q i K a w:=by
 unfold wpOpIn
 rw [show l.toArray[i]? =some o by simpa using ho]
 exact h a hF
theorem hdr{id:Nat}{m:List Ent}(fuel:Nat)(hm:P.follows .mixedOrders=true)(hS:Sat w0 w m)(K:∀w,Sat w0 w m->Hd P r n l Q fuel (Array.replicate fuel false) ds L w)(hn:l.length=fuel:=by exact rfl):Hc P r n Q (.region id l.toArray true) ds L w:=fun a hF=>by
 subst hn
 exact wpIn_region_any hm (by have:=K _ hS.draw a hF;simpa using this)
theorem hd0(h:He n Q .normal ds L w)(hr:Region.ready .any l.toArray listed= []:=by kernel_rfl):Hd P r n l Q fuel listed ds L w:=fun a hF=>wpAnyIn_done hr (h a hF) _
theorem hd1(i:Nat){o:Oper}(h:Ho P r n l Q o (wpAnyIn (FZ r) 0 P .any l.toArray Q fuel (listed.setIfInBounds i true)) ds L w)(hr:Region.ready .any l.toArray listed= [i]:=by kernel_rfl)(ho:l[i]? =some o:=by exact rfl):Hd P r n l Q (fuel+1) listed ds L w:=fun a hF=>
 wpAnyIn_all hr (by simp) fun j hj => by obtain rfl:j=i:=by simpa using hj
                                         exact h.op ho hF
theorem hd2(i j:Nat){o o':Oper}(hi:Ho P r n l Q o (wpAnyIn (FZ r) 0 P .any l.toArray Q fuel (listed.setIfInBounds i true)) ds L w)(hj:Ho P r n l Q o' (wpAnyIn (FZ r) 0 P .any l.toArray Q fuel (listed.setIfInBounds j true)) ds L w)(hr:Region.ready .any l.toArray listed= [i,j]:=by kernel_rfl)(ho:l[i]? =some o:=by exact rfl)(ho':l[j]? =some o':=by exact rfl):Hd P r n l Q (fuel+1) listed ds L w:=fun a hF=>
 wpAnyIn_all hr (by simp) fun k hk=>by
   rcases List.mem_cons.1 hk with rfl|hk
   · exact hi.op ho hF
   · obtain rfl:k=j:=by simpa using hk
     exact hj.op ho' hF
theorem hov{v:Value}(hr:Runs P L w o (.value v) w')(K:Hd P r n l Q fuel listed ds ((d,v)::L) w')(hg:gdB l L o=some true:=by exact rfl)(hd:o.dst=some d:=by exact rfl)(hdn:Nat.blt d n=true:=by exact rfl)(hn:ndf o=true:=by exact rfl):Ho P r n l Q o (wpAnyIn (FZ r) 0 P .any l.toArray Q fuel listed) ds L w:=fun a hF=>by
 rw [if_pos (TZ hF hg)]
 refine⟨fun _ _=>trivial,?_⟩
 rw [YX hn,hr _ hF.agr,Oper.uponIn_value,hd]
 exact K _ (hF.put (by simpa [Nat.blt_eq] using hdn) v)
theorem hof(K:Hd P r n l Q fuel listed ds ((d,undef)::L) w)(hg:gdB l L o=some false:=by exact rfl)(hd:o.dst=some d:=by exact rfl)(hdn:Nat.blt d n=true:=by exact rfl):Ho P r n l Q o (wpAnyIn (FZ r) 0 P .any l.toArray Q fuel listed) ds L w:=fun a hF=>by
 rw [if_neg (by rw [TZ hF hg];simp)]
 refine⟨fun _ _=>trivial,?_⟩
 rw [hd]
 exact K _ (hF.put (by simpa [Nat.blt_eq] using hdn) undef)
theorem hoc{f:FuncId}{args:Array Value}{R:Value->World->Prop}(hr:Runs P L w o (.enter f args) w)(hc:Calls P f args w fun e w'=>∃v,e= .returned v/\R v w')(K:∀v w',R v w'->Hd P r n l Q fuel listed ds ((d,v)::L) w')
   (hg:gdB l L o=some true:=by exact rfl) (hd:o.dst=some d:=by exact rfl) (hdn:Nat.blt d n=true:=by exact rfl) (hn:ndf o=true:=by exact rfl):Ho P r n l Q o (wpAnyIn (FZ r) 0 P .any l.toArray Q fuel listed) ds L w:=fun a hF=>by
 rw [if_pos (TZ hF hg)]
 refine⟨fun _ _=>trivial,?_⟩
 rw [YX hn,hr _ hF.agr,Oper.uponIn_enter]
 refine⟨fun h=>(by cases h),Wo (hc.mono fun e w' ⟨v,he,hR⟩=> ?_)⟩
 subst he
 rw [hd]
 exact K v w' hR _ (hF.put (by simpa [Nat.blt_eq] using hdn) v)
theorem hoy{l0:Nat}{xs:Array Operand}{ts:Array TypeId}{vs:List Value}{z:Operand}{R:Value->World->Prop}(hY:Yld P l0 vs w R)(K:∀v w',R v w'->Hd P r n l Q fuel listed ds ((d,v)::L) w')
   (hop:o.op= .call {callee:= .value z,args:=xs,argTypes:=ts}:=by exact rfl) (hx:evL L z=some (.func (.yield l0) #[] #[]):=by exact rfl) (ha:UR L xs vs:=by repeat' first|exact ZcE|apply Wm rfl)
   (hg:gdB l L o=some true:=by exact rfl) (hd:o.dst=some d:=by exact rfl) (hdn:Nat.blt d n=true:=by exact rfl):Ho P r n l Q o (wpAnyIn (FZ r) 0 P .any l.toArray Q fuel listed) ds L w:=fun a hF=>by
 obtain⟨fn,tmps,assign,body,hy,hR⟩:=hY
 have hr:=xyl (P:=P) (L:=L) (o:=o) hy hop hx ha
 rw [if_pos (TZ hF hg)]
 refine⟨fun _ _=>trivial,?_⟩
 rw [YX (by unfold ndf;rw [hop]),hr _ hF.agr,Oper.uponIn_round]
 refine⟨fun h=>(by cases h),(show RoundIn (FZ r) (0-1) P l0 fn tmps assign body w fun e w'=>∃v,e= .returned v/\R v w' from hR).mono fun e w' ⟨v,he,hR⟩=> ?_⟩
 subst he
 rw [hd]
 exact K v w' hR _ (hF.put (by simpa [Nat.blt_eq] using hdn) v)
theorem ZoP{f:FuncId}{fn:Func}{vs:List Value}{R:Ending->World->Prop}(hf:P.funcs[f]? =some fn)(hn:fn.ntmps=n)(K:Hc P none n (bodyPostM (FZ none) 0 P fn R) x [] (num 0 vs) w)(hb:fn.body=some x:=by exact rfl)(hv:Nat.ble vs.length n=true:=by exact rfl):Calls P f vs.toArray w R:=
 UQ (r:=none) (n:=0) (callsIn_of_wp_marks hf hb trivial (by
   rw [hn]
   exact K _ ((Fr.enter (vs:=vs.toArray) (by simpa using Nat.le_of_ble_eq_true hv) fun t v ht=>by have:=(Zar vs 0 t v ht).2;simpa using this))))
theorem ZoO{fn:Func}{R:Ending->World->Prop}{E:List Ent}{D:Nat}(i:Nat)(hS:Sat w0 w E)(K:∀w',Sat w0 w' (E.set i (dfE D false))->Ge n [] (bodyPost P fn R) .normal L w')(hi:E[i]? =some (dfE D true):=by exact rfl):He n (bodyPostM (FZ none) 0 P fn R) .normal [mrk D] L w:=fun a hF=>Zdh i hS (fun w' h a hF=>K w' h a hF) hi a hF
end
end Go.Proofs.Gw
namespace Go.Proofs.Gw
open Go Go.RowKit
section
variable {P:Program} {Q:Exit->Act->World->Prop} {w w' w0:World} {n:Nat} {L:List (Nat×Value)} {ds:List Deferred}
def ItG {St X Tt:Type} (P:Program) (w0:World) (gf:FuncId) (lb:List Value) (Sh:List Ent) (enc:X->List Value) (Gx:X->List Ent) (Pre:St->X->Frame->Prop) (Nx:St->X->St->Prop) (Sx:St->X->Tt->Prop) (s0:St) (Fin:St->Frame->Prop) (FinX:Tt->Frame->Prop):Prop:=
  ∀ (l:Nat) (C:St->Frame) (D:Tt->Frame) (w:World),Sat w0 w (.sem (C s0)::Sh)->
    (∀s x rest w,Pre s x rest->Sat w0 w (.sem (C s)::(Sh++(Gx x++ [.sem rest])))->Yld P l (enc x) w fun v w'=>
      (v= .bool true/\∃s',Nx s x s'/\Sat w0 w' (.sem (C s')::(Sh++ [.sem rest])))\/(v= .bool false/\∃t,Sx s x t/\Sat w0 w' (.sem (D t)::(Sh++ [.sem rest]))))->
    Calls P gf (.func (.yield l) #[] #[]::lb).toArray w fun e w'=>∃v,e= .returned v/\
      ((∃s rest,Fin s rest/\Sat w0 w' (.sem (C s)::(Sh++ [.sem rest])))\/(∃t rest,FinX t rest/\Sat w0 w' (.sem (D t)::(Sh++ [.sem rest]))))
theorem ZoN {St X Tt:Type} {gf:FuncId} {lb:List Value} {g:Operand} {ps:Array Tmp} {assign body:Code} {Sh:List Ent} {enc:X->List Value} {Gx:X->List Ent} {Pre:St->X->Frame->Prop} {Nx:St->X->St->Prop} {Sx:St->X->Tt->Prop} {Fin:St->Frame->Prop} {FinX:Tt->Frame->Prop}
   (C:St->List Ent) (D:Tt->List Ent) (jc:Tt->Code) (s0:St) (J:X->List (Nat×Value)->List Ent->Prop) (hit:ItG P w0 gf lb Sh enc Gx Pre Nx Sx s0 Fin FinX) (hS:Sat w0 w (C s0++Sh)) (hcl:Zd P gf=true)
   (hpl:∀x,(enc x).length=ps.size) (hjc:∀t,jc t= .ret\/∃id,jc t= .exit id)
   (yZ:∀l s x rest w,Pre s x rest->∀rest',(∀w,rest'.holds w->rest.holds w)->Sat w0 w (C s++(Sh++(.sem rest'::Gx x)))->Hc P (some l) n (Exit.then (fun a w'=>∃M es,J x M es/\Frd a n [] M/\Sat w0 w' (C s++(Sh++(.sem rest'::es)))) (fun _ _ _=>False)) assign [] (KS ps.toList (enc x) L) w)
   (bA:∀l s x M es rest w,Pre s x rest->J x M es->∀rest',(∀w,rest'.holds w->rest.holds w)->Sat w0 w (C s++(Sh++(.sem rest'::es)))->Hc P (some l) n (rdQ w0 C D jc Sh (Nx s x) (Sx s x) rest') body [] M w)
   (zc:∀Dk s rest w',Fin s rest->Sat w0 w' (C s++(Sh++ [.sem rest,dfE Dk true]))->He n Q .normal (mrk Dk::ds) L w')
   (aT:∀Dk t rest w',FinX t rest->Sat w0 w' (D t++(Sh++ [.sem rest,dfE Dk true]))->He n Q (Zg8 (jc t)) (mrk Dk::ds) L w')
   (hg:evL L g=some (.func (.func gf) #[] lb.toArray):=by exact rfl) (hpb:(ps.toList.all fun t=>Nat.blt t n)=true:=by exact rfl):Hc P none n Q (.rangeFunc g ps assign body) ds L w:=by
 intro a hF
 refine wpIn_rangeFunc ?_
 intro fn hfn
 obtain⟨rec,xe⟩:∃rec:LoopState->Option Code->Loop,rec=fun st pe=>{state:=st,pending:=pe,fn,tmps:=a.tmps,params:=ps,assign,body,defers:=w.heap.size}:=⟨_,rfl⟩
 obtain⟨W1,hW1⟩:∃W1,(w.alloc (.deferred (some []))).alloc (.loop (rec .ready none))=W1:=⟨_,rfl⟩
 obtain⟨l,hl⟩:∃l,w.heap.size+1=l:=⟨_,rfl⟩
 obtain⟨Dk,hDk⟩:∃Dk,w.heap.size=Dk:=⟨_,rfl⟩
 have hS1:Sat w0 W1 ((C s0++Sh)++ [dfE Dk true]++ [.sem (Frame.obj l (.loop (rec .ready none)))]):=by
   rw [<-hW1]
   refine(hS.alloc _ (e:=dfE Dk true) ?_ ?_).alloc _ (e:= .sem (Frame.obj l (.loop (rec .ready none)))) ?_ ?_
   · rw [<-hDk];exact heap_alloc_new w _
   · intro g hg;rw [<-hDk] at hg;exact hg
   · have:=heap_alloc_new (w.alloc (.deferred (some []))) (.loop (rec .ready none))
     rw [World.size_alloc,hl] at this;exact this
   · intro g hg;rw [World.size_alloc,hl];exact hg
 have eval:a.eval g= .func (.func gf) #[] lb.toArray:=hF.agr _ _ hg
 have dG:∃fnn,P.funcs[gf]? =some fnn/\fnn.body.isSome=true/\(fnn.name== "runtime.NumGoroutine")=false:=by
   unfold Zd at hcl
   cases hf:P.funcs[gf]? with
   |none=>simp [hf] at hcl
   | some fnn=>
     simp only [hf,Bool.and_eq_true,Bool.not_eq_true'] at hcl
     exact⟨fnn,rfl,hcl.1,hcl.2⟩
 obtain⟨fnn,hf1,hf2,hf3⟩:=dG
 have dK:fnn.body≠none:=by intro e;rw [e] at hf2;simp at hf2
 have dJ:fnn.name≠ "runtime.NumGoroutine" :=by simpa using hf3
 let C':St->Frame:=fun s=>Frame.bun (C s++ [.sem (Frame.obj l (.loop (rec .ready none))),dfE Dk true])
 let D':Tt->Frame:=fun t=>Frame.bun (D t++ [.sem (Frame.obj l (.loop (rec .done (some (jc t))))),dfE Dk true])
 have hS2:Sat w0 W1 (.sem (C' s0)::Sh):=by
   have h1:Sat w0 W1 (Sh++(C s0++ [.sem (Frame.obj l (.loop (rec .ready none))),dfE Dk true])):=hS1.perm (Yf fun f=>by simp only [List.map_append,List.map_cons,List.map_nil,List.sum_append,List.sum_cons,List.sum_nil];omega)
   have h2:=h1.bundle
   exact h2.perm List.perm_append_comm
 refine⟨l, [mrk Dk],W1,{target:= .fn (.func gf) lb.toArray,args:= #[.func (.yield l) #[] #[]]},W1,gf, #[.func (.yield l) #[] #[]]++lb.toArray,W1,?_,?_,?_,?_,fun h=>(by cases h),?_⟩
 · rw [<-hW1,xe,<-hl,<-hDk];exact run_enterLoop_outer _ _ _ _ _
 · simp only [resolve,eval]
   simp [go_sem]
 · intro f' hf';trivial
 · simp [invoke,go_sem,callFunc,hf1,dK,dJ]
 have eargs:(#[.func (.yield l) #[] #[]]++lb.toArray:Array Value)=(.func (.yield l) #[] #[]::lb).toArray:=by simp
 rw [eargs]
 refine Wo ((hit l C' D' W1 hS2 ?_).mono ?_)
 ·
   intro s x rest W qs hSW
   have h1:Sat w0 W (C s++(Sh++(Gx x++ [.sem rest,.sem (Frame.obj l (.loop (rec .ready none))),dfE Dk true]))):=by
     have:=Sat.unbun (l1:= []) hSW
     exact this.perm (Yf fun f=>by simp only [List.map_append,List.map_cons,List.map_nil,List.sum_append,List.sum_cons,List.sum_nil];omega)
   have hlr:W.heap[l]? =some (.loop (rec .ready none)):=h1.holds (.sem (Frame.obj l (.loop (rec .ready none)))) (by simp)
   have hy:=run_yield (P:=P) (args:=(enc x).toArray) hlr (by rw [xe];simp [hpl x])
   rw [xe] at hy
   refine⟨fn,_,assign,body,hy,roundIn_of_wpIn trivial ?_⟩
   clear hy
   let r1:Frame:=Frame.bun [.sem rest,.sem (Frame.obj l (.loop (rec .ready none))),dfE Dk true]
   have h2:Sat w0 W (C s++(Sh++(.sem r1::Gx x))):=by
     have h1b:Sat w0 W ((C s++(Sh++Gx x))++ [.sem r1]):=by
       have h1c:Sat w0 W ((C s++(Sh++Gx x))++ [.sem rest,.sem (Frame.obj l (.loop (rec .ready none))),dfE Dk true]):=by
         rw [List.append_assoc,List.append_assoc];exact h1
       exact h1c.bundle
     exact h1b.perm (Yf fun f=>by simp only [List.map_append,List.map_cons,List.map_nil,List.sum_append,List.sum_cons,List.sum_nil];omega)
   have hfr:Frd {tmps:=(ps.zip (enc x).toArray).foldl (fun t (p,v)=>t.setIfInBounds p v) a.tmps,defers:= []} n [] (KS ps.toList (enc x) L):=by
     have:=KR (a:=a) (n:=n) ps.toList (enc x) a.tmps (L:=L) ⟨hF.size,rfl,hF.get⟩ hpb
     have e:(ps.zip (enc x).toArray).foldl (fun t (p,v)=>t.setIfInBounds p v) a.tmps=(ps.toList.zip (enc x)).foldl (fun t (p:Nat×Value)=>t.setIfInBounds p.1 p.2) a.tmps:=by
       rw [<-Array.foldl_toList,Array.toList_zip]
     rw [e];exact this
   refine Go.wpIn_mono (yZ l s x rest W qs r1 (fun w h=>h.1 (.sem rest) (by simp)) h2 _ hfr) ?_
   intro e a1 Wa hp
   cases e<;>try exact hp.elim
   obtain⟨M,es,hJ,hFM,hSa⟩:=hp
   have h3:Sat w0 Wa ((C s++(Sh++([.sem rest]++es))++ [dfE Dk true])++ .sem (Frame.obj l (.loop (rec .ready none))):: []):=by
     have:=Sat.unbun (l1:=C s++Sh) (l3:=es) (by rw [List.append_assoc];exact hSa)
     exact this.perm (Yf fun f=>by simp only [List.map_append,List.map_cons,List.map_nil,List.sum_append,List.sum_cons,List.sum_nil];omega)
   have hlr:Wa.heap[l]? =some (.loop (rec .ready none)):=h3.get
   refine⟨_,run_beginRound hlr (by rw [xe]),?_⟩
   have h4:=h3.putObj (o':= .loop {rec .ready none with state:= .busy})
   let r2:Frame:=Frame.bun [.sem rest,.sem (Frame.obj l (.loop {rec .ready none with state:= .busy})),dfE Dk true]
   have h5:Sat w0 (Wa.putObj l (.loop {rec .ready none with state:= .busy})) (C s++(Sh++(.sem r2::es))):=by
     have h:Sat w0 (Wa.putObj l (.loop {rec .ready none with state:= .busy})) ((C s++(Sh++es))++ [.sem rest,.sem (Frame.obj l (.loop {rec .ready none with state:= .busy})),dfE Dk true]):=by
       exact h4.perm (Yf fun f=>by simp only [List.map_append,List.map_cons,List.map_nil,List.sum_append,List.sum_cons,List.sum_nil];omega)
     have hb:Sat w0 (Wa.putObj l (.loop {rec .ready none with state:= .busy})) ((C s++(Sh++es))++ [.sem r2]):=h.bundle
     exact hb.perm (Yf fun f=>by simp only [List.map_append,List.map_cons,List.map_nil,List.sum_append,List.sum_cons,List.sum_nil];omega)
   refine Go.wpIn_mono (bA l s x M es rest _ qs hJ r2 (fun w h=>h.1 (.sem rest) (by simp)) h5 _ hFM) ?_
   have fin:∀(jump:Option Code) (A:List Ent) (W3:World),Sat w0 W3 (A++(Sh++ [.sem r2]))->
       (Instr.endRound l jump).run P W3= .ok (.bool jump.isNone) (W3.putObj l (.loop (rec (if jump.isNone then .ready else .done) jump)))/\
       Sat w0 (W3.putObj l (.loop (rec (if jump.isNone then .ready else .done) jump))) (.sem (Frame.bun (A++ [.sem (Frame.obj l (.loop (rec (if jump.isNone then .ready else .done) jump))),dfE Dk true]))::(Sh++ [.sem rest])):=fun jump A W3 hA=>by
     have h6:Sat w0 W3 ((Sh++ [.sem rest]++(A++ [dfE Dk true]))++ .sem (Frame.obj l (.loop {rec .ready none with state:= .busy})):: []):=by
       have:=Sat.unbun (l1:=A++Sh) (l3:= []) (by rw [List.append_assoc];exact hA)
       exact this.perm (Yf fun f=>by simp only [List.map_append,List.map_cons,List.map_nil,List.sum_append,List.sum_cons,List.sum_nil];omega)
     have hlb:W3.heap[l]? =some (.loop {rec .ready none with state:= .busy}):=h6.get
     have hr:=run_endRound (P:=P) jump hlb
     have h7:=h6.putObj (o':= .loop (rec (if jump.isNone then .ready else .done) jump))
     refine⟨by rw [xe] at hr⊢;exact hr,?_⟩
     have h8:Sat w0 (W3.putObj l (.loop (rec (if jump.isNone then .ready else .done) jump))) ((Sh++ [.sem rest])++(A++ [.sem (Frame.obj l (.loop (rec (if jump.isNone then .ready else .done) jump))),dfE Dk true])):=by
       exact h7.perm (Yf fun f=>by simp only [List.map_append,List.map_cons,List.map_nil,List.sum_append,List.sum_cons,List.sum_nil];omega)
     exact h8.bundle.perm List.perm_append_comm
   intro e a3 W3 hp
   cases e with
   | normal=>
     obtain⟨s',hn,hA⟩:=hp
     obtain⟨hr,h6⟩:=fin none _ _ hA
     exact⟨_,_,hr,_,rfl,.inl ⟨rfl,s',hn,h6⟩⟩
   | ret=>
     obtain⟨t,hn,hj,hA⟩:=hp
     obtain⟨hr,h6⟩:=fin (some .ret) _ _ hA
     refine⟨_,_,hr,_,rfl,.inr ⟨rfl,t,hn,?_⟩⟩
     simp only [D',hj];exact h6
   | exit id=>
     obtain⟨t,hn,hj,hA⟩:=hp
     obtain⟨hr,h6⟩:=fin (some (.exit id)) _ _ hA
     refine⟨_,_,hr,_,rfl,.inr ⟨rfl,t,hn,?_⟩⟩
     simp only [D',hj];exact h6
   |goto t=>exact hp.elim
   |panic ch=>exact hp.elim
   |outgrown=>exact hp.elim
 ·
   have out:∀(st:LoopState) (pe:Option Code) (A:List Ent) (rest:Frame) (W2:World),st≠ .busy->Sat w0 W2 (.sem (Frame.bun (A++ [.sem (Frame.obj l (.loop (rec st pe))),dfE Dk true]))::(Sh++ [.sem rest]))->
       (Instr.endLoop l).run P W2= .ok pe (W2.putObj l (.loop {rec st pe with state:= .exhausted}))/\Sat w0 (W2.putObj l (.loop {rec st pe with state:= .exhausted})) (A++(Sh++ [.sem rest,dfE Dk true])):=fun st pe A rest W2 hst h=>by
     have h1:=Sat.unbun (l1:= []) h
     have h2:Sat w0 W2 ((A++(Sh++ [.sem rest,dfE Dk true]))++ .sem (Frame.obj l (.loop (rec st pe))):: []):=by
       exact h1.perm (Yf fun f=>by simp only [List.map_append,List.map_cons,List.map_nil,List.sum_append,List.sum_cons,List.sum_nil];omega)
     have hl:W2.heap[l]? =some (.loop (rec st pe)):=h2.get
     have h3:=h2.putObj (o':= .loop {rec st pe with state:= .exhausted})
     refine⟨?_,h3.sub (List.sublist_append_left _ _)⟩
     have:=run_endLoop (P:=P) hl (by rw [xe];exact hst)
     rw [xe] at this⊢;exact this
   rintro e W2 ⟨v,rfl,h⟩
   have hF':∀{L'},Frd a n ds L'->Frd {a with defers:= [mrk Dk]++a.defers} n (mrk Dk::ds) L':=fun h=>⟨h.size,by rw [<-h.defers];rfl,h.get⟩
   rcases h with⟨s,rest,qt,h⟩|⟨t,rest,qt,h⟩
   · obtain⟨h1,h2⟩:=out .ready none _ rest W2 (by simp) h
     exact⟨none,_,h1,zc Dk s rest _ qt h2 _ (hF' hF)⟩
   · obtain⟨h1,h2⟩:=out .done (some (jc t)) _ rest W2 (by simp) h
     refine⟨some (jc t),_,h1,?_⟩
     have h3:=aT Dk t rest _ qt h2 _ (hF' hF)
     rcases hjc t with hj|⟨id,hj⟩
     · rw [hj] at h3⊢;exact wpIn_ret h3
     · rw [hj] at h3⊢;exact wpIn_exit h3
end
end Go.Proofs.Gw
namespace Go.Proofs.YtpnamgfdakfccaaGreat
open Go Go.RowKit Go.Proofs.Gw
variable {cnt ln:Of} {pt:Og}
theorem pl_29:ZG Om 29=true:=Oc
def UF(u:Int):Nat->List Int
  |0=> []
  |t+1=>UF u t++ [u-1-t]
def dwn(u x:Int):List Int:=UF u (u-1-x).toNat
theorem Zhs{u x:Int}(h:x<u):dwn u (x-1)=dwn u x++ [x]:=by
 unfold dwn
 rw [show(u-1-(x-1)).toNat=(u-1-x).toNat+1 by omega,UF,show u-1-((u-1-x).toNat:Int)=x by omega]
theorem Zfp(u:Int):dwn u (u-1)= []:=by
 unfold dwn;rw [show(u-1-(u-1)).toNat=0 by omega];rfl
def WY(ln:Of)(pt:Og)(cnt:Of)(l:List Int):List (List Int):=l.flatMap fun i=>List.replicate (cnt i).toNat (lst (ln i) (pt i))
theorem Rn(ln:Of)(pt:Og)(cnt:Of)(l:List Int)(x:Int):WY ln pt cnt (l++ [x])=WY ln pt cnt l++List.replicate (cnt x).toNat (lst (ln x) (pt x)):=by simp [WY]
theorem Za6{ln cnt:Of}{pt:Og}{u:Int}(u0:0<=u)(hc:∀k,0<=k->k<u->0<=cnt k):∀t:Nat,(t:Int)<=u->((WY ln pt cnt (UF u t)).length:Int)=psum (fun _=>1) cnt u.toNat-psum (fun _=>1) cnt (u-t).toNat
 |0,_=>by simp [UF,WY]
 | t+1,ht=>by
   have h1:=Za6 (ln:=ln) (pt:=pt) u0 hc t Oa
   have h2:=hc (u-1-t) Oa Oa
   have h3:=YO (fun _=>1) cnt (i:=u-1-t) Oa
   rw [UF,Rn,List.length_append,List.length_replicate]
   rw [show u-1-(t:Int)+1=u-t by omega] at h3
   rw [show u-((t+1:Nat):Int)=u-1-t by omega]
   push_cast
   rw [h1,h3,Int.toNat_of_nonneg h2];omega
theorem Tq{u x c:Int}(hc:∀k,0<=k->k<u->0<=cnt k)(x0:0<=x)(x1:x<u)(c0:0<=c)(c1:c<cnt x):((WY ln pt cnt (dwn u x)++List.replicate c.toNat (lst (ln x) (pt x))).length:Int)<psum (fun _=>1) cnt u.toNat:=by
 have h1:=Za6 (ln:=ln) (pt:=pt) Oa hc (u-1-x).toNat Oa
 have h2:=YO (fun _=>1) cnt x0
 have h3:=Vc (d:=cnt) (f:=fun _=>1) (i:=0) (n:=x.toNat) Oa fun k hk=>by have:=hc k Oa Oa;omega
 rw [List.length_append,List.length_replicate]
 unfold dwn
 push_cast
 rw [h1,show(u-((u-1-x).toNat:Int)).toNat=(x+1).toNat by omega,h2]
 simp only [psum] at h3
 omega
theorem ZkA{vV:Value}{u:Int}{pv:Int->Value}(w0:World)(hV:VAt w0 vV u pv ln pt cnt):
   Calls Om 226 [vV].toArray w0 fun e w=>∃v,e= .returned v/\∃g,v= .func (.func 282) #[] #[Or g]/\Sat w0 w [.blk g [vV]]:=by
 refine zenG Tryz.func226 Tryz.ntmps226 fun w hS=> ?_
 refine zsr<|zla (xbx (cs:= [_]) hS (hc:=Slh.cells hV.row.slh)) ?_;rintro _ w ⟨g1,rfl,hS⟩
 refine(zP)<|zlz<|(zV xmf)<|(zP)<|zx1<|Oj ?_
 exact⟨_,rfl,hS⟩
theorem ZkB{vV:Value}{u:Int}{pv:Int->Value}{pt:Og}{cnt:Of}{gq:Nat}{St:Type}(qc:St->List Int)(Inv:St->Prop)(s0:St)(hs0:qc s0= [])(hI0:Inv s0)(w0:World)(hsV:Slh vV u)(hrV:∀k,0<=k->k<u->Slh (pv k) (ln k)):ItC (St:=St) (X:=Int) (Tt:=Unit) Om w0 282 [Or gq] [.blk gq [vV],.own vV 2 97 u (Ze pv cnt),.sem (Frame.rows 3 u pv ln pt)] (fun x=> [.int Oi x,.agg #[pv x,.int Oi (cnt x)]]) (fun s x rest=>Inv s/\0<=x/\x<u/\qc s=dwn u x) (fun s x s1=>qc s1=qc s++ [x]/\Inv s1) (fun _ _ _=>False) (s0) (fun s rest=>Inv s/\qc s=dwn u (-1)) (fun _ _=>False):=by
 intro l C D w hS hY
 have hu:=hsV.n0;have hu1:=hsV.n1
 refine ZgQ Tryz.func282 Tryz.ntmps282 ?_
 refine hsq<|hrz ?_
 refine zlv (xlb 1 pl_29 hS) ?_
 refine zlv (xln ZR hsV) ?_
 refine zlv (Zp (r:=u-1)) ?_
 refine zlv xas ?_
 refine zln<|zh<|htn<|hbk<|hlp (fun mm M w=>∃(s:St) (i:Int),mm=((i+1).toNat)/\(-1<=i)/\(i<u)/\(Inv s)/\(qc s=dwn u i)/\M= [(0,.func (.yield l) #[] #[]),(1,Or gq),(3,.int Oi i)]/\Sat w0 w [.sem (C s),.blk gq [vV],.own vV 2 97 u (Ze pv cnt),.sem (Frame.rows 3 u pv ln pt)]) ⟨s0,u-1,rfl,Oa,Oa,?_,?_,rfl,hS⟩ ?_
 ·
  exact hI0
 ·
  rw [hs0];exact(Zfp u).symm
 clear hS w
 rintro mm M w ⟨s,i,rfl,h0,h1,hI,hh,rfl,hS⟩
 refine hsq<|hsq<|hrz ?_
 refine zs2 ?_
 refine zln<|zh<|htn ?_
 refine Y0 ?_ ?_<;>intro hc
 ·
  refine hsk<|htn<|hsq<|hbk<|hsq<|hrg ?_
  iterate 2 refine hlv xmv ?_
  refine hlv (xlb 1 pl_29 hS) ?_
  refine hlv xmv ?_
  refine hlv (xix (kk:=2*i) ZR hsV) ?_
  refine hlv (xlw (cs:= [(pv i),.int Oi (cnt i)]) Z2 (hS.rowN 2 rfl) (Zy (k:=2*i) (i:=i) pv cnt Oa)) ?_
  refine hly (hY s i _ w ⟨hI,Oa,Oa,hh⟩ (Sat.bundle (l1:= [_,_,_,_]) (l2:= []) hS)) ?_;rintro _ w (⟨rfl,sy1,qw,hS⟩|⟨rfl,ty1,xh,hS⟩)
  ·
   replace hS:=Sat.unbundle (l1:= [_,_,_,_]) (l3:= []) hS
   replace hS:=hS.n4
   refine hlv xnt ?_
   refine hln<|htn<|hcf<|hsk<|zbn<|htn<|hrz ?_
   refine zlv xmv ?_
   refine zlv (Zp (r:=i-1)) ?_
   refine zlv xas ?_
   refine zln<|zh<|hlq ⟨sy1,i-1,rfl,Oa,Oa,?_,?_,rfl,hS⟩
   ·
    exact qw.2
   ·
    rw [qw.1,hh];exact(Zhs h1).symm
  ·
   replace hS:=Sat.unbundle (l1:= [_,_,_,_]) (l3:= []) hS
   replace hS:=hS.n4
   refine hlv xnf ?_
   refine hln<|htn<|hct<|hrt<|zbr<|ztr<|ztr<|zbr<|zf0 ⟨_,rfl,?_⟩
   exact xh.elim
 refine hxt<|ztx<|ztx<|zbh<|XD ⟨_,rfl,?_⟩
 exact .inl ⟨s,_,⟨hI,by rw [hh,show i= -1 by omega]⟩,Sat.bundle (l1:= [_,_,_,_]) (l2:= []) hS⟩
end Go.Proofs.YtpnamgfdakfccaaGreat
namespace Go.Proofs.YtpnamgfdakfccaaGreat
open Go Go.RowKit Go.Proofs.Gw
theorem ZmV:Zd Om 226=true:=Oc
theorem ZmE:Zd Om 282=true:=Oc
theorem pl_241:ZG Om 241=true:=Oc
structure BX where
  v:Value
  n:Int
  f:Of
theorem Zkz {vV:Value} {u:Int} {pv:Int->Value} {ln:Of} {pt:Og} {cnt:Of} {gq:Nat} {St:Type} (qc:St->List (List Int)) (Inv:St->Prop) (s0:St) (hs0:qc s0= []) (hI0:Inv s0) (w0:World) (hsV:Slh vV u) (hrV:∀k,0<=k->k<u->Slh (pv k) (ln k)) (hlc:∀k,0<=k->k<u->ln k<=1000000) (hcn:∀k,0<=k->k<u->0<=cnt k/\cnt k<=1000000000):ItG (St:=St) (X:=BX) (Tt:=Unit) Om w0 225 [Or gq] [.blk gq [vV],.own vV 2 97 u (Ze pv cnt),.sem (Frame.rows 3 u pv ln pt)] (fun x=> [x.v]) (fun x=> [.own x.v 1 3 x.n (ints x.f)]) (fun s x rest=>Inv s/\Slh x.v x.n/\((qc s).length:Int)<psum (fun _=>1) cnt u.toNat/\∃i,0<=i/\i<u/\x.n=ln i/\x.f=pt i) (fun s x s1=>qc s1=qc s++ [lst x.n x.f]/\Inv s1) (fun _ _ _=>False) (s0) (fun s rest=>Inv s/\qc s=WY ln pt cnt (dwn u (-1))) (fun _ _=>False):=by
 intro l C D w hS hY
 have hu:=hsV.n0;have hu1:=hsV.n1
 refine ZoP Tryz.func225 Tryz.ntmps225 ?_
 refine hsq<|hrz ?_
 refine zla (xbx (cs:= [_]) hS) ?_;rintro _ w ⟨g1,rfl,hS⟩
 replace hS:=hS.n5
 refine zln<|zh<|htn<|hsq<|hrz ?_
 refine zlv (xlb 1 pl_29 hS) ?_
 refine zlc (xc0 ZmV) (ZkA (u:=u) (pv:=pv) (ln:=ln) (pt:=pt) (cnt:=cnt) w (⟨(hS.rowN 2 rfl),fun k k0 k1=>hS.rowIn 3 rfl k0 k1,fun k k0 k1=>hS.roomIn 3 rfl k0 k1⟩:VAt _ vV u pv ln pt cnt)) ?_;rintro _ w ⟨g2,rfl,hS'⟩
 replace hS:Sat w0 w [.sem (C s0),.blk gq [vV],.own vV 2 97 u (Ze pv cnt),.sem (Frame.rows 3 u pv ln pt),.blk g1 [.func (.yield l) #[] #[]],.blk g2 [vV]]:=hS.comp hS';clear hS'
 refine zln<|zh<|htn<|hbk<| ?_
 refine hrf (St:=St×List Int) (X:=Int) (Tt:=Unit) (fun s=> [.sem (C s.1),.blk gq [vV],.blk g1 [.func (.yield l) #[] #[]]]) (fun t=> []) (fun _=> .ret) (s0, []) (fun x M es=>∃(g3:Nat),M= [(0,.func (.yield l) #[] #[]),(1,Or gq),(2,Or g1),(5,vV),(6,.func (.func 282) #[] #[Or g2]),(7,.int Oi x),(8,.agg #[(pv x),.int Oi (cnt x)]),(4,Or g3)]/\es= [.blk g3 [(pv x),.int Oi (cnt x)]]) (ZkB (gq:=g2) (fun s=>s.2) (fun s=>Inv s.1/\qc s.1=WY ln pt cnt s.2) (s0, []) rfl ⟨hI0,hs0⟩ w0 hsV hrV) (hS.pk [0,1,4,5,2,3]) ZmE (fun _=>rfl) (fun _=> .inl rfl) ?_ ?_ ?_ ?_
 ·
  intro lq s x rest w qs qK hrr hS
  obtain⟨⟨hI1,hh1⟩,x0,x1,hs2⟩:=qs
  have hlx:=hlc x x0 x1;have hcx:=hcn x x0 x1
  replace hS:=hS.n7
  refine hrz ?_
  refine zla (xal (cs:= [_,_]) Y8 hS) ?_;rintro _ w ⟨g3,rfl,hS⟩
  replace hS:=hS.n8
  refine zle (xsw 7 Z2 hS (hd:=(Za (hrV x Oa Oa).one (Za rfl Zi)))) ?_;clear hS;rintro w hS
  replace hS:=hS.n8
  refine zln<|zh<|ZgR ⟨g3,rfl,rfl⟩ hS
 ·
  rintro lq s x _ _ rest w qs ⟨g3,rfl,rfl⟩ qK hrr hS
  obtain⟨⟨hI1,hh1⟩,x0,x1,hs2⟩:=qs
  have hlx:=hlc x x0 x1;have hcx:=hcn x x0 x1
  replace hS:=hS.n8
  refine hbk<|hsq<|hrz ?_
  refine zlv (xfb 1 fd_97_1) ?_
  refine zlv (xlb 7 pl_3 hS) ?_
  refine zlv xmv ?_
  refine zln<|zh<|htn<|hbk<|hlp (fun mm M w=>∃(s3:St) (c:Int),mm=((cnt x-c).toNat)/\(0<=c)/\(c<=cnt x)/\(Inv s3)/\(qc s3=WY ln pt cnt s.2++List.replicate c.toNat (lst (ln x) (pt x)))/\M= [(2,Or g1),(4,Or g3),(10,.int Oi (cnt x)),(11,.int Oi c)]/\Sat w0 w [.sem (C s3),.blk gq [vV],.blk g1 [.func (.yield l) #[] #[]],.blk g2 [vV],.own vV 2 97 u (Ze pv cnt),.sem (Frame.rows 3 u pv ln pt),.sem qK,.blk g3 [(pv x),.int Oi (cnt x)]]) ⟨s.1,0,rfl,Oa,Oa,?_,?_,rfl,hS⟩ ?_
  ·
   exact hI1
  ·
   rw [hh1];simp
  clear hS w
  rintro mm M w ⟨s3,c,rfl,c0,c1,hI3,hh3,rfl,hS⟩
  refine hsq<|hrz ?_
  refine zlv Yc ?_
  refine zln<|zh<|htn<|hsq ?_
  refine Y0 ?_ ?_<;>intro hc
  ·
   refine hsk<|htn<|hsq<|hbk<|hsq ?_
   refine hdr 6 mx_ hS ?_;clear hS;intro w hS
   refine hd2 0 1 ?_ ?_
   ·
    refine hov (xlb 2 pl_241 hS) ?_
    refine hd1 1 ?_
    refine hov (xfb 0 fd_97_0) ?_
    refine hd1 2 ?_
    refine hov (xlb 7 pl_22 hS) ?_
    refine hd1 3 ?_
    refine hoc (xc0 cl_66) (c_clone (n:=(ln x)) (f:=(pt x)) w (hS.rowIn (k:=x) 5 rfl Oa Oa) Oa) ?_;rintro vq1 w ⟨_,rfl,qb,hS'⟩
    replace hS:Sat w0 w [.sem (C s3),.blk gq [vV],.blk g1 [.func (.yield l) #[] #[]],.blk g2 [vV],.own vV 2 97 u (Ze pv cnt),.sem (Frame.rows 3 u pv ln pt),.sem qK,.blk g3 [(pv x),.int Oi (cnt x)],.own vq1 1 3 (ln x) (ints (pt x))]:=hS.comp hS';clear hS'
    refine hd1 4 ?_
    replace hS:=hS.pk [0,1,4,5,2,3,6,7,8]
    replace hS:=hS.n9
    replace hS:=hS.pk [0,1,2,3,8,4,5,6,7]
    replace hS:=hS.n9
    refine hoy (hY s3 ⟨vq1,ln x,pt x⟩ _ w ⟨hI3,qb,by rw [hh3,hs2];exact Tq (fun k k0 k1=>(hcn k k0 k1).1) x0 x1 c0 Oa,x,x0,x1,rfl,rfl⟩ (Sat.bundle (l1:= [_,_,_,_,_]) hS)) ?_;rintro _ w (⟨rfl,sy1,qw,hS⟩|⟨rfl,ty1,xh,hS⟩)
    ·
     replace hS:=Sat.unbundle (l1:= [_,_,_,_]) (l3:= []) hS
     replace hS:=hS.n8
     refine hd1 5 ?_
     refine hov xnt ?_
     refine hd0<|htn<|hcf<|hsk<|zbn<|htn<|hrz ?_
     refine zlv (Zh (r:=c+1)) ?_
     refine zlv xmv ?_
     refine zln<|zh<|hlq ⟨sy1,c+1,rfl,Oa,Oa,?_,?_,rfl,hS.pk [0,1,4,5,2,3,6,7]⟩
     ·
      exact qw.2
     ·
      rw [qw.1,hh3,show(c+1).toNat=c.toNat+1 by omega,List.replicate_succ',List.append_assoc]
    ·
     replace hS:=Sat.unbundle (l1:= [_,_,_,_]) (l3:= []) hS
     replace hS:=hS.n8
     refine hd1 5 ?_
     refine hov xnf ?_
     refine hd0<|htn<|hct<|hrt<|zbr<|ztr<|ztr<|zbr<|zbr<|ZgP () xh.elim rfl (hS.pk [5,2,3,6])
   ·
    refine hov (xfb 0 fd_97_0) ?_
    refine hd2 0 2 ?_ ?_
    ·
     refine hov (xlb 2 pl_241 hS) ?_
     refine hd1 2 ?_
     refine hov (xlb 7 pl_22 hS) ?_
     refine hd1 3 ?_
     refine hoc (xc0 cl_66) (c_clone (n:=(ln x)) (f:=(pt x)) w (hS.rowIn (k:=x) 5 rfl Oa Oa) Oa) ?_;rintro vq1 w ⟨_,rfl,qb,hS'⟩
     replace hS:Sat w0 w [.sem (C s3),.blk gq [vV],.blk g1 [.func (.yield l) #[] #[]],.blk g2 [vV],.own vV 2 97 u (Ze pv cnt),.sem (Frame.rows 3 u pv ln pt),.sem qK,.blk g3 [(pv x),.int Oi (cnt x)],.own vq1 1 3 (ln x) (ints (pt x))]:=hS.comp hS';clear hS'
     refine hd1 4 ?_
     replace hS:=hS.pk [0,1,4,5,2,3,6,7,8]
     replace hS:=hS.n9
     replace hS:=hS.pk [0,1,2,3,8,4,5,6,7]
     replace hS:=hS.n9
     refine hoy (hY s3 ⟨vq1,ln x,pt x⟩ _ w ⟨hI3,qb,by rw [hh3,hs2];exact Tq (fun k k0 k1=>(hcn k k0 k1).1) x0 x1 c0 Oa,x,x0,x1,rfl,rfl⟩ (Sat.bundle (l1:= [_,_,_,_,_]) hS)) ?_;rintro _ w (⟨rfl,sy1,qw,hS⟩|⟨rfl,ty1,xh,hS⟩)
     ·
      replace hS:=Sat.unbundle (l1:= [_,_,_,_]) (l3:= []) hS
      replace hS:=hS.n8
      refine hd1 5 ?_
      refine hov xnt ?_
      refine hd0<|htn<|hcf<|hsk<|zbn<|htn<|hrz ?_
      refine zlv (Zh (r:=c+1)) ?_
      refine zlv xmv ?_
      refine zln<|zh<|hlq ⟨sy1,c+1,rfl,Oa,Oa,?_,?_,rfl,hS.pk [0,1,4,5,2,3,6,7]⟩
      ·
       exact qw.2
      ·
       rw [qw.1,hh3,show(c+1).toNat=c.toNat+1 by omega,List.replicate_succ',List.append_assoc]
     ·
      replace hS:=Sat.unbundle (l1:= [_,_,_,_]) (l3:= []) hS
      replace hS:=hS.n8
      refine hd1 5 ?_
      refine hov xnf ?_
      refine hd0<|htn<|hct<|hrt<|zbr<|ztr<|ztr<|zbr<|zbr<|ZgP () xh.elim rfl (hS.pk [5,2,3,6])
    ·
     refine hov (xlb 7 pl_22 hS) ?_
     refine hd2 0 3 ?_ ?_
     ·
      refine hov (xlb 2 pl_241 hS) ?_
      refine hd1 3 ?_
      refine hoc (xc0 cl_66) (c_clone (n:=(ln x)) (f:=(pt x)) w (hS.rowIn (k:=x) 5 rfl Oa Oa) Oa) ?_;rintro vq1 w ⟨_,rfl,qb,hS'⟩
      replace hS:Sat w0 w [.sem (C s3),.blk gq [vV],.blk g1 [.func (.yield l) #[] #[]],.blk g2 [vV],.own vV 2 97 u (Ze pv cnt),.sem (Frame.rows 3 u pv ln pt),.sem qK,.blk g3 [(pv x),.int Oi (cnt x)],.own vq1 1 3 (ln x) (ints (pt x))]:=hS.comp hS';clear hS'
      refine hd1 4 ?_
      replace hS:=hS.pk [0,1,4,5,2,3,6,7,8]
      replace hS:=hS.n9
      replace hS:=hS.pk [0,1,2,3,8,4,5,6,7]
      replace hS:=hS.n9
      refine hoy (hY s3 ⟨vq1,ln x,pt x⟩ _ w ⟨hI3,qb,by rw [hh3,hs2];exact Tq (fun k k0 k1=>(hcn k k0 k1).1) x0 x1 c0 Oa,x,x0,x1,rfl,rfl⟩ (Sat.bundle (l1:= [_,_,_,_,_]) hS)) ?_;rintro _ w (⟨rfl,sy1,qw,hS⟩|⟨rfl,ty1,xh,hS⟩)
      ·
       replace hS:=Sat.unbundle (l1:= [_,_,_,_]) (l3:= []) hS
       replace hS:=hS.n8
       refine hd1 5 ?_
       refine hov xnt ?_
       refine hd0<|htn<|hcf<|hsk<|zbn<|htn<|hrz ?_
       refine zlv (Zh (r:=c+1)) ?_
       refine zlv xmv ?_
       refine zln<|zh<|hlq ⟨sy1,c+1,rfl,Oa,Oa,?_,?_,rfl,hS.pk [0,1,4,5,2,3,6,7]⟩
       ·
        exact qw.2
       ·
        rw [qw.1,hh3,show(c+1).toNat=c.toNat+1 by omega,List.replicate_succ',List.append_assoc]
      ·
       replace hS:=Sat.unbundle (l1:= [_,_,_,_]) (l3:= []) hS
       replace hS:=hS.n8
       refine hd1 5 ?_
       refine hov xnf ?_
       refine hd0<|htn<|hct<|hrt<|zbr<|ztr<|ztr<|zbr<|zbr<|ZgP () xh.elim rfl (hS.pk [5,2,3,6])
     ·
      refine hoc (xc0 cl_66) (c_clone (n:=(ln x)) (f:=(pt x)) w (hS.rowIn (k:=x) 5 rfl Oa Oa) Oa) ?_;rintro vq1 w ⟨_,rfl,qb,hS'⟩
      replace hS:Sat w0 w [.sem (C s3),.blk gq [vV],.blk g1 [.func (.yield l) #[] #[]],.blk g2 [vV],.own vV 2 97 u (Ze pv cnt),.sem (Frame.rows 3 u pv ln pt),.sem qK,.blk g3 [(pv x),.int Oi (cnt x)],.own vq1 1 3 (ln x) (ints (pt x))]:=hS.comp hS';clear hS'
      refine hd1 0 ?_
      refine hov (xlb 2 pl_241 hS) ?_
      refine hd1 4 ?_
      replace hS:=hS.pk [0,1,4,5,2,3,6,7,8]
      replace hS:=hS.n9
      replace hS:=hS.pk [0,1,2,3,8,4,5,6,7]
      replace hS:=hS.n9
      refine hoy (hY s3 ⟨vq1,ln x,pt x⟩ _ w ⟨hI3,qb,by rw [hh3,hs2];exact Tq (fun k k0 k1=>(hcn k k0 k1).1) x0 x1 c0 Oa,x,x0,x1,rfl,rfl⟩ (Sat.bundle (l1:= [_,_,_,_,_]) hS)) ?_;rintro _ w (⟨rfl,sy1,qw,hS⟩|⟨rfl,ty1,xh,hS⟩)
      ·
       replace hS:=Sat.unbundle (l1:= [_,_,_,_]) (l3:= []) hS
       replace hS:=hS.n8
       refine hd1 5 ?_
       refine hov xnt ?_
       refine hd0<|htn<|hcf<|hsk<|zbn<|htn<|hrz ?_
       refine zlv (Zh (r:=c+1)) ?_
       refine zlv xmv ?_
       refine zln<|zh<|hlq ⟨sy1,c+1,rfl,Oa,Oa,?_,?_,rfl,hS.pk [0,1,4,5,2,3,6,7]⟩
       ·
        exact qw.2
       ·
        rw [qw.1,hh3,show(c+1).toNat=c.toNat+1 by omega,List.replicate_succ',List.append_assoc]
      ·
       replace hS:=Sat.unbundle (l1:= [_,_,_,_]) (l3:= []) hS
       replace hS:=hS.n8
       refine hd1 5 ?_
       refine hov xnf ?_
       refine hd0<|htn<|hct<|hrt<|zbr<|ztr<|ztr<|zbr<|zbr<|ZgP () xh.elim rfl (hS.pk [5,2,3,6])
  refine hxt<|ztx<|ztx<|zbh<|zbn<|Zdg (s3,s.2++ [x]) ⟨rfl,hI3,by show qc s3=_;rw [hh3,Rn,show c.toNat=(cnt x).toNat by omega]⟩ (hS.pk [0,1,2,3,4,5,6])
 ·
  intro Dk s rest w qt hS
  replace hS:=hS.n8
  refine zbn<|ZoO 7 hS fun w hS=>XD ⟨_,rfl,?_⟩
  replace hS:=hS.pk [0,1,4,5,2,3,6,7]
  exact .inl ⟨s.1,_,⟨qt.1.1,by rw [qt.1.2,qt.2]⟩,Sat.bundle (l1:= [_,_,_,_]) hS⟩
 ·
  intro Dk t rest w qt hS
  replace hS:=hS.n5
  exact qt.elim
theorem Zia{vV:Value}{u:Int}{pv:Int->Value}{ln:Of}{pt:Og}{cnt:Of}(w0:World)(hV:VAt w0 vV u pv ln pt cnt):
   Calls Om 151 [vV].toArray w0 fun e w=>∃v,e= .returned v/\∃g,v= .func (.func 225) #[] #[Or g]/\Sat w0 w [.blk g [vV]]:=by
 refine zenG Tryz.func151 Tryz.ntmps151 fun w hS=> ?_
 refine zsr<|zla (xbx (cs:= [_]) hS (hc:=Slh.cells hV.row.slh)) ?_;rintro _ w ⟨g1,rfl,hS⟩
 refine(zP)<|zlz<|(zV xmf)<|(zP)<|zx1<|Oj ?_
 exact⟨_,rfl,hS⟩
def tA(a m:List Int):List Int:=List.zipWith (fun x y=>x-min x y) a m
def tM(a m:List Int):List Int:=List.zipWith (fun x y=>y-min x y) a m
def WN(s:List Int×Us)(a:List Int):List Int×Us:=(tM a s.1,if(tA a s.1).any (fun x=>decide (0<x)) then s.2++ [(tA a s.1,1)] else s.2)
def Un(m0:List Int)(h:List (List Int)):List Int×Us:=h.foldl WN (m0, [])
theorem RJ(m0:List Int)(h:List (List Int))(a:List Int):Un m0 (h++ [a])=WN (Un m0 h) a:=by simp [Un]
theorem XT(F:Og)(n:Int)(f g:Of):List.zipWith F (lst n f) (lst n g)=lst n fun k=>F (f k) (g k):=by
 apply List.ext_getElem?
 intro k
 rw [List.getElem?_zipWith,lst_get,lst_get,lst_get]
 by_cases hk:(k:Int)<n
 · rw [if_pos hk,if_pos hk,if_pos hk]
 · rw [if_neg hk,if_neg hk,if_neg hk]
theorem Ui{n:Int}{f:Of}:(lst n f).any (fun x=>decide (0<x))=true↔∃k,0<=k/\k<n/\0<f k:=by
 rw [List.any_eq_true]
 constructor
 · rintro⟨x,hx,h0⟩
   unfold lst at hx
   obtain⟨k,hk,rfl⟩:=List.mem_map.1 hx
   have:=List.mem_range.1 hk
   exact⟨(k:Int),Oa,Oa,by simpa using h0⟩
 · rintro⟨k,k0,k1,h⟩
   refine⟨f k,?_,by simpa using h⟩
   have:=lst_get n f k.toNat
   rw [Int.toNat_of_nonneg k0,if_pos k1] at this
   exact List.mem_of_getElem? this
def UL(l:Us):List (List Int):=l.reverse.flatMap fun u=>List.replicate u.2.toNat u.1
theorem Ku(u:Int):∀t:Nat,UF (u+1) (t+1)=u::UF u t
 |0=>by simp [UF]
 | t+1=>by
   rw [UF,Ku u t,UF,List.cons_append]
   congr 2
   congr 1
   push_cast;omega
theorem ZfK(ln:Of)(pt:Og)(cnt:Of){n:Int}(n0:0<=n):WY ln pt cnt (dwn n (-1))=UL (plL n ln pt cnt):=by
 obtain⟨k,rfl⟩:=Int.eq_ofNat_of_zero_le n0
 have e:∀k:Nat,(UF (k:Int) k).map (fun i=>(lst (ln i) (pt i),cnt i))=(plL (k:Int) ln pt cnt).reverse:=by
   intro k
   induction k with
   |zero=>simp [UF,plL]
   |succ k ih=>rw [show((k+1:Nat):Int)=(k:Int)+1 by omega,Ku,List.map_cons,ih,Wc Oa,List.reverse_append];rfl
 unfold WY UL dwn
 rw [show((k:Int)-1-(-1)).toNat=k by omega,<-e k,List.flatMap_map]
structure TSt where
  h:List (List Int)
  M:Of
  vO:Value
  n:Int
  vv:Int->Value
  P:Og
  C:Of
def TInv(p:Prob)(m0:List Int)(s:TSt):Prop:=(lst p.m s.M,plL s.n (fun _=>p.m) s.P s.C)=Un m0 s.h/\Slh s.vO s.n/\(∀k,0<=k->k<p.m->0<=s.M k/\s.M k<=2000000000)/\s.n<=s.h.length/\∀k,0<=k->k<s.n->s.C k=1
theorem TInv.yes{p:Prob}{m0:List Int}{s:TSt}{a a2 M2:Of}(hs:(lst p.m s.M,plL s.n (fun _=>p.m) s.P s.C)=Un m0 s.h)(n0:0<=s.n)(ha:∀k,0<=k->k<p.m->a2 k=a k-min (a k) (s.M k))(hM:∀k,0<=k->k<p.m->M2 k=s.M k-min (a k) (s.M k))(hx:∃k,0<=k/\k<p.m/\0<a2 k){P2:Og}{C2:Of}(hP:∀k,0<=k->k<s.n->P2 k=s.P k)(hP2:P2 s.n=a2)(hC:∀k,0<=k->k<s.n->C2 k=s.C k)(hC2:C2 s.n=1):
   (lst p.m M2,plL (s.n+1) (fun _=>p.m) P2 C2)=Un m0 (s.h++ [lst p.m a]):=by
 rw [RJ,<-hs]
 unfold WN tM tA
 dsimp only
 rw [XT,XT,Yj (f:=fun k=>a k-min (a k) (s.M k)) (g:=a2) fun k k0 k1=>(ha k k0 k1).symm,if_pos (Ui.2 hx),Yj (f:=fun k=>s.M k-min (a k) (s.M k)) (g:=M2) fun k k0 k1=>(hM k k0 k1).symm]
 congr 1
 exact TO (ln:=fun _=>p.m) n0 (fun k k0 k1=>⟨rfl,hC k k0 k1,hP k k0 k1⟩) rfl hC2 hP2
theorem TInv.no{p:Prob}{m0:List Int}{s:TSt}{a a2 M2:Of}(hs:(lst p.m s.M,plL s.n (fun _=>p.m) s.P s.C)=Un m0 s.h)(ha:∀k,0<=k->k<p.m->a2 k=a k-min (a k) (s.M k))(hM:∀k,0<=k->k<p.m->M2 k=s.M k-min (a k) (s.M k))(hx:¬∃k,0<=k/\k<p.m/\0<a2 k):
   (lst p.m M2,plL s.n (fun _=>p.m) s.P s.C)=Un m0 (s.h++ [lst p.m a]):=by
 rw [RJ,<-hs]
 unfold WN tM tA
 dsimp only
 rw [XT,XT,Yj (f:=fun k=>a k-min (a k) (s.M k)) (g:=a2) fun k k0 k1=>(ha k k0 k1).symm,if_neg (fun h=>hx (Ui.1 h)),Yj (f:=fun k=>s.M k-min (a k) (s.M k)) (g:=M2) fun k k0 k1=>(hM k k0 k1).symm]
def TrimR(p:Prob)(u:Int)(ln:Of)(pt:Og)(cnt:Of)(out:Us)(e:Int):Prop:=
  (¬PlanOk p u ln pt cnt/\out= []/\e=1)\/(PlanOk p u ln pt cnt/\¬(∀j,0<=j->j<p.m->p.D j<=ZH u pt cnt j)/\out= []/\e=18)\/
  (PlanOk p u ln pt cnt/\(∀j,0<=j->j<p.m->p.D j<=ZH u pt cnt j)/\e=0/\∃N,NormR (plL u ln pt cnt) N/\NormR (Un (lst p.m fun j=>ZH u pt cnt j-p.D j) (UL N)).2 out)
theorem Ze6{p:Prob}{u n2:Int}{ln cnt ln2 qf:Of}{pt pt2:Og}(h:PlanOk p u ln pt cnt)(hN:NormR (plL u ln pt cnt) (plL n2 ln2 pt2 qf))(hl2:∀k,0<=k->k<n2->0<=ln2 k):∀k,0<=k->k<n2->ln2 k=p.m/\∀j,0<=j->j<p.m->0<=pt2 k j/\pt2 k j<=2000:=by
 intro k k0 k1
 have hm:(lst (ln2 k) (pt2 k),qf k)∈plL n2 ln2 pt2 qf:=List.mem_iff_getElem?.2 ⟨k.toNat,by rw [plL_get,Int.toNat_of_nonneg k0,if_pos k1]⟩
 obtain⟨y,hy,e1⟩:=hN.keys _ hm
 obtain⟨i,hi⟩:=List.mem_iff_getElem?.1 hy
 rw [plL_get] at hi
 split at hi
 · rename_i hlt
   injection hi with hi
   obtain⟨_,_,hf⟩:=h.2.2 i Oa hlt
   have hm1:=h.1.m1
   rw [<-hi] at e1
   dsimp only at e1
   obtain⟨q1,q2⟩:=(Uz (by have:=hf.eq;omega) (hl2 k k0 k1)).1 e1
   refine⟨by have:=hf.eq;omega,fun j j0 j1=> ?_⟩
   rw [<-q2 j j0 (by have:=hf.eq;omega)]
   exact hf.all j j0 (by have:=hf.eq;omega)
 · cases hi
theorem Ze7{p:Prob}{u n2:Int}{ln cnt ln2 qf:Of}{pt pt2:Og}(u0:0<=u)(n0:0<=n2)(h:PlanOk p u ln pt cnt)(hN:NormR (plL u ln pt cnt) (plL n2 ln2 pt2 qf)):psum (fun _=>1) qf n2.toNat<=1000000:=by
 have h1:=hN.wsum fun _=>1
 rw [Z7 _ u0,Z7 _ n0] at h1
 rw [h1]
 have key:∀t:Nat,(t:Int)<=u->psum (fun _=>1) cnt t<=1000*t:=by
   intro t
   induction t with
   |zero=>intro _;simp [psum]
   |succ t ih=>intro ht;have:=ih Oa;have:=(h.2.2 t Oa Oa).2.1;simp only [psum];push_cast;omega
 have h2:=key u.toNat Oa
 have h3:=h.2.1
 omega
theorem Rc{p:Prob}(hp:p.Ok){k:Int}(k0:0<=k)(k1:k<p.m):0<=p.D k/\p.D k<=1000:=by
 have he:=hp.all k k0 k1
 unfold Prob.each at he;omega
theorem ZeY{C:Of}{n:Int}(h:∀k,0<=k->k<n->C k=1):∀k,0<=k->k<n+1->snoc C n 1 k=1:=fun k k0 k1=>by
 by_cases e:k<n
 · rw [Zs e];exact h k k0 e
 · exact Zt e
theorem Zni:Zd Om 152=true:=Oc
theorem Znz{x:Int}(w0:World):
   Calls Om 152 [.int Oi x].toArray w0 fun e w=>∃v,e= .returned v/\v=B (0<x)/\Sat w0 w []:=by
 refine zenG Tryz.func152 Tryz.ntmps152 fun w hS=> ?_
 refine zsr<|(zP)<|zlz<|(Oo)<|zx1<|Oj ?_
 exact⟨Zm Oa,hS⟩
theorem Zkl{v:Value}{n:Int}{f:Of}(w0:World)(hR:Row w0 v 1 n (ints f)):
   Calls Om 147 [v,.func (.func 152) #[] #[]].toArray w0 fun e w=>∃v,e= .returned v/\∃r:Int,v= .int Oi r/\((r= -1/\∀k,0<=k->k<n->¬(0<f k))\/(0<=r/\r<n/\(0<f r)/\∀k,0<=k->k<r->¬(0<f k)))/\Sat w0 w []:=by
 have hn:=hR.slh.n0;have hn1:=hR.slh.n1
 refine zenG Tryz.func147 Tryz.ntmps147 fun w hS=> ?_
 refine zsr<|(zP)<|zx5<|(zP)<|(zV (xln Zb hR.slh))<|(zP)<|zx6<|zlp (fun mm M w=>∃(i:Int),mm=((n-i).toNat)/\(0<=i)/\(i<=n)/\(∀k,0<=k->k<i->¬(0<f k))/\M= [(0,v),(1,.func (.func 152) #[] #[]),(7,.int Oi n),(8,.int Oi i)]/\Sat w0 w []) ⟨0,rfl,Oa,Oa,?_,rfl,hS⟩ ?_
 ·
  intro k h0 h1;omega
 clear hS w
 rintro mm M w ⟨i,rfl,h0,h1,qa,rfl,hS⟩
 refine zsr<|(zP)<|zx7<|Zf ?_ ?_<;>intro hc
 ·
  refine zx3<|(On)<|zlz<|(Oo)<|(zV (xix (kk:=i) Zb hR.slh))<|(zV (xlr (u:= .int Oi (f i)) pl_3 (hR.below hS.below)))<|zlc (xc0 Zni) (Znz (x:=(f i)) w) ?_;rintro _ w ⟨rfl,hS'⟩
  replace hS:=hS.cmp hS';clear hS'
  refine zlt<|Zf ?_ ?_<;>intro hc
  ·
   refine zsr<|(On)<|zx2<|Oj ?_
   exact⟨i,rfl,.inr ⟨by omega,Oa,‹0<f i›,qa⟩,hS⟩
  refine zx4<|(zV (Zh (r:=i+1)))<|(zP)<|zln<|zlq ⟨i+1,rfl,Oa,Oa,?_,rfl,hS⟩
  ·
   intro k h0' h1';rcases Int.lt_or_eq_of_le (show k<=i by omega) with hk|hk;exact qa k h0' hk;rw [hk];assumption
 refine zx8<|(zP)<|zx1<|Oj ?_
 exact⟨-1,rfl,.inl ⟨rfl,fun k h0 h1=>qa k h0 Oa⟩,hS⟩
theorem Zku{v:Value}{n:Int}{f:Of}(w0:World)(hR:Row w0 v 1 n (ints f)):
   Calls Om 90 [v,.func (.func 152) #[] #[]].toArray w0 fun e w=>∃v,e= .returned v/\v=B (∃k,0<=k/\k<n/\0<f k)/\Sat w0 w []:=by
 refine zenG Tryz.func90 Tryz.ntmps90 fun w hS=> ?_
 refine zsr<|(zP)<|zlz<|(On)<|zlc (xc0 WX) (Zkl (n:=n) (f:=f) w (hR.below hS.below)) ?_;rintro _ w ⟨r1,rfl,hr1,hS'⟩
 replace hS:=hS.cmp hS';clear hS'
 refine(On)<|zx1<|Oj ?_
 exact⟨Zm (by
  rcases hr1 with⟨h1,h2⟩|⟨h1,h2,h3,_⟩
  · exact⟨fun h=>Oa,fun⟨k,h4,h5,h6⟩=>absurd h6 (h2 k h4 h5)⟩
  · exact⟨fun _=>⟨_,h1,h2,h3⟩,fun _=>h1⟩),hS⟩
end Go.Proofs.YtpnamgfdakfccaaGreat
