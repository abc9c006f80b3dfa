import Derived.WalkKit
import Derived.WalkLawsBesides
import Derived.OrdersHeld
import Derived.StillTail
import Derived.Deep.RegionHeld3
import Derived.Sort.OwnSortedInts
import Derived.Shelf.Slices.CompactI
import Derived.Laws.CopyRow
import Derived.Laws.IdiomCopy
import Derived.Shelf.Small.Bits
import Derived.Shelf.Strconv.Itoa0
import Derived.Shelf.Sort.Plain
import Derived.Shelf.Bits.Mul64
import Derived.Ground.Names2Prog
import Derived.Shelf.Slices.Clone
import Derived.Shelf.Slices.SearchI
import Derived.Shelf.Slices.In.SortNone
import Derived.Ground.SlgnProg
import Derived.Shelf.SlicesE.Clone
import Derived.Test.YtpnamgfdakfccaaGreatProg
set_option linter.unusedVariables false
set_option linter.unusedSimpArgs false
set_option maxRecDepth 20000
set_option maxHeartbeats 4000000
namespace Go.Proofs.Gw
open Go Go.RowKit
theorem Oa{p:Prop}(h:p:=by omega):p:=h
theorem Oc{p:Prop}(h:p:=by kernel_rfl):p:=h
theorem Od{p:Prop}(h:¬¬p):p:=Classical.not_not.1 h
theorem Oe{p:Prop}(h:p:=by first|assumption|exact Classical.not_not.1 ‹_›):p:=h
abbrev Of:=Int->Int
abbrev Og:=Int->Int->Int
abbrev Oh:Value:=.slice none 0 0
abbrev Oi:=IntKind.i64
abbrev Or(a:Nat):Value:=.pointer (some ⟨a,0,none⟩)
def I64(n:Int):Prop:= -9223372036854775808<=n/\n<=9223372036854775807
theorem I64.wrap{n:Int}(h:I64 n):IntKind.i64.wrap n=n:=by
 obtain⟨h1,h2⟩:=h
 rw [IntKind.wrap_i64];omega
noncomputable def B(p:Prop):Value:= .bool (@decide p (Classical.propDecidable p))
theorem KN(p:Prop) [Decidable p]:Value.bool (decide p)=B p:=by
 unfold B;congr
theorem ZQ{p:Prop}(h:p):B p= .bool true:=by simp [B,h]
theorem ZA{p:Prop}(h:¬p):B p= .bool false:=by simp [B,h]
theorem Zm{p q:Prop}(h:p↔q):B p=B q:=by rw [propext h]
theorem Yn{p:Prop}(h:p):Value.bool true=B p:=(ZQ h).symm
theorem Zj{p:Prop}(h:¬p):Value.bool false=B p:=(ZA h).symm
theorem Ze8{a b:Nat}(h:a≠b):Nat.beq a b=false:=by
 cases hb:Nat.beq a b with
 |false=>rfl
 |true=>exact absurd (Nat.eq_of_beq_eq_true hb) h
def lk:List (Nat×Value)->Nat->Option Value
  | [],_=>none
  |(k,v)::r,t=>bif Nat.beq k t then some v else lk r t
def evL(L:List (Nat×Value)):Operand->Option Value
  | .tmp t=>lk L t
  | .const v=>some v
  | .global g=>some (Or g)
  | .func f=>some (.func (.func f) #[] #[])
structure Fr (a:Act) (n:Nat) (ds:List Deferred) (L:List (Nat×Value)):Prop where
  size:a.tmps.size=n
  defers:a.defers=ds
  get:∀t v,lk L t=some v->a.tmps.getD t undef=v
def Agr(L:List (Nat×Value))(ρ:Operand->Value):Prop:=∀x v,evL L x=some v->ρ x=v
theorem Fr.agr{a:Act}{n:Nat}{ds:List Deferred}{L:List (Nat×Value)}(h:Fr a n ds L):Agr L a.eval:=fun x v hx=>by
 cases x with
 |tmp t=>exact h.get t v hx
 |const u=>exact Option.some.inj hx
 |global g=>exact Option.some.inj hx
 |func f=>exact Option.some.inj hx
theorem Fr.put{a:Act}{n:Nat}{ds:List Deferred}{L:List (Nat×Value)}(h:Fr a n ds L){d:Nat}(hd:d<n)(v:Value):Fr (a.put (some d) v) n ds ((d,v)::L):=by
 refine⟨by simp [Act.put,h.size],by simp [Act.put,h.defers],fun t u ht=> ?_⟩
 simp only [lk] at ht
 by_cases e:d=t
 · subst e
   rw [Nat.beq_refl] at ht
   simp only [cond_true,Option.some.injEq] at ht
   subst ht
   simp [Act.put,Array.getD,h.size,hd]
 · have:Nat.beq d t=false:=Ze8 e
   rw [this] at ht
   simp only [cond_false] at ht
   have:=h.get t u ht
   rw [<-this]
   simp only [Act.put,Array.getD_eq_getD_getElem?,Array.getElem?_setIfInBounds]
   rw [if_neg e]
theorem Fr.known{a:Act}{n:Nat}{ds:List Deferred}{L:List (Nat×Value)}(h:Fr a n ds L){d:Nat}{p:Prop}(hd:lk L d=some (B p)){t:Bool}(hp:B p= .bool t):Fr a n ds ((d,.bool t)::L):=by
 refine⟨h.size,h.defers,fun x u hx=> ?_⟩
 simp only [lk] at hx
 by_cases e:d=x
 · subst e
   rw [Nat.beq_refl] at hx
   simp only [cond_true,Option.some.injEq] at hx
   subst hx
   rw [<-hp]
   exact h.get d _ hd
 · have:Nat.beq d x=false:=Ze8 e
   rw [this] at hx
   exact h.get x u hx
theorem Fr.as{a:Act}{n:Nat}{ds:List Deferred}{L:List (Nat×Value)}(h:Fr a n ds L){d:Nat}{v:Value}(hd:lk L d=some v){u:Value}(e:v=u):Fr a n ds ((d,u)::L):=by
 subst e
 refine⟨h.size,h.defers,fun x u hx=> ?_⟩
 simp only [lk] at hx
 by_cases e:d=x
 · subst e
   rw [Nat.beq_refl] at hx
   simp only [cond_true,Option.some.injEq] at hx
   subst hx
   exact h.get d _ hd
 · have:Nat.beq d x=false:=Ze8 e
   rw [this] at hx
   exact h.get x u hx
theorem Fr.enter{vs:Array Value}{n:Nat}(hn:vs.size<=n){L:List (Nat×Value)}(hL:∀t v,lk L t=some v->vs[t]? =some v):
   Fr {tmps:=vs++Array.replicate (n-vs.size) undef,defers:= []} n [] L:=by
 refine⟨by simp;omega,rfl,fun t v ht=> ?_⟩
 have:=hL t v ht
 have hlt:t<vs.size:=(Array.getElem?_eq_some_iff.1 this).1
 simp only [Array.getD_eq_getD_getElem?,Array.getElem?_append,hlt,if_true,this,Option.getD_some]
section
variable {P:Program} {l:List Oper} {Q:Exit->Act->World->Prop} {a:Act} {w:World} {rest:List Oper} {o:Oper} {n:Nat} {ds:List Deferred} {L:List (Nat×Value)}
def Want (l:List Oper) (L:List (Nat×Value)) (o:Oper) (b:Bool):Prop:=
  (o.guard=none/\b=true)\/(∃j p oj dj t,o.guard=some (j,p)/\l[j]? =some oj/\oj.dst=some dj/\lk L dj=some (.bool t)/\(t==p)=b)\/
    ∃j p oj dj,o.guard=some (j,p)/\l[j]? =some oj/\oj.dst=some dj/\lk L dj=some undef/\b=false
theorem Want.off{j dj:Nat}{p:Bool}{oj:Oper}(h1:o.guard=some (j,p))(h2:l[j]? =some oj)(h3:oj.dst=some dj)(h4:lk L dj=some undef):Want l L o false:= .inr (.inr ⟨j,p,oj,dj,h1,h2,h3,h4,rfl⟩)
theorem Want.on{j dj:Nat}{p t b:Bool}{oj:Oper}(h1:o.guard=some (j,p))(h2:l[j]? =some oj)(h3:oj.dst=some dj)(h4:lk L dj=some (.bool t))(h5:(t==p)=b):Want l L o b:= .inr (.inl ⟨j,p,oj,dj,t,h1,h2,h3,h4,h5⟩)
theorem Want.free(h:o.guard=none):Want l L o true:= .inl ⟨h,rfl⟩
theorem Want.wanted{b:Bool}(hF:Fr a n ds L)(h:Want l L o b):Region.wanted o (yielded l.toArray a.tmps)=b:=by
 rcases h with⟨h,rfl⟩|⟨j,p,oj,dj,t,h1,h2,h3,h4,h5⟩|⟨j,p,oj,dj,h1,h2,h3,h4,rfl⟩
 · simp [Region.wanted,h]
 · have h6:=hF.get dj _ h4
   have h7:a.tmps[dj]? =some (.bool t):=by
     rw [Array.getD_eq_getD_getElem?] at h6
     cases hq:a.tmps[dj]? with
     |none=>rw [hq] at h6;simp [undef] at h6
     |some u=>rw [hq] at h6;simp at h6;rw [h6]
   simp only [Region.wanted,h1,yielded,List.getElem?_toArray,h2,Option.bind_some,h3,h7,<-h5]
   cases t<;>cases p<;>rfl
 · have h6:=hF.get dj _ h4
   rw [Array.getD_eq_getD_getElem?] at h6
   simp only [Region.wanted,h1,yielded,List.getElem?_toArray,h2,Option.bind_some,h3]
   cases hq:a.tmps[dj]? with
   |none=>simp
   |some u=>rw [hq] at h6;simp at h6;subst h6;simp [undef]
def Runs(P:Program)(L:List (Nat×Value))(w:World)(o:Oper)(r:Next)(w':World):Prop:=∀ρ,Agr L ρ->(execOp ρ o).run P w= .ok r w'
theorem ZgE{d:Nat}{v:Value}{w':World}(hF:Fr a n ds L)(hg:Want l L o true)(hd:o.dst=some d)(hdn:Nat.blt d n=true)(hr:Runs P L w o (.value v) w')
   (K:∀a',Fr a' n ds ((d,v)::L)->wpList P l.toArray Q rest a' w'):wpList P l.toArray Q (o::rest) a w:=by
 unfold wpList
 rw [if_pos (hg.wanted hF)]
 refine .inl ?_
 unfold Oper.wp
 rw [hr _ hF.agr,Oper.upon_value,hd]
 exact K _ (hF.put (by simpa [Nat.blt_eq] using hdn) v)
theorem Zlx{w':World}(hF:Fr a n ds L)(hg:Want l L o true)(hd:o.dst=none)(hr:Runs P L w o .skip w')
   (K:wpList P l.toArray Q rest a w'):wpList P l.toArray Q (o::rest) a w:=by
 unfold wpList
 rw [if_pos (hg.wanted hF)]
 refine .inl ?_
 unfold Oper.wp
 rw [hr _ hF.agr,Oper.upon_skip,hd]
 exact K
theorem Zlw{d:Nat}(hF:Fr a n ds L)(hg:Want l L o false)(hd:o.dst=some d)(hdn:Nat.blt d n=true)
   (K:∀a',Fr a' n ds ((d,undef)::L)->wpList P l.toArray Q rest a' w):wpList P l.toArray Q (o::rest) a w:=by
 unfold wpList
 rw [if_neg (by rw [hg.wanted hF];simp),hd]
 exact K _ (hF.put (by simpa [Nat.blt_eq] using hdn) undef)
theorem Zju{d:Nat}{f:FuncId}{args:Array Value}{R:Value->World->Prop}(hF:Fr a n ds L)(hg:Want l L o true)(hd:o.dst=some d)(hdn:Nat.blt d n=true)(hr:Runs P L w o (.enter f args) w)
   (hc:Calls P f args w fun e w'=>∃v,e= .returned v/\R v w')
   (K:∀v w',R v w'->∀a',Fr a' n ds ((d,v)::L)->wpList P l.toArray Q rest a' w'):wpList P l.toArray Q (o::rest) a w:=by
 unfold wpList
 rw [if_pos (hg.wanted hF)]
 refine .inl ?_
 unfold Oper.wp
 rw [hr _ hF.agr,Oper.upon_enter]
 refine hc.mono fun e w' ⟨v,he,hR⟩=> ?_
 subst he
 rw [hd]
 exact K v w' hR _ (hF.put (by simpa [Nat.blt_eq] using hdn) v)
end
section
variable {P:Program} {Q:Exit->Act->World->Prop} {a:Act} {w:World} {n:Nat} {ds:List Deferred} {L:List (Nat×Value)} {x y:Code} {c:Operand}
theorem ZoZ{p:Prop}(hF:Fr a n ds L)(hc:evL L c=some (B p))(ht:p->x.wp P Q a w)(hf:¬p->y.wp P Q a w):(Code.cond c x y).wp P Q a w:=by
 have:=hF.agr _ _ hc
 by_cases hp:p
 · exact wp_cond_true (by rw [this,ZQ hp]) (ht hp)
 · exact wp_cond_false (by rw [this,ZA hp]) (hf hp)
theorem Zp7(hF:Fr a n ds L)(hc:evL L c=some (.bool true))(ht:x.wp P Q a w):(Code.cond c x y).wp P Q a w:=wp_cond_true (hF.agr _ _ hc) ht
theorem Zp8(hF:Fr a n ds L)(hc:evL L c=some (.bool false))(ht:y.wp P Q a w):(Code.cond c x y).wp P Q a w:=wp_cond_false (hF.agr _ _ hc) ht
theorem Zj1 {body:Code} (I:Nat->Act->World->Prop) {m:Nat} (h0:I m a w)
   (round:∀m a w,I m a w->body.wp P (Exit.then (fun a' w'=>∃m',m'<m/\I m' a' w') Q) a w):(Code.loop body).wp P Q a w:=by
 intro b k cs
 have key:∀m a w,I m a w->
     ∃e a' w',Q e a' w'/\Arrives P (lone (b.at a (.code body:: .inLoop body::k)) cs w) b k cs e a' w':=by
   intro m
   induction m using Nat.strongRecOn with
   | _ m ih=>
     intro a w hI
     obtain⟨e,a₁,w₁,hq,qJ⟩:=round m a w hI b (.inLoop body::k) cs
     cases e with
     | normal=>
       obtain⟨m',hlt,hI₁⟩:=hq
       obtain⟨e₂,a₂,w₂,hq₂,harr₂⟩:=ih m' hlt a₁ w₁ hI₁
       exact⟨e₂,a₂,w₂,hq₂,.of_steps (Steps.trans qJ (.one step_inLoop)) harr₂⟩
     |exit id=>exact⟨_,a₁,w₁,hq,.pass (x:= .inLoop body) rfl (fun _ _=> .inl (by simp)) qJ⟩
     |goto l=>exact⟨_,a₁,w₁,hq,.pass (x:= .inLoop body) rfl (fun _ _=> .inl (by simp)) qJ⟩
     |ret=>exact⟨_,a₁,w₁,hq,.pass (x:= .inLoop body) rfl (fun _ _=> .inl (by simp)) qJ⟩
     |panic ch=>exact⟨_,a₁,w₁,hq,.pass (x:= .inLoop body) rfl (fun _ _=> .inl (by simp)) qJ⟩
     |outgrown=>exact⟨_,a₁,w₁,hq,.pass (x:= .inLoop body) rfl (fun _ _=> .inl (by simp)) qJ⟩
 obtain⟨e,a',w',hq,qJ⟩:=key m a w h0
 exact⟨e,a',w',hq,.of_steps (.one step_loop) qJ⟩
theorem Zmq{x:Code}{Q':Exit->Act->World->Prop}(J:Act->World->Prop)(h:x.wp P (Exit.then J (fun e a w=>e≠ .normal/\Q' e a w)) a w)(k:∀a w,J a w->Q' .normal a w):x.wp P Q' a w:=
 wp_mono h fun e a w q=>by cases e<;>first|exact k _ _ q|exact q.2
theorem Zp5{fn:Func}{R:Ending->World->Prop}{t:Nat}{v:Value}(hF:Fr a n [] L)(hr:fn.results= #[.tmp t])(hv:lk L t=some v)(h:R (.returned v) w):bodyPost P fn R .ret a w:=
 ⟨hF.defers,v,by rw [results_tmp hr,hF.get t v hv],h⟩
theorem Zp4{fn:Func}{R:Ending->World->Prop}{t u:Nat}{v x:Value}(hF:Fr a n [] L)(hr:fn.results= #[.tmp t,.tmp u])(hv:lk L t=some v)(hx:lk L u=some x)(h:R (.returned (.tuple #[v,x])) w):bodyPost P fn R .ret a w:=
 ⟨hF.defers,_,by rw [results_tmp2 hr,hF.get t v hv,hF.get u x hx],h⟩
theorem Zcy{f:FuncId}{fn:Func}{c:Code}{args:Array Value}{R:Ending->World->Prop}(hf:P.funcs[f]? =some fn)(hb:fn.body=some c)(hn:fn.ntmps=n)
   (hL:Fr {tmps:=args++Array.replicate (n-args.size) undef,defers:= []} n [] L)
   (h:∀a,Fr a n [] L->c.wp P (bodyPost P fn R) a w):Calls P f args w R:=
 calls_of_wp hf hb (by rw [hn];exact h _ hL)
end
end Go.Proofs.Gw
namespace Go.Proofs.Gw
open Go Go.RowKit
variable {c:Int->Value} {cs:List Value} {g:Nat} {v:Value} {w w' w0:World}
def Slh(v:Value)(n:Int):Prop:=0<=n/\n<=140737488355328/\∃a cap,v= .slice a n.toNat cap/\(n=0\/∃b off,a=some ⟨b,off,none⟩)
def cad(v:Value)(k:Int):Addr:=match v with
  | .slice (some a) _ _=>⟨a.block,a.off+k.toNat,none⟩
  |_=>⟨0,0,none⟩
def Row(w:World)(v:Value)(s:Nat)(n:Int)(c:Int->Value):Prop:=
  Slh v n/\∀k:Nat,(k:Int)<n*s->w.cell? (cad v k)=some (c k)
theorem Row.slh{s:Nat}{n:Int}(h:Row w v s n c):Slh v n:=h.1
theorem Row.cell{w:World}{v:Value}{s:Nat}{n:Int}{c:Int->Value}(h:Row w v s n c){k:Int}(h0:0<=k)(h1:k<n*s):w.cell? (cad v k)=some (c k):=by
 obtain⟨j,rfl⟩:=Int.eq_ofNat_of_zero_le h0
 exact h.2 j h1
theorem Row.below{s:Nat}{n:Int}(h:Row w v s n c)(hb:Below w.heap.size w w'):Row w' v s n c:=
 ⟨h.1,fun k hk=>by
   have:=h.2 k hk
   rw [hb.cell (World.block_lt_of_cell? w _ this)];exact this⟩
theorem Row.congr{s:Nat}{n:Int}{d:Int->Value}(h:Row w v s n c)(e:∀k,0<=k->k<n*s->c k=d k):Row w v s n d:=
 ⟨h.1,fun k hk=>by rw [h.2 k hk,e k Oa hk]⟩
theorem Slh.n0{n:Int}(h:Slh v n):0<=n:=h.1
theorem Slh.n1{n:Int}(h:Slh v n):n<=140737488355328:=h.2.1
def ints(f:Of):Int->Value:=fun k=> .int Oi (f k)
def upd{α:Type}(f:Int->α)(k:Int)(x:α):Int->α:=fun j=>if j=k then x else f j
def cat{α:Type}(n:Int)(f g:Int->α):Int->α:=fun j=>if j<n then f j else g (j-n)
theorem ZD(f:Of)(k x:Int):upd (ints f) k (.int Oi x)=ints (upd f k x):=by
 funext j;simp only [upd,ints];split<;>rfl
theorem ZhS(n:Int)(f g:Of):cat n (ints f) (ints g)=ints (cat n f g):=by
 funext j;simp only [cat,ints];split<;>rfl
structure Frame where
  holds:World->Prop
  has:Nat->Prop
  keep:∀{w w':World},holds w->(∀g,has g->w'.heap[g]? =w.heap[g]?)->holds w'
  lt:∀{w:World} {g:Nat},holds w->has g->g<w.heap.size
inductive Ent where
  |blk (g:Nat) (cs:List Value)
  |own (v:Value) (s:Nat) (E:TypeId) (n:Int) (c:Int->Value)
  |sem (F:Frame)
def Ent.has:Ent->Nat->Prop
  | .blk g _,k=>g=k
  | .own v _ _ _ _,k=>v.ownBlock=some k
  | .sem F,k=>F.has k
def Ent.holds(w:World):Ent->Prop
  | .blk g cs=>∃T,w.heap[g]? =some (.cells cs.toArray T (0,0))
  | .own v s E n c=>0<=n/\n<=140737488355328/\((v=Oh/\n=0)\/∃g cap cur,v= .slice (some ⟨g,0,none⟩) n.toNat cap/\w.heap[g]? =some (.cells cur E (0,0))/\
      n.toNat<=cap/\cap<=maxLen/\cur.size=cap*s/\∀k:Nat,(k:Int)<n*s->cur[k]? =some (c k))
  | .sem F=>F.holds w
theorem Ent.holds.keep{e:Ent}{w w':World}(h:e.holds w)(hk:∀g,e.has g->w'.heap[g]? =w.heap[g]?):e.holds w':=by
 cases e with
 |blk g cs=>obtain⟨T,h⟩:=h;exact⟨T,by rw [hk g rfl];exact h⟩
 | own v s E n c=>
   obtain⟨h0,h1,h|⟨g,cap,cur,rfl,hg,h⟩⟩:=h
   · exact⟨h0,h1,.inl h⟩
   · exact⟨h0,h1,.inr ⟨g,cap,cur,rfl,by rw [hk g rfl];exact hg,h⟩⟩
 |sem F=>exact F.keep h hk
theorem Ent.holds.lt{e:Ent}{w:World}(h:e.holds w){g:Nat}(hg:e.has g):g<w.heap.size:=by
 cases e with
 |blk g' cs=>obtain⟨T,h⟩:=h;cases hg;exact(Array.getElem?_eq_some_iff.1 h).1
 | own v s E n c=>
   obtain⟨_,_,h|⟨g',cap,cur,rfl,h,_⟩⟩:=h
   · obtain⟨rfl,_⟩:=h;simp [Ent.has,Value.ownBlock] at hg
   · simp [Ent.has,Value.ownBlock] at hg;subst hg;exact(Array.getElem?_eq_some_iff.1 h).1
 |sem F=>exact F.lt h hg
def Apart(d e:Ent):Prop:=∀g,d.has g->¬e.has g
structure Sat (w0 w:World) (l:List Ent):Prop where
  below:Below w0.heap.size w0 w
  holds:∀e∈l,e.holds w
  new:∀e∈l,∀g,e.has g->w0.heap.size<=g
  sep:l.Pairwise Apart
theorem Sat.start(w:World):Sat w w []:=⟨Below.refl _ _,by simp,by simp,.nil⟩
theorem Sat.sub{l m:List Ent}(h:Sat w0 w l)(hm:m.Sublist l):Sat w0 w m:=
 ⟨h.below,fun e he=>h.holds e (hm.subset he),fun e he=>h.new e (hm.subset he),h.sep.sublist hm⟩
theorem Sat.draw{l:List Ent}(h:Sat w0 w l):Sat w0 w.drew l:=
 ⟨h.below.drew,fun e he=>(h.holds e he).keep fun _ _=>rfl,h.new,h.sep⟩
theorem Sat.size{w0 w:World}{l:List Ent}(h:Sat w0 w l):w0.heap.size<=w.heap.size:=h.below.size
theorem Sat.comp{l m:List Ent}(h:Sat w0 w l)(k:Sat w w' m):Sat w0 w' (l++m):=by
 refine⟨h.below.trans (k.below.mono h.size),fun e he=> ?_,fun e he g hg=> ?_,?_⟩
 · rcases List.mem_append.1 he with he|he
   · exact(h.holds e he).keep fun g hg=>k.below.block g ((h.holds e he).lt hg)
   · exact k.holds e he
 · rcases List.mem_append.1 he with he|he
   · exact h.new e he g hg
   · exact Nat.le_trans h.size (k.new e he g hg)
 · refine List.pairwise_append.2 ⟨h.sep,k.sep,fun d hd e he g hg hg'=> ?_⟩
   have h1:=(h.holds d hd).lt hg
   have h2:=k.new e he g hg'
   omega
theorem Sat.alloc{w0 w:World}{l:List Ent}(h:Sat w0 w l)(o:Obj){e:Ent}(he:e.holds (w.alloc o))(hat:∀g,e.has g->g=w.heap.size):Sat w0 (w.alloc o) (l++ [e]):=
 h.comp (m:= [e]) ⟨(Below.refl _ _).alloc (Nat.le_refl _) _,by simpa using he,fun d hd g hg=>by rw [List.mem_singleton] at hd;subst hd;exact Nat.le_of_eq (hat g hg).symm,List.pairwise_singleton _ _⟩
theorem Sat.box{l:List Ent}(h:Sat w0 w l)(cs:List Value)(T:TypeId):Sat w0 (w.alloc (.cells cs.toArray T)) (l++ [.blk w.heap.size cs]):=
 h.alloc _ ⟨T,heap_alloc_new w _⟩ (fun g hg=>(hg:w.heap.size=g).symm)
theorem Sat.turn {l1 l2:List Ent} {d e:Ent} (h:Sat w0 w (l1++d::l2)) (hb:∀k,k<w.heap.size->¬d.has k->w'.heap[k]? =w.heap[k]?) (ht:w'.tape=w.tape) (ho:w'.os=w.os) (hp:w'.output=w.output) (hz:w.heap.size<=w'.heap.size)
   (he:e.holds w') (hat:∀g,e.has g->d.has g\/w.heap.size<=g):Sat w0 w' (l1++e::l2):=by
 have hd:d∈l1++d::l2:=by simp
 have yB:=List.pairwise_append.1 h.sep
 have aU:=List.pairwise_cons.1 yB.2.1
 refine⟨h.below.trans ⟨ho,ht,hp,hz,fun k hk=>hb k (Nat.lt_of_lt_of_le hk h.size) fun e'=> ?_⟩,fun x hx=> ?_,fun x hx g hg=> ?_,?_⟩
 · have:=h.new d hd k e';omega
 · rcases List.mem_append.1 hx with hx|hx
   · have hh:=h.holds x (by simp [hx])
     exact hh.keep fun g hg=>hb g (hh.lt hg) fun e'=>yB.2.2 x hx d (by simp) g hg e'
   · rcases List.mem_cons.1 hx with rfl|hx
     · exact he
     · have hh:=h.holds x (by simp [hx])
       exact hh.keep fun g hg=>hb g (hh.lt hg) fun e'=>aU.1 x hx g e' hg
 · rcases List.mem_append.1 hx with hx|hx
   · exact h.new x (by simp [hx]) g hg
   · rcases List.mem_cons.1 hx with rfl|hx
     · rcases hat g hg with hg'|hg'
       · exact h.new d hd g hg'
       · exact Nat.le_trans h.size hg'
     · exact h.new x (by simp [hx]) g hg
 · refine List.pairwise_append.2 ⟨yB.1,List.pairwise_cons.2 ⟨fun x hx g hg hg'=> ?_,aU.2⟩,fun x hx y hy g hg hg'=> ?_⟩
   · rcases hat g hg with h'|h'
     · exact aU.1 x hx g h' hg'
     · have:=(h.holds x (by simp [hx])).lt hg';omega
   · rcases List.mem_cons.1 hy with rfl|hy
     · rcases hat g hg' with h'|h'
       · exact yB.2.2 x hx d (by simp) g hg h'
       · have:=(h.holds x (by simp [hx])).lt hg;omega
     · exact yB.2.2 x hx y (by simp [hy]) g hg hg'
theorem Sat.get{l1 l2:List Ent}{d:Ent}(h:Sat w0 w (l1++d::l2)):d.holds w:=h.holds d (by simp)
theorem Ent.holds.cell{g:Nat}{cs:List Value}{w:World}(h:(Ent.blk g cs).holds w){o:Nat}{v:Value}(hv:cs[o]? =some v):w.cell? ⟨g,o,none⟩=some v:=by
 obtain⟨T,h⟩:=h
 simp [World.cell?,h,hv]
theorem Ent.holds.free(h:(Ent.blk g cs).holds w)(o:Nat):w.frozen? ⟨g,o,none⟩=false:=by
 obtain⟨T,h⟩:=h
 simp [World.frozen?,h]
theorem Sat.setBlk{l1 l2:List Ent}(h:Sat w0 w (l1++ .blk g cs::l2))(o:Nat)(v:Value):
   Sat w0 (w.setCell ⟨g,o,none⟩ v) (l1++ .blk g (cs.set o v)::l2):=by
 refine h.turn (d:= .blk g cs) (fun k _ hk=>Below.heap_setCell _ _ _ _ fun e=>hk (by rw [e];rfl)) rfl rfl rfl (by simp [World.setCell]) ?_ (fun _ h=> .inl h)
 obtain⟨T,hg⟩:=h.get
 refine⟨T,?_⟩
 simp [World.setCell,Array.getElem?_modify,hg]
theorem Ent.holds.row{s:Nat}{E:TypeId}{n:Int}(h:(Ent.own v s E n c).holds w):Row w v s n c:=by
 obtain⟨h0,h1,⟨rfl,rfl⟩|⟨g,cap,cur,rfl,hg,h2,h3,h4,h5⟩⟩:=h
 · exact⟨⟨h0,h1,_,_,rfl,.inl rfl⟩,fun k hk=>by rw [Int.zero_mul] at hk;omega⟩
 · refine⟨⟨h0,h1,_,_,rfl,.inr ⟨_,_,rfl⟩⟩,fun k hk=> ?_⟩
   simp [cad,World.cell?,hg,h5 k hk]
theorem Ent.holds.freeRow{s:Nat}{E:TypeId}{n:Int}(h:(Ent.own v s E n c).holds w)(k:Int):v=Oh\/w.frozen? (cad v k)=false:=by
 obtain⟨h0,h1,⟨rfl,rfl⟩|⟨g,cap,cur,rfl,hg,h2,h3,h4,h5⟩⟩:=h
 · exact .inl rfl
 · right;simp [cad,World.frozen?,hg]
theorem Ent.holds.congr{s:Nat}{E:TypeId}{n:Int}{d:Int->Value}(h:(Ent.own v s E n c).holds w)(e:∀k,0<=k->k<n*s->c k=d k):(Ent.own v s E n d).holds w:=by
 obtain⟨h0,h1,h|⟨g,cap,cur,rfl,hg,h2,h3,h4,h5⟩⟩:=h
 · exact⟨h0,h1,.inl h⟩
 · exact⟨h0,h1,.inr ⟨g,cap,cur,rfl,hg,h2,h3,h4,fun k hk=>by rw [h5 k hk,e k Oa hk]⟩⟩
theorem Sat.setOwn {l1 l2:List Ent} {s:Nat} {E:TypeId} {n:Int} (h:Sat w0 w (l1++ .own v s E n c::l2)) (k:Int) (h0:0<=k) (h1:k<n*s) (x:Value):
   Sat w0 (w.setCell (cad v k) x) (l1++ .own v s E n (upd c k x)::l2):=by
 obtain⟨j,rfl⟩:=Int.eq_ofNat_of_zero_le h0
 obtain⟨hn0,hn1,⟨rfl,rfl⟩|⟨g,cap,cur,rfl,hg,h2,h3,h4,h5⟩⟩:=h.get
 · rw [Int.zero_mul] at h1;omega
 · refine h.turn (fun k _ hk=>Below.heap_setCell _ _ _ _ fun e=>hk (by rw [e];simp [Ent.has,Value.ownBlock,cad])) rfl rfl rfl (by simp [World.setCell]) ?_ (fun _ h=> .inl h)
   refine⟨hn0,hn1,.inr ⟨g,cap,cur.setIfInBounds j x,rfl,?_,h2,h3,by simp [h4],fun i hi=> ?_⟩⟩
   · simp [World.setCell,Array.getElem?_modify,hg,cad]
   · have hj:=h5 j h1
     have hjl:=(Array.getElem?_eq_some_iff.1 hj).1
     rw [Array.getElem?_setIfInBounds]
     by_cases e:j=i
     · subst e;simp [upd,hjl]
     · rw [if_neg e,h5 i hi]
       simp only [upd]
       rw [if_neg Oa]
def cellsOf(c:Int->Value)(m:Nat):List Value:=(List.range m).map fun(k:Nat)=>c (k:Int)
theorem cellsOf_get(c:Int->Value)(m k:Nat):(cellsOf c m)[k]? =if k<m then some (c k) else none:=by
 unfold cellsOf
 by_cases h:k<m
 · simp [h]
 · simp [h]
theorem YB(c:Int->Value)(m:Nat):(cellsOf c m).length=m:=by simp [cellsOf]
theorem Ent.holds.owns{s:Nat}{E:TypeId}{n:Int}(h:(Ent.own v s E n c).holds w)(base:Nat)(hb:∀g,v.ownBlock=some g->base<=g):
   w.ownsRow base E s v n.toNat (cellsOf c (n.toNat*s)):=by
 obtain⟨h0,h1,⟨rfl,rfl⟩|⟨g,cap,cur,rfl,hg,h2,h3,h4,h5⟩⟩:=h
 · exact⟨by simp [cellsOf],.inl ⟨rfl,rfl⟩⟩
 · refine⟨by simp [cellsOf],.inr ⟨g,cap,cur,rfl,hb g rfl,hg,h2,h3,h4,?_⟩⟩
   have hle:n.toNat*s<=cur.size:=by rw [h4];exact Nat.mul_le_mul_right _ h2
   apply List.ext_getElem?
   intro k
   rw [cellsOf_get,List.getElem?_take]
   by_cases hk:k<n.toNat*s
   · have e:((n.toNat*s:Nat):Int)=n*s:=by rw [Int.natCast_mul,Int.toNat_of_nonneg h0]
     rw [if_pos hk,if_pos hk,Array.getElem?_toList,h5 k Oa]
   · rw [if_neg hk,if_neg hk]
theorem Ent.holds.of_owns{s:Nat}{E:TypeId}{n:Int}{base:Nat}(h0:0<=n)(h1:n<=140737488355328)(h:w.ownsRow base E s v n.toNat (cellsOf c (n.toNat*s))):(Ent.own v s E n c).holds w:=by
 obtain⟨_,⟨rfl,h⟩|⟨g,cap,cur,rfl,hb,hg,h2,h3,h4,h5⟩⟩:=h
 · exact⟨h0,h1,.inl ⟨rfl,Oa⟩⟩
 · refine⟨h0,h1,.inr ⟨g,cap,cur,rfl,hg,h2,h3,h4,fun k hk=> ?_⟩⟩
   have hk':k<n.toNat*s:=by
     have:((n.toNat*s:Nat):Int)=n*s:=by rw [Int.natCast_mul,Int.toNat_of_nonneg h0]
     omega
   have:=congrArg (fun l=>l[k]?) h5
   simp only [List.getElem?_take,cellsOf_get,hk',if_true,Array.getElem?_toList] at this
   exact this
end Go.Proofs.Gw
namespace Go.Proofs.Gw
open Go Go.RowKit
def ZG(P:Program)(T:TypeId):Bool:=
  match P.underlying T with
  |some (.struct _)|some (.array _ _)|none=>false
  |some _=>(P.info? T).map (·.size)==some 1
def Zx(P:Program)(T:TypeId):Option Nat:=
  match P.underlying T with
  |some (.struct _)=>(P.info? T).map (·.size)
  |_=>none
def Zv (P:Program) (T:TypeId) (f:Nat):Option Nat:=
  match P.underlying T with
  | some (.struct fs)=>match fs[f]? with
    | some d=>match P.info? d.type with
      |some i=>if i.size=0 then none else some d.offset
      |none=>none
    |none=>none
  |_=>none
def Zu(P:Program)(T:TypeId):Option (TypeId×Nat):=
  match P.underlying T with
  |some (.slice E)=>(P.info? E).map fun i=>(E,i.size)
  |_=>none
def ZN(P:Program)(E:TypeId):Option (Value×Nat×Nat):=
  match P.info? E with
  |some i=>i.zero.map fun z=>(z,i.size,i.bytes)
  |none=>none
def Zd(P:Program)(f:FuncId):Bool:=
  match P.funcs[f]? with
  |some fn=>fn.body.isSome&& !(fn.name== "runtime.NumGoroutine")
  |none=>false
section
variable {P:Program} {L:List (Nat×Value)} {w w0:World} {o:Oper} {x y z:Operand} {T T':TypeId}
theorem ZjO{v:Value}(ho:o.op= .move x)(hx:evL L x=some v):Runs P L w o (.value v) w:=fun ρ h=>by
 simp [execOp,ho,h x v hx]
theorem Zfl{v:Value}(ho:o.op= .assign x)(hx:evL L x=some v):Runs P L w o (.value v) w:=fun ρ h=>by
 simp [execOp,ho,h x v hx]
theorem Zfj{v:Value}(ho:o.op= .pick x y z)(hx:evL L x=some (.bool true))(hy:evL L y=some v):Runs P L w o (.value v) w:=fun ρ h=>by
 simp [execOp,ho,h _ _ hx,h _ _ hy,asBool]
theorem Zfk{v:Value}(ho:o.op= .pick x y z)(hx:evL L x=some (.bool false))(hz:evL L z=some v):Runs P L w o (.value v) w:=fun ρ h=>by
 simp [execOp,ho,h _ _ hx,h _ _ hz,asBool]
section
variable {m n r:Int}
theorem Zl9(ho:o.op= .binOp .add T x y T')(hx:evL L x=some (.int Oi m))(hy:evL L y=some (.int Oi n))(e:r=m+n)(hr:I64 r):Runs P L w o (.value (.int Oi r)) w:=fun ρ h=>by
 subst e
 simp [execOp,ho,h _ _ hx,h _ _ hy,go_sem,Op.intArith,hr.wrap]
theorem ZlR(ho:o.op= .binOp .sub T x y T')(hx:evL L x=some (.int Oi m))(hy:evL L y=some (.int Oi n))(e:r=m-n)(hr:I64 r):Runs P L w o (.value (.int Oi r)) w:=fun ρ h=>by
 subst e
 simp [execOp,ho,h _ _ hx,h _ _ hy,go_sem,Op.intArith,hr.wrap]
theorem ZlX(ho:o.op= .binOp .mul T x y T')(hx:evL L x=some (.int Oi m))(hy:evL L y=some (.int Oi n))(e:r=m*n)(hr:I64 r):Runs P L w o (.value (.int Oi r)) w:=fun ρ h=>by
 subst e
 simp [execOp,ho,h _ _ hx,h _ _ hy,go_sem,Op.intArith,hr.wrap]
theorem ZlT(ho:o.op= .binOp .quo T x y T')(hx:evL L x=some (.int Oi m))(hy:evL L y=some (.int Oi n))(hn:n≠0)(e:r=m.tdiv n)(hr:I64 r):Runs P L w o (.value (.int Oi r)) w:=fun ρ h=>by
 subst e
 simp [execOp,ho,h _ _ hx,h _ _ hy,go_sem,Op.intDiv,hn,hr.wrap]
theorem ZlS(ho:o.op= .binOp .rem T x y T')(hx:evL L x=some (.int Oi m))(hy:evL L y=some (.int Oi n))(hn:n≠0)(e:r=m.tmod n):Runs P L w o (.value (.int Oi r)) w:=fun ρ h=>by
 subst e
 simp [execOp,ho,h _ _ hx,h _ _ hy,go_sem,Op.intDiv,hn]
theorem ZlW(ho:o.op= .unOp .neg T x)(hx:evL L x=some (.int Oi m))(e:r= -m)(hr:I64 r):Runs P L w o (.value (.int Oi r)) w:=fun ρ h=>by
 subst e
 have:=hr.wrap
 simp [execOp,ho,h _ _ hx,Op.unary,Op.intArith,this]
variable {k:IntKind}
theorem Zl0(ho:o.op= .binOp .lss T x y T')(hx:evL L x=some (.int k m))(hy:evL L y=some (.int k n)):Runs P L w o (.value (B (m<n))) w:=fun ρ h=>by
 rw [<-KN];simp [execOp,ho,h _ _ hx,h _ _ hy,go_sem]
theorem Zl2(ho:o.op= .binOp .leq T x y T')(hx:evL L x=some (.int k m))(hy:evL L y=some (.int k n)):Runs P L w o (.value (B (m<=n))) w:=fun ρ h=>by
 rw [<-KN];simp [execOp,ho,h _ _ hx,h _ _ hy,go_sem]
theorem Zl4(ho:o.op= .binOp .gtr T x y T')(hx:evL L x=some (.int k m))(hy:evL L y=some (.int k n)):Runs P L w o (.value (B (n<m))) w:=fun ρ h=>by
 rw [<-KN];simp [execOp,ho,h _ _ hx,h _ _ hy,go_sem]
theorem Zl5(ho:o.op= .binOp .geq T x y T')(hx:evL L x=some (.int k m))(hy:evL L y=some (.int k n)):Runs P L w o (.value (B (n<=m))) w:=fun ρ h=>by
 rw [<-KN];simp [execOp,ho,h _ _ hx,h _ _ hy,go_sem]
theorem ZkF(m n:Int):(m==n)=decide (m=n):=by
 rw [Bool.eq_iff_iff];simp
theorem ZkE(m n:Int):(m !=n)=decide (m≠n):=by
 rw [Bool.eq_iff_iff];simp
theorem Zl6(ho:o.op= .binOp .eql T x y T')(hx:evL L x=some (.int k m))(hy:evL L y=some (.int k n)):Runs P L w o (.value (B (m=n))) w:=fun ρ h=>by
 rw [<-KN];simp [execOp,ho,h _ _ hx,h _ _ hy,go_sem,ZkF]
theorem ZlV(ho:o.op= .binOp .neq T x y T')(hx:evL L x=some (.int k m))(hy:evL L y=some (.int k n)):Runs P L w o (.value (B (m≠n))) w:=fun ρ h=>by
 rw [<-KN];simp [execOp,ho,h _ _ hx,h _ _ hy,go_sem,ZkE]
theorem ZlU{p:Prop}(ho:o.op= .unOp .not T x)(hx:evL L x=some (B p)):Runs P L w o (.value (B (¬p))) w:=fun ρ h=>by
 have e:Op.unary .not (B p)=pure (B (¬p)):=by
   by_cases hp:p
   · rw [ZQ hp,ZA (fun h=>h hp)];rfl
   · rw [ZA hp,ZQ hp];rfl
 simp [execOp,ho,h _ _ hx,e]
theorem Zg9(ho:o.op= .unOp .not T x)(hx:evL L x=some (.bool true)):Runs P L w o (.value (.bool false)) w:=fun ρ h=>by
 simp [execOp,ho,h _ _ hx,Op.unary]
theorem Zha(ho:o.op= .unOp .not T x)(hx:evL L x=some (.bool false)):Runs P L w o (.value (.bool true)) w:=fun ρ h=>by
 simp [execOp,ho,h _ _ hx,Op.unary]
theorem ZlZ{ts:Array TypeId}(ho:o.op= .call {callee:= .builtin .max,args:= #[x,y],argTypes:=ts})(hx:evL L x=some (.int k m))(hy:evL L y=some (.int k n))(e:r=max m n):Runs P L w o (.value (.int k r)) w:=fun ρ h=>by
 subst e
 have:(if n>m then n else m)=max m n:=by rw [Int.max_def];split<;>split<;>omega
 simp [execOp,ho,resolve,invoke,builtin,h _ _ hx,h _ _ hy,Builtin.max_,Builtin.max2,this]
theorem ZlY{ts:Array TypeId}(ho:o.op= .call {callee:= .builtin .min,args:= #[x,y],argTypes:=ts})(hx:evL L x=some (.int k m))(hy:evL L y=some (.int k n))(e:r=min m n):Runs P L w o (.value (.int k r)) w:=fun ρ h=>by
 subst e
 have:(if n<m then n else m)=min m n:=by rw [Int.min_def];split<;>split<;>omega
 simp [execOp,ho,resolve,invoke,builtin,h _ _ hx,h _ _ hy,Builtin.min_,Builtin.min2,this]
end
theorem Zr{T E:TypeId}{s:Nat}(h:Zu P T=some (E,s)):P.underlying T=some (.slice E)/\∃i,P.info? E=some i/\i.size=s:=by
 unfold Zu at h
 split at h
 · rename_i E' hu
   cases hi:P.info? E' with
   |none=>simp [hi] at h
   |some i=>simp [hi] at h;obtain⟨rfl,rfl⟩:=h;exact⟨hu,i,hi,rfl⟩
 · cases h
theorem Zl3{v:Value}{n:Int}{E:TypeId}{s:Nat}(ho:o.op= .call {callee:= .builtin .len,args:= #[x],argTypes:= #[T]})(ht:Zu P T=some (E,s))(hx:evL L x=some v)(hv:Slh v n):
   Runs P L w o (.value (.int Oi n)) w:=fun ρ h=>by
 obtain⟨hu,_⟩:=Zr ht
 obtain⟨h0,h1,a,cap,rfl,_⟩:=hv
 have e:goInt (max n 0)= .int Oi n:=by rw [Int.max_eq_left h0];rfl
 simp [execOp,ho,resolve,invoke,builtin,h _ _ hx,Builtin.len_,run_underlying hu,e]
theorem Addr.add_eq(a:Addr)(h:a.spot=none)(k:Nat):a.add k=⟨a.block,a.off+k,none⟩:=by
 unfold Addr.add
 split
 · rename_i e;subst e;cases a;simp at h;simp [h]
 · rfl
theorem Zhb{v:Value}{n i k:Int}{E:TypeId}{s:Nat}(ho:o.op= .indexAddr T x y)(ht:Zu P T=some (E,s))(hx:evL L x=some v)(hy:evL L y=some (.int Oi i))(hv:Slh v n)(h0:0<=i)(h1:i<n)(e:k=i*s):
   Runs P L w o (.value (.pointer (some (cad v k)))) w:=fun ρ h=>by
 subst e
 obtain⟨hu,inf,hi,rfl⟩:=Zr ht
 obtain⟨hn,_,a,cap,rfl,hz|⟨b,off,rfl⟩⟩:=hv
 · omega
 · have hlt:¬max n 0<=i:=Oa
   have je:(i*(inf.size:Int)).toNat=i.toNat*inf.size:=by
     obtain⟨j,rfl⟩:=Int.eq_ofNat_of_zero_le h0
     rw [<-Int.natCast_mul];exact Int.toNat_natCast _
   simp [execOp,ho,h _ _ hx,h _ _ hy,Instr.indexAt,run_underlying hu,asIntOf,sizeOf,typeInfo,hi,cad,Addr.add_eq,je,h0]
   exact fun h=>absurd h hlt
theorem Zch {T:TypeId} {f off:Nat} (h:Zv P T f=some off):∃(fs:Array Field) (d:Field) (i:TypeInfo),P.underlying T=some (.struct fs)/\fs[f]? =some d/\P.info? d.type=some i/\i.size≠0/\d.offset=off:=by
 unfold Zv at h
 split at h
 · rename_i fs hu
   split at h
   · rename_i d hd
     split at h
     · rename_i i hi
       split at h
       · cases h
       · rename_i hs;cases h;exact⟨fs,d,i,hu,hd,hi,hs,rfl⟩
     · cases h
   · cases h
 · cases h
theorem Zco{a b:Addr}{f off:Nat}(ho:o.op= .fieldAddr T x f)(ht:Zv P T f=some off)(hx:evL L x=some (.pointer (some a)))(ha:a.add off=b):
   Runs P L w o (.value (.pointer (some b))) w:=fun ρ h=>by
 subst ha
 obtain⟨fs,d,i,hu,hd,hi,hs,rfl⟩:=Zch ht
 simp [execOp,ho,h _ _ hx,Instr.fieldAt,run_underlying hu,hd,Instr.sureAddr,fieldPlace,sizeOf,typeInfo,hi,hs]
theorem Zez{v:Value}{n:Int}(hv:Slh v n){k:Int}(h0:0<=k)(hn:0<n)(off:Nat):(cad v k).add off=cad v (k+off):=by
 obtain⟨_,_,a,cap,rfl,hz|⟨b,o,rfl⟩⟩:=hv
 · omega
 · rw [Addr.add_eq _ rfl]
   have:(k+off).toNat=k.toNat+off:=Oa
   simp [cad,this,Nat.add_assoc]
theorem XJ{T:TypeId}(h:ZG P T=true):(∃d,P.underlying T=some d/\(isAgg T).run P w= .ok false w)/\∃i,P.info? T=some i/\i.size=1:=by
 unfold ZG at h
 split at h
 · cases h
 · cases h
 · cases h
 · rename_i d h1 h2 hu
   refine⟨⟨d,hu,?_⟩,?_⟩
   · unfold isAgg
     rw [Sem.run_bind,run_underlying hu,Result.andThen_ok]
     cases d<;>first|rfl|(exact absurd rfl (h1 _))|(exact absurd rfl (h2 _ _))
   · cases hi:P.info? T with
     |none=>simp [hi] at h
     |some i=>simp [hi] at h;exact⟨i,rfl,h⟩
theorem ZaG{a:Addr}{v:Value}(ho:o.op= .load T x)(ht:ZG P T=true)(hx:evL L x=some (.pointer (some a)))(hc:w.cell? a=some v):Runs P L w o (.value v) w:=fun ρ h=>by
 obtain⟨⟨d,hu,hA⟩,_⟩:=XJ (w:=w) ht
 simp [execOp,ho,h _ _ hx,Instr.loadAt,Instr.sureAddr,loadVar,hA,hc]
theorem Xh{T:TypeId}{n:Nat}(h:Zx P T=some n):(isAgg T).run P w= .ok true w/\(sizeOf T).run P w= .ok n w:=by
 unfold Zx at h
 split at h
 · rename_i fs hu
   cases hi:P.info? T with
   |none=>simp [hi] at h
   | some i=>
     simp [hi] at h;subst h
     exact⟨by unfold isAgg;rw [Sem.run_bind,run_underlying hu];rfl,by simp [sizeOf,typeInfo,hi]⟩
 · cases h
theorem V8{a:Addr}{cs:List Value}(ho:o.op= .load T x)(ht:Zx P T=some cs.length)(hx:evL L x=some (.pointer (some a)))(hc:∀j v,cs[j]? =some v->w.cell? (a.add j)=some v):Runs P L w o (.value (.agg cs.toArray)) w:=fun ρ h=>by
 obtain⟨h1,h2⟩:=Xh (w:=w) ht
 simp [execOp,ho,h _ _ hx,Instr.loadAt,Instr.sureAddr,loadVar,h1,h2,run_loadCells_list (P:=P) w a cs hc]
theorem Ent.holds.cells{g:Nat}{cs:List Value}(h:(Ent.blk g cs).holds w):∀j v,cs[j]? =some v->w.cell? ((⟨g,0,none⟩:Addr).add j)=some v:=fun j v hv=>by
 rw [Addr.add_eq _ rfl]
 have:=h.cell hv
 simpa using this
theorem T6{a:Addr}{v u:Value}(ho:o.op= .store T x y)(ht:ZG P T=true)(hx:evL L x=some (.pointer (some a)))(hy:evL L y=some v)(hv:v.oneCell'=true)(hc:w.cell? a=some u)(hf:w.frozen? a=false):
   Runs P L w o .skip (w.setCell a v):=fun ρ h=>by
 obtain⟨_,i,hi,hsz⟩:=XJ (w:=w) ht
 have hcs:v.cells= #[v]:=by cases v<;>first|rfl|(simp [Value.oneCell'] at hv)
 have dO:a.add 0=a:=by simp [Addr.add]
 simp [execOp,ho,h _ _ hx,h _ _ hy,Instr.storeAt,Instr.sureAddr,storeVar,sizeOf,typeInfo,hi,hsz,hcs,storeCells,dO,run_store P w a v _ hv,hc,hf]
theorem ZaD{l1 l2:List Ent}{g k:Nat}{cs:List Value}{v u:Value}(ho:o.op= .store T x y)(ht:ZG P T=true)(hS:Sat w0 w (l1++ .blk g cs::l2))(hx:evL L x=some (.pointer (some ⟨g,k,none⟩)))(hy:evL L y=some v)
   (hv:v.oneCell'=true) (hk:cs[k]? =some u):∃w',Runs P L w o .skip w'/\Sat w0 w' (l1++ .blk g (cs.set k v)::l2):=
 ⟨_,T6 ho ht hx hy hv (hS.get.cell hk) (hS.get.free k),hS.setBlk k v⟩
theorem ZaC{l1 l2:List Ent}{v u:Value}{s:Nat}{E:TypeId}{n k:Int}{c:Int->Value}(ho:o.op= .store T x y)(ht:ZG P T=true)(hS:Sat w0 w (l1++ .own v s E n c::l2))(hx:evL L x=some (.pointer (some (cad v k))))(hy:evL L y=some u)
   (hv:u.oneCell'=true) (h0:0<=k) (h1:k<n*s):∃w',Runs P L w o .skip w'/\Sat w0 w' (l1++ .own v s E n (upd c k u)::l2):=by
 refine⟨_,T6 ho ht hx hy hv (hS.get.row.cell h0 h1) ?_,hS.setOwn k h0 h1 u⟩
 rcases hS.get.freeRow k with h|h
 · obtain⟨_,_,⟨_,rfl⟩|⟨g,cap,cur,rfl,_⟩⟩:=hS.get
   · rw [Int.zero_mul] at h1;omega
   · cases h
 · exact h
theorem TI (g:Nat) (E:TypeId):∀(vs:List Value) (k:Nat) (cur:List Value) (w:World),w.heap[g]? =some (.cells cur.toArray E (0,0))->k+vs.length<=cur.length->(∀v∈vs,v.oneCell'=true)->
   ∃w',(storeCells ⟨g,0,none⟩ vs k).run P w= .ok () w'/\w'.heap[g]? =some (.cells (cur.take k++vs++cur.drop (k+vs.length)).toArray E (0,0))/\(∀j,j≠g->w'.heap[j]? =w.heap[j]?)/\w'.tape=w.tape/\w'.os=w.os/\w'.output=w.output/\w'.heap.size=w.heap.size
 | [],k,cur,w,hg,hk,_=>⟨w,rfl,by simp [hg],fun _ _=>rfl,rfl,rfl,rfl,rfl⟩
 | v ::vs,k,cur,w,hg,hk,h1=>by
   simp only [List.length_cons] at hk
   have hv:=h1 v (by simp)
   have hlt:k<cur.length:=Oa
   have hc:w.cell? ⟨g,k,none⟩=some cur[k]:=by simp [World.cell?,hg,hlt]
   have hf:w.frozen? ⟨g,k,none⟩=false:=by simp [World.frozen?,hg]
   have hg':(w.setCell ⟨g,k,none⟩ v).heap[g]? =some (.cells (cur.set k v).toArray E (0,0)):=by simp [World.setCell,Array.getElem?_modify,hg]
   obtain⟨w',h2,h3,h4,h5,h6,h7,h8⟩:=TI g E vs (k+1) (cur.set k v) (w.setCell ⟨g,k,none⟩ v) hg' (by simp;omega) (fun u hu=>h1 u (by simp [hu]))
   refine⟨w',?_,?_,fun j hj=> ?_,h5,h6,h7,?_⟩
   · have e0:(⟨g,0,none⟩:Addr).add k=⟨g,k,none⟩:=by rw [Addr.add_eq _ rfl];simp
     simp only [storeCells,Sem.run_bind,e0]
     rw [run_store P w _ v _ hv,hc]
     simp only [hf]
     exact h2
   · rw [h3]
     congr 3
     have e1:(cur.set k v).take (k+1)=cur.take k++ [v]:=by
       rw [List.take_set,List.take_succ_eq_append_getElem hlt,List.set_append_right _ _ (by simp;omega)]
       simp [Nat.min_eq_left (Nat.le_of_lt hlt)]
     have e2:(cur.set k v).drop (k+1+vs.length)=cur.drop (k+(v::vs).length):=by
       rw [List.drop_set_of_lt Oa];congr 1;simp;omega
     rw [e1,e2];simp
   · rw [h4 j hj];exact Below.heap_setCell _ _ _ _ hj
   · rw [h8];simp [World.setCell]
theorem Yq{E:TypeId}{z:Value}{s b:Nat}(h:ZN P E=some (z,s,b)):∃i,P.info? E=some i/\i.zero=some z/\i.size=s/\i.bytes=b:=by
 unfold ZN at h
 split at h
 · rename_i i hi
   cases hz:i.zero with
   |none=>simp [hz] at h
   |some z'=>simp [hz] at h;obtain⟨rfl,rfl,rfl⟩:=h;exact⟨i,hi,hz,rfl,rfl⟩
 · cases h
theorem Zl7{l:List Ent}{v:Value}{cs:List Value}(ho:o.op= .box T x)(hS:Sat w0 w l)(hx:evL L x=some v)(hc:v.cells=cs.toArray):
   ∃u w',Runs P L w o (.value u) w'/\∃g,u= Or g/\Sat w0 w' (l++ [.blk g cs]):=by
 refine⟨_,w.alloc (.cells cs.toArray T),fun ρ h=> ?_,w.heap.size,rfl,hS.box cs T⟩
 simp [execOp,ho,h _ _ hx,Instr.box,newVar,newRow,hc]
theorem Zhe{l:List Ent}{z:Value}{s b:Nat}{cs:List Value}(ho:o.op= .alloc T)(ht:ZN P T=some (z,s,b))(hS:Sat w0 w l)(hc:z.cells=cs.toArray):
   ∃u w',Runs P L w o (.value u) w'/\∃g,u= Or g/\Sat w0 w' (l++ [.blk g cs]):=by
 refine⟨_,w.alloc (.cells cs.toArray T),fun ρ h=> ?_,w.heap.size,rfl,hS.box cs T⟩
 obtain⟨i,hi,hz,_⟩:=Yq ht
 simp [execOp,ho,Instr.alloc,zeroValue,typeInfo,hi,hz,newVar,newRow,hc]
theorem Zam{w:World}{E:TypeId}{s:Nat}{n:Int}{c:Int->Value}{cur:Array Value}(h0:0<=n)(h1:n<=140737488355328)(hs:cur.size=n.toNat*s)(hc:∀k:Nat,(k:Int)<n*s->cur[k]? =some (c k)):
   (Ent.own (.slice (some ⟨w.heap.size,0,none⟩) n.toNat n.toNat) s E n c).holds (w.alloc (.cells cur E)):=
 ⟨h0,h1,.inr ⟨_,_,_,rfl,heap_alloc_new w _,Nat.le_refl _,by unfold maxLen;omega,hs,hc⟩⟩
theorem ZjP{l:List Ent}{E:TypeId}{s b:Nat}{n:Int}{zv:Value}(ho:o.op= .makeSlice T x y)(ht:Zu P T=some (E,s))(he:ZN P E=some (zv,s,b))(hz:zv.cells= #[zv])(hs:s=1)(hS:Sat w0 w l)
   (hx:evL L x=some (.int Oi n)) (hy:evL L y=some (.int Oi n)) (h0:0<=n) (hb:b*n<=140737488355328) (h1:n<=140737488355328):
   ∃u w',Runs P L w o (.value u) w'/\Sat w0 w' (l++ [.own u s E n (fun _=>zv)])/\Slh u n:=by
 subst hs
 obtain⟨hu,_⟩:=Zr ht
 obtain⟨i,hi,hzz,hsz,hby⟩:=Yq he
 · have yp:∀w:World,(Instr.makeSlice T (.int Oi n) (.int Oi n)).run P w= .ok (.slice (some ⟨w.heap.size,0,none⟩) n.toNat n.toNat) (w.alloc (.cells (madeCells zv.cells (n.toNat*i.size)) E)):=fun w=>
     run_make w T E i zv hu hi hzz .i64 .i64 n n h0 (Int.le_refl _) (by rw [hby];omega) Oa
   refine⟨_,w.alloc (.cells (madeCells zv.cells (n.toNat*i.size)) E),fun ρ h=> ?_,hS.alloc _ (Zam (s:=1) h0 h1 (by simp [madeCells,hsz]) ?_) ?_,⟨h0,h1,_,_,rfl,.inr ⟨_,_,rfl⟩⟩⟩
   · simp [execOp,ho,h _ _ hx,h _ _ hy,yp]
   · intro k hk
     have:k<n.toNat*i.size:=by rw [hsz];omega
     rw [hz]
     simp [madeCells,this,Nat.mod_one]
   · intro g hg;simp [Ent.has,Value.ownBlock] at hg;exact hg.symm
theorem Zl1{l:List Ent}{E:TypeId}{s b len:Nat}{parts:Array (Nat×Operand)}{pv:List (Nat×Value)}{cs:List Value}{n:Int}{c:Int->Value}{zv:Value}(ho:o.op= .buildSlice T len parts)(ht:Zu P T=some (E,s))(he:ZN P E=some (zv,s,b))(hS:Sat w0 w l)
   (hp:∀ρ,Agr L ρ->(parts.toList.map fun x=>(x.1,ρ x.2))=pv) (hf:Instr.fill (fun i=>some (i*s,s)) ((Array.range (len*s)).map fun j=>zv.cells[j%zv.cells.size]!) pv=some cs.toArray)
   (hl:len*s<=16777216) (hl0:len*s≠0) (hn:n=len) (hcs:cs.length=len*s) (hc:∀k:Nat,(k:Int)<n*s->cs[k]? =some (c k)) (h1:n<=140737488355328):
   ∃u w',Runs P L w o (.value u) w'/\Sat w0 w' (l++ [.own u s E n c])/\Slh u n:=by
 obtain⟨hu,_⟩:=Zr ht
 obtain⟨i,hi,hzz,rfl,hby⟩:=Yq he
 have e:n.toNat=len:=Oa
 refine⟨.slice (some ⟨w.heap.size,0,none⟩) n.toNat n.toNat,w.alloc (.cells cs.toArray E),fun ρ h=> ?_,hS.alloc _ (Zam (s:=i.size) Oa h1 (by rw [e];simpa using hcs) (fun k hk=>by simpa using hc k hk)) ?_,⟨by omega,h1,_,_,rfl,.inr ⟨_,_,rfl⟩⟩⟩
 · have hp':=hp ρ h
   have bd:¬16777216<len*i.size:=Oa
   simp [execOp,ho,Instr.buildSlice,run_underlying hu,sizeOf,typeInfo,hi,hl0,bd,zeroValue,hzz,hp',hf,newRow,e]
 · intro g hg;simp [Ent.has,Value.ownBlock] at hg;exact hg.symm
theorem ZjQ{l:List Ent}{E:TypeId}{s:Nat}{c:Int->Value}(ho:o.op= .buildSlice T 0 #[])(ht:Zu P T=some (E,s))(hS:Sat w0 w l):
   ∃u w',Runs P L w o (.value u) w'/\Sat w0 w' (l++ [.own u s E 0 c])/\Slh u 0:=by
 obtain⟨hu,i,hi,rfl⟩:=Zr ht
 refine⟨.slice (some ⟨w.heap.size,0,none⟩) 0 0,w.alloc (.cells #[] E),fun ρ h=> ?_,hS.alloc _ (Zam (n:=0) (s:=i.size) Oa Oa (by simp) (fun k hk=>by rw [Int.zero_mul] at hk;omega)) ?_,⟨by omega,Oa,_,_,rfl,.inr ⟨_,_,rfl⟩⟩⟩
 · simp [execOp,ho,Instr.buildSlice,run_underlying hu,sizeOf,typeInfo,hi,Instr.fill,newRow]
   exact congrArg (fun c=>w.alloc (.cells c E)) (by simp [Array.range])
 · intro g hg;simp [Ent.has,Value.ownBlock] at hg;exact hg.symm
end
end Go.Proofs.Gw
namespace Go.Proofs.Gw
open Go Go.RowKit
section
variable {P:Program} {l:List Oper} {Q:Exit->Act->World->Prop} {a:Act} {w:World} {rest:List Oper} {o:Oper} {n:Nat} {ds:List Deferred} {L:List (Nat×Value)}
theorem Zly{d:Nat}{R:Value->World->Prop}(hF:Fr a n ds L)(hg:Want l L o true)(hd:o.dst=some d)(hdn:Nat.blt d n=true)(hr:∃v w',Runs P L w o (.value v) w'/\R v w')
   (K:∀v w',R v w'->∀a',Fr a' n ds ((d,v)::L)->wpList P l.toArray Q rest a' w'):wpList P l.toArray Q (o::rest) a w:=by
 obtain⟨v,w',hr,hR⟩:=hr
 exact ZgE hF hg hd hdn hr (K v w' hR)
theorem Zjt{R:World->Prop}(hF:Fr a n ds L)(hg:Want l L o true)(hd:o.dst=none)(hr:∃w',Runs P L w o .skip w'/\R w')
   (K:∀w',R w'->wpList P l.toArray Q rest a w'):wpList P l.toArray Q (o::rest) a w:=by
 obtain⟨w',hr,hR⟩:=hr
 exact Zlx hF hg hd hr (K w' hR)
theorem ZeG{p:Prop}{d:Nat}{G:Prop}(hF:Fr a n ds L)(hd:lk L d=some (B p))(ht:p->Fr a n ds ((d,.bool true)::L)->G)(hf:¬p->Fr a n ds ((d,.bool false)::L)->G):G:=by
 by_cases hp:p
 · exact ht hp (hF.known hd (ZQ hp))
 · exact hf hp (hF.known hd (ZA hp))
end
section
variable {P:Program} {L:List (Nat×Value)} {w w0:World} {o:Oper} {x y z:Operand} {T T':TypeId}
def UR(L:List (Nat×Value))(xs:Array Operand)(vs:List Value):Prop:=∀ρ,Agr L ρ->xs.map ρ=vs.toArray
theorem ZcE:UR L #[] []:=fun _ _=>by simp
theorem Wm{xs:List Operand}{v:Value}{vs:List Value}(hx:evL L x=some v)(h:UR L xs.toArray vs):UR L (x::xs).toArray (v::vs):=fun ρ hρ=>by
 have h1:=congrArg Array.toList (h ρ hρ)
 have h2:=hρ x v hx
 simp only [List.map_toArray] at h1⊢
 rw [List.map_cons,h2,h1]
theorem Zek{g:FuncId}{xs:Array Operand}{ts:Array TypeId}{vs:List Value}{cap:Array Value}{avs:Array Value}(ho:o.op= .call {callee:= .value x,args:=xs,argTypes:=ts})(hx:evL L x=some (.func (.func g) #[] cap))(ht:Zd P g=true)(ha:UR L xs vs)
   (e:vs.toArray++cap=avs):Runs P L w o (.enter g avs) w:=fun ρ h=>by
 subst e
 have h1:=ha ρ h
 unfold Zd at ht
 cases hf:P.funcs[g]? with
 |none=>simp [hf] at ht
 | some fn=>
   simp only [hf,Bool.and_eq_true,Bool.not_eq_true'] at ht
   obtain⟨hb,hn⟩:=ht
   have hb':fn.body≠none:=by intro e;rw [e] at hb;simp at hb
   have hn':fn.name≠ "runtime.NumGoroutine" :=by simpa using hn
   simp [execOp,ho,resolve,h _ _ hx,Deferred.ofValue,invoke,callFunc,hf,hn',hb',h1]
theorem Zdj{k:Nat}{vs:List Value}{v:Value}(ho:o.op= .extract x k)(hx:evL L x=some (.tuple vs.toArray))(hv:vs[k]? =some v):Runs P L w o (.value v) w:=fun ρ h=>by
 simp [execOp,ho,h _ _ hx,Instr.extract,hv]
theorem Zck{f:Fn}{vs:List Value}{xs:Array Operand}(ho:o.op= .makeFunc f #[] xs)(ha:UR L xs vs):Runs P L w o (.value (.func f #[] vs.toArray)) w:=fun ρ h=>by
 have h1:=ha ρ h
 simp [execOp,ho,Instr.makeFunc,h1]
theorem Zl8{r:Next}{w':World}(hs:∀cs b,o.op≠ .select cs b)(hx:(o.op.operands.toList.all fun x=>(evL L x).isSome)=true)(hr:(execOp (fun x=>(evL L x).getD undef) o).run P w= .ok r w'):Runs P L w o r w':=fun ρ h=>by
 rw [<-hr,execOp_congr o hs fun x hx'=> ?_]
 have:=List.all_eq_true.1 hx x (by simpa using hx')
 obtain⟨v,hv⟩:=Option.isSome_iff_exists.1 this
 rw [hv,h x v hv];rfl
theorem Zfw{s:Nat}{n m:Int}{c d:Int->Value}(h0:0<=n)(h1:0<=m):cellsOf c (n.toNat*s)++cellsOf d (m.toNat*s)=cellsOf (cat (n*s) c d) ((n+m).toNat*s):=by
 have e:(n+m).toNat*s=n.toNat*s+m.toNat*s:=by rw [<-Nat.add_mul];congr 1;omega
 have e':((n.toNat*s:Nat):Int)=n*s:=by rw [Int.natCast_mul,Int.toNat_of_nonneg h0]
 apply List.ext_getElem?
 intro k
 rw [List.getElem?_append,cellsOf_get,cellsOf_get,cellsOf_get,YB,e]
 by_cases hk:k<n.toNat*s
 · rw [if_pos hk,if_pos hk,if_pos Oa]
   simp only [cat];rw [if_pos Oa]
 · rw [if_neg hk]
   by_cases hk2:k<n.toNat*s+m.toNat*s
   · rw [if_pos Oa,if_pos hk2]
     simp only [cat];rw [if_neg Oa]
     congr 2;omega
   · rw [if_neg Oa,if_neg hk2]
theorem Uh(w:World)(base:Nat)(t e:TypeId)(i:TypeInfo)(z:Value)(size bytes:Nat)(ht:P.underlying t=some (.slice e))(hi:P.info? e=some i)(hz:i.zero=some z)
   (xZ:i.size=size) (hby:i.bytes=bytes) (hzs:z.cells.size=size) (hsz:0<size)
   (v:Value) (n:Nat) (xs:List Value) (yt:w.ownsRow base e size v n xs)
   (a:Addr) (m c:Nat) (news:List Value) (hl:news.length=m*size) (x4:∀j u,news[j]? =some u->w.cell? (a.add j)=some u) (h1:∀u∈news,u.oneCell'=true)
   (h63:n+m<=maxLen) (zI:(n+m)*bytes<=140737488355328) (yJ:base<=w.heap.size) (ty:TypeId):
   ∃ v' w',(Builtin.append_ #[t,t] ty #[v,.slice (some a) m c]).run P w= .ok v' w'/\w'.ownsRow base e size v' (n+m) (xs++news)/\w.grownBy w' v.ownBlock/\
     (v'.ownBlock=v.ownBlock\/∀g,v'.ownBlock=some g->w.heap.size<=g):=by
 obtain⟨v',w',hr,h2,h3,_⟩:=run_append_own (P:=P) w base t ty e i z size bytes ht hi hz xZ hby hzs hsz v n xs yt a m c news hl x4 h1 h63 zI yJ
 refine⟨v',w',hr,h2,h3,?_⟩
 rcases yt.2 with⟨rfl,rfl⟩|⟨g,cap,cur,rfl,hbg,hg,hnc,hcm,hcs,kc⟩
 · obtain⟨v2,w2,hr2,h4,_⟩:=run_append_own (P:=P) w w.heap.size t ty e i z size bytes ht hi hz xZ hby hzs hsz Oh 0 xs ⟨yt.1,.inl ⟨rfl,rfl⟩⟩ a m c news hl x4 h1 h63 zI (Nat.le_refl _)
   rw [hr] at hr2
   cases hr2
   exact .inr fun g hg=>(h4.lt g hg).1
 · subst xZ
   by_cases qC:n+m<=cap
   · have qR:n*i.size+news.length<=cur.size:=by rw [hl,hcs,<-Nat.add_mul];exact Nat.mul_le_mul_right _ qC
     have hr2:=run_append_room (P:=P) w t ty e i ht hi g n cap cur hg a m c news hl x4 h1 qC qR
     rw [hr] at hr2
     cases hr2
     exact .inl rfl
   · subst hby
     have gN:n+m<=9223372036854775807:=by simp only [maxLen] at h63;omega
     have holds:∀j u,xs[j]? =some u->w.cell? ((⟨g,0,none⟩:Addr).add j)=some u:=yt.cells (g:=g) rfl
     have hr2:=run_append_grow (P:=P) w t ty e i z ht hi hz ⟨g,0,none⟩ n cap xs yt.1 holds a m c news hl x4 Oa Oa (growslice_fits Oa zI)
     rw [hr] at hr2
     cases hr2
     exact .inr fun g hg=>by simp [Value.ownBlock] at hg;omega
theorem Apart.symm{d e:Ent}(h:Apart d e):Apart e d:=fun g he hd=>h g hd he
theorem Sat.perm{l m:List Ent}(h:Sat w0 w l)(hp:l.Perm m):Sat w0 w m:=
 ⟨h.below,fun e he=>h.holds e (hp.mem_iff.2 he),fun e he=>h.new e (hp.mem_iff.2 he),(hp.pairwise_iff (fun h=>Apart.symm h)).1 h.sep⟩
theorem Zfm {l1 l2:List Ent} {v u:Value} {E:TypeId} {s b:Nat} {n m:Int} {c d:Int->Value} {zv:Value} (ho:o.op= .call {callee:= .builtin .append,args:= #[x,y],argTypes:= #[T,T]}) (ht:Zu P T=some (E,s)) (he:ZN P E=some (zv,s,b)) (hz:zv.cells.size=s) (hs:0<s)
   (hS:Sat w0 w (l1++ .own v s E n c::l2)) (hx:evL L x=some v) (hy:evL L y=some u) (hu:Row w u s m d) (h1:∀k,0<=k->k<m*s->(d k).oneCell'=true) (hb:b*(n+m)<=140737488355328) (hnm:n+m<=140737488355328):
   ∃r w',Runs P L w o (.value r) w'/\Sat w0 w' (l1++ .own r s E (n+m) (cat (n*s) c d)::l2)/\Slh r (n+m):=by
 obtain⟨hut,_⟩:=Zr ht
 obtain⟨i,hi,hzz,hsz,hby⟩:=Yq he
 have hg:=hS.get
 obtain⟨hn0,hn1,_⟩:=hg
 have hm0:=hu.slh.n0
 have yt:=hS.get.owns w0.heap.size (fun g hg=>hS.new (.own v s E n c) (by simp) g hg)
 have en:n.toNat+m.toNat=(n+m).toNat:=Oa
 have eb:(n.toNat+m.toNat)*b<=140737488355328:=by
   have:(((n.toNat+m.toNat)*b:Nat):Int)=b*(n+m):=by rw [Int.natCast_mul,Int.natCast_add,Int.toNat_of_nonneg hn0,Int.toNat_of_nonneg hm0,Int.mul_comm]
   omega
 have key:∃r w',(∀(ty:TypeId),(Builtin.append_ #[T,T] ty #[v,u]).run P w= .ok r w')/\w'.ownsRow w0.heap.size E s r (n.toNat+m.toNat) (cellsOf c (n.toNat*s)++cellsOf d (m.toNat*s))/\w.grownBy w' v.ownBlock/\(r.ownBlock=v.ownBlock\/∀g,r.ownBlock=some g->w.heap.size<=g):=by
   obtain⟨_,hm1,a,cap,rfl,h⟩:=hu.slh
   have hcl:(cellsOf d (m.toNat*s)).length=m.toNat*s:=YB _ _
   cases a with
   | some ad=>
     have dL:∀j t,(cellsOf d (m.toNat*s))[j]? =some t->w.cell? (ad.add j)=some t:=by
       intro j t hj
       rw [cellsOf_get] at hj
       split at hj
       · rename_i hlt
         have e':((m.toNat*s:Nat):Int)=m*s:=by rw [Int.natCast_mul,Int.toNat_of_nonneg hm0]
         have:=hu.2 j Oa
         cases hj
         rw [<-this]
         rcases h with h|⟨b',off,h⟩
         · subst h;simp at hlt
         · cases h;rw [Addr.add_eq _ rfl];simp [cad]
       · cases hj
     have qk:∀t∈cellsOf d (m.toNat*s),t.oneCell'=true:=by
       intro t ht
       obtain⟨j,hj⟩:=List.getElem?_of_mem ht
       rw [cellsOf_get] at hj
       split at hj
       · rename_i hlt
         have e':((m.toNat*s:Nat):Int)=m*s:=by rw [Int.natCast_mul,Int.toNat_of_nonneg hm0]
         cases hj;exact h1 j Oa Oa
       · cases hj
     obtain⟨r,w',hr,h2,h3,h4⟩:=Uh (P:=P) w w0.heap.size T E i zv s b hut hi hzz hsz hby hz hs v n.toNat _ yt ad m.toNat cap _ hcl dL qk (by unfold maxLen;omega) eb hS.size 0
     refine⟨r,w',fun ty=> ?_,h2,h3,h4⟩
     rw [<-hr];rfl
   | none=>
     have hm:m=0:=by rcases h with h|⟨_,_,h⟩;exact h;cases h
     subst hm
     refine⟨v,w,fun ty=> ?_,by simpa [cellsOf] using yt,⟨rfl,rfl,rfl,Nat.le_refl _,fun _ _ _=>rfl⟩,.inl rfl⟩
     obtain⟨_,⟨rfl,_⟩|⟨g,cp,cur,rfl,_,hg,hnc,_⟩⟩:=yt
     · simp [Builtin.append_,run_underlying hut,sizeOf,typeInfo,hi,Builtin.lenOf,Builtin.firstCells]
     · simp [Builtin.append_,run_underlying hut,sizeOf,typeInfo,hi,Builtin.lenOf,Builtin.firstCells,hnc,storeCells]
 obtain⟨r,w',hr,h2,h3,h4⟩:=key
 rw [Zfw hn0 hm0,en] at h2
 have hE:(Ent.own r s E (n+m) (cat (n*s) c d)).holds w':=Ent.holds.of_owns Oa hnm h2
 refine⟨r,w',fun ρ h=> ?_,?_,hE.row.slh⟩
 · simp [execOp,ho,resolve,invoke,builtin,h _ _ hx,h _ _ hy,hr]
 · exact hS.turn (fun k hl hk=>h3.block k hl (fun e=>hk e.symm)) h3.tape h3.os h3.output h3.size hE (fun g hg=>by
     simp only [Ent.has] at hg⊢
     rcases h4 with h4|h4
     · exact .inl (by rw [<-h4];exact hg)
     · exact .inr (h4 g hg))
end
end Go.Proofs.Gw
namespace Go.Proofs.Gw
open Go Go.RowKit
section
variable {P:Program} {ops:Array Oper} {Q:Exit->Act->World->Prop} {S A:World->Prop} {brk:Nat}
def SA(S A:World->Prop)(brk:Nat)(listed:Array Bool)(w:World):Prop:=(listed.getD brk false=false->S w)/\A w
def wpB (P:Program) (ops:Array Oper) (Q:Exit->Act->World->Prop) (S A:World->Prop) (brk:Nat):Nat->Array Bool->Act->World->Prop
  |0,listed,a,w=>Region.ready .any ops listed= []/\Q .normal a w
  | fuel+1,listed,a,w=>
    (Region.ready .any ops listed= []->Q .normal a w)/\
    ∀i∈Region.ready .any ops listed,wpOp P ops Q i (fun a' w'=>SA S A brk (listed.setIfInBounds i true) w'/\wpB P ops Q S A brk fuel (listed.setIfInBounds i true) a' w') a w
theorem Vt:∀(fuel:Nat) (listed:Array Bool) (a:Act) (w:World),wpB P ops Q S A brk fuel listed a w->wpAny P .any ops Q fuel listed a w
 |0,_,_,_,h=>h
 |fuel+1,_,_,_,h=>⟨h.1,fun i hi=>wpOp_mono (fun a' w' h'=>Vt fuel _ a' w' h'.2) (h.2 i hi)⟩
theorem Yp{listed:Array Bool}{i j:Nat}(b:Bool)(h:i≠j):(listed.setIfInBounds i true).getD j b=listed.getD j b:=by
 simp only [Array.getD_eq_getD_getElem?,Array.getElem?_setIfInBounds_ne h]
def Closed(ops:Array Oper)(listed:Array Bool):Prop:=
  listed.size=ops.size/\∀j oj,ops[j]? =some oj->listed.getD j false=true->∀e∈oj.after,Region.binds .any e=true->listed.getD e.on false=true
theorem Closed.start:Closed ops (Array.replicate ops.size false):=⟨by simp,fun j oj _ hl=>by
 rw [getD_replicate_false] at hl;cases hl⟩
theorem Closed.set{listed:Array Bool}{i:Nat}(h:Closed ops listed)(hi:i∈Region.ready .any ops listed):Closed ops (listed.setIfInBounds i true):=by
 obtain⟨_,oi,hoi,qa⟩:=mem_ready.1 hi
 refine⟨by simp [h.1],fun j oj hoj hl e he hb=> ?_⟩
 by_cases hij:i=j
 · subst hij
   have:oj=oi:=Option.some.inj (hoj.symm.trans hoi)
   subst this
   exact getD_set_true (qa e he hb)
 · rw [Yp false hij] at hl
   exact getD_set_true (h.2 j oj hoj hl e he hb)
def KZ(ops:Array Oper)(brk i:Nat):Bool:=
  Region.waitsFor .any ops brk i||(List.range ops.size).any fun m=>Region.waitsFor .any ops brk m&&(Region.waitsFor .any ops m i||(List.range ops.size).any fun m'=>Region.waitsFor .any ops m m'&&Region.waitsFor .any ops m' i)
theorem Closed.wait{listed:Array Bool}(h:Closed ops listed){j i:Nat}(hw:Region.waitsFor .any ops j i=true)(hj:listed.getD j false=true):listed.getD i false=true:=by
 obtain⟨oj,hoj,e,he,hb,rfl⟩:=Region.waitsFor_spec hw
 exact h.2 j oj hoj hj e he hb
theorem Closed.waits{listed:Array Bool}(h:Closed ops listed){j i:Nat}(hw:KZ ops j i=true)(hj:listed.getD j false=true):listed.getD i false=true:=by
 unfold KZ at hw
 rw [Bool.or_eq_true] at hw
 rcases hw with hw|hw
 · exact h.wait hw hj
 · obtain⟨m,_,hm⟩:=List.any_eq_true.1 hw
   rw [Bool.and_eq_true,Bool.or_eq_true] at hm
   have h1:=h.wait hm.1 hj
   rcases hm.2 with h2|h2
   · exact h.wait h2 h1
   · obtain⟨m',_,hm'⟩:=List.any_eq_true.1 h2
     rw [Bool.and_eq_true] at hm'
     exact h.wait hm'.2 (h.wait hm'.1 h1)
theorem SA.up{listed:Array Bool}{w:World}{i:Nat}(h:SA S A brk listed w)(hib:i≠brk):SA S A brk (listed.setIfInBounds i true) w:=⟨fun hh=>h.1 (by rw [Yp false hib] at hh;exact hh),h.2⟩
theorem SA.down{listed:Array Bool}{w:World}{i:Nat}(h:SA S A brk (listed.setIfInBounds i true) w)(hib:i≠brk):SA S A brk listed w:=⟨fun hh=>h.1 (by rw [Yp false hib];exact hh),h.2⟩
theorem W6 {S':World->Prop} {i:Nat} {oi:Oper} {v:Value} (hi:ops[i]? =some oi) (eU:∀(j:Nat) (o:Oper) cs b,ops[j]? =some o->o.op≠ .select cs b)
   (hQ:∀c a w,Q (.panic c) (a.put oi.dst v) w->Q (.panic c) a w) (hib:i≠brk)
   (hk:∀(listed:Array Bool) (w:World),Closed ops listed->listed.getD i true=false->SA S A brk listed w->S' w):
   ∀ (fuel:Nat) (listed:Array Bool) (a:Act) (w:World),
     (∀j oj,ops[j]? =some oj->j≠i->listed.getD j true=false->(∀e∈oj.after,Region.binds .any e=true->e.on≠i)->oi.apart ops oj=true)->
     i∈Region.ready .any ops listed->YieldsIf P ops S' oi v a->Closed ops listed->SA S A brk listed w->
     wpB P ops Q S A brk fuel (listed.setIfInBounds i true) (a.put oi.dst v) w->wpB P ops Q S A brk (fuel+1) listed a w:=by
 intro fuel
 induction fuel with
 | zero=>
   intro listed a w _ hr hy hcl hS H
   refine⟨fun h=>(by rw [h] at hr;cases hr),fun j hj=> ?_⟩
   by_cases hji:j=i
   · subst hji;exact hy.wpOp hi (hk _ _ hcl (mem_ready.1 hr).1 hS) ⟨hS.up hib,H⟩
   · have:=ready_mono hj hji
     rw [H.1] at this
     cases this
 | succ fuel ih=>
   intro listed a w cF hr hy hcl hS H
   refine⟨fun h=>(by rw [h] at hr;cases hr),fun j hj=> ?_⟩
   by_cases hji:j=i
   · subst hji;exact hy.wpOp hi (hk _ _ hcl (mem_ready.1 hr).1 hS) ⟨hS.up hib,H⟩
   · have h1:=H.2 j (ready_mono hj hji)
     obtain⟨fu,oj,hoj,qa⟩:=mem_ready.1 hj
     have bd:∀e∈oj.after,Region.binds .any e=true->e.on≠i:=fun e he hb heq=>by
       have h1:=qa e he hb
       have h0:=(mem_ready.1 hr).1
       rw [heq] at h1
       rcases Nat.lt_or_ge i listed.size with h'|h'
       · simp [h'] at h0 h1;rw [h0] at h1;cases h1
       · simp [Array.getElem?_eq_none h'] at h1
     have h2:=wpOp_putIf hoj (cF j oj hoj hji fu bd) (fun cs b=>eU i oi cs b hi) (fun cs b=>eU j oj cs b hoj) hQ hy h1
     have dH:∀k ok,ops[k]? =some ok->k≠i->(listed.setIfInBounds j true).getD k true=false->
         (∀e∈ok.after,Region.binds .any e=true->e.on≠i)->oi.apart ops ok=true:=fun k ok hk hki hun hno=>by
       refine cF k ok hk hki ?_ hno
       by_cases hjk:j=k
       · subst hjk;exact fu
       · rw [getD_set_ne true hjk] at hun;exact hun
     have fJ:(listed.setIfInBounds i true).setIfInBounds j true=(listed.setIfInBounds j true).setIfInBounds i true:=Array.setIfInBounds_comm _ _ (Ne.symm hji)
     refine wpOp_mono (fun a' w' h3=> ?_) h2
     obtain⟨hy',hS',h4⟩:=h3
     rw [fJ] at hS' h4
     have hS2:SA S A brk (listed.setIfInBounds j true) w':=hS'.down hib
     exact⟨hS2,ih (listed.setIfInBounds j true) a' w' dH (ready_mono hr (Ne.symm hji)) hy' (hcl.set hj) hS2 h4⟩
theorem ZfT{listed:Array Bool}{a:Act}{w:World}(hr:Region.ready .any ops listed= [])(h:Q .normal a w):∀fuel,wpB P ops Q S A brk fuel listed a w
 |0=>⟨hr,h⟩
 |_+1=>⟨fun _=>h,by rw [hr];simp⟩
end
section
variable {P:Program} {l:List Oper} {Q:Exit->Act->World->Prop} {S A:World->Prop} {brk:Nat} {a:Act} {w:World} {n:Nat} {ds:List Deferred} {L:List (Nat×Value)} {o:Oper} {listed:Array Bool} {fuel i:Nat}
theorem Zht{id:Nat}(S A:World->Prop)(brk:Nat)(hm:P.follows .mixedOrders=true)(hS:S w.drew)(hA:A w.drew)(hn:l.length=fuel)
   (h:S w.drew->A w.drew->Closed l.toArray (Array.replicate fuel false)->wpB P l.toArray (NoPanic Q) S A brk fuel (Array.replicate fuel false) a w.drew):(Code.region id l.toArray true).wp P Q a w:=by
 subst hn
 refine wp_region_noPanic (wp_region_any hm ?_)
 have:=h hS hA (by have:=Closed.start (ops:=l.toArray);simpa using this)
 have h2:=Vt _ _ _ _ this
 simpa using h2
theorem XZ{v:Value}{dst:Option Tmp}:∀c (a:Act) (w:World),NoPanic Q (.panic c) (a.put dst v) w->NoPanic Q (.panic c) a w:=fun _ _ _ h=>h.elim
def Wy(l:List Oper)(listed:Array Bool)(i:Nat):Bool:=Region.noSelect l.toArray&&Region.free .any l.toArray listed i&&(Region.ready .any l.toArray listed).contains i
theorem Runs.yields(hF:Fr a n ds L){S':World->Prop}(hg:Want l L o true){v:Value}(hr:∀w,S' w->Runs P L w o (.value v) w):YieldsIf P l.toArray S' o v a:=
 .inl ⟨hg.wanted hF,fun w hS=>hr w hS _ hF.agr⟩
theorem WD(hc:Closed l.toArray listed)(hm:Wy l listed i=true):Closed l.toArray (listed.setIfInBounds i true):=by
 unfold Wy at hm
 rw [Bool.and_eq_true,Bool.and_eq_true] at hm
 exact hc.set (by simpa using hm.2)
theorem Zmm{d:Nat}{v:Value}(hF:Fr a n ds L)(hc:Closed l.toArray listed)(hS:SA S A brk listed w)(i:Nat)(hi:l[i]? =some o)(hg:Want l L o true)(hd:o.dst=some d)(hdn:Nat.blt d n=true)(hm:Wy l listed i=true)(hib:Nat.beq i brk=false)
   (hr:∀w,Runs P L w o (.value v) w)
   (K:∀a',Fr a' n ds ((d,v)::L)->Closed l.toArray (listed.setIfInBounds i true)->SA S A brk (listed.setIfInBounds i true) w->wpB P l.toArray (NoPanic Q) S A brk fuel (listed.setIfInBounds i true) a' w):wpB P l.toArray (NoPanic Q) S A brk (fuel+1) listed a w:=by
 have yw:i≠brk:=fun e=>by subst e;simp at hib
 have hc2:=WD hc hm
 unfold Wy at hm
 rw [Bool.and_eq_true,Bool.and_eq_true] at hm
 have hi':l.toArray[i]? =some o:=by simpa using hi
 refine W6 (S':=fun _=>True) hi' (Region.noSelect_spec hm.1.1) XZ yw (fun _ _ _ _ _=>trivial) fuel listed a w (Region.free_spec hi' hm.1.2) (by simpa using hm.2) (Runs.yields hF hg fun w _=>hr w) hc hS ?_
 have:=K _ (hF.put (by simpa [Nat.blt_eq] using hdn) v) hc2 (hS.up yw)
 rw [hd];exact this
theorem Zmn{d:Nat}(hF:Fr a n ds L)(hc:Closed l.toArray listed)(hS:SA S A brk listed w)(i:Nat)(hi:l[i]? =some o)(hg:Want l L o false)(hd:o.dst=some d)(hdn:Nat.blt d n=true)(hm:Wy l listed i=true)(hib:Nat.beq i brk=false)
   (K:∀a',Fr a' n ds ((d,undef)::L)->Closed l.toArray (listed.setIfInBounds i true)->SA S A brk (listed.setIfInBounds i true) w->wpB P l.toArray (NoPanic Q) S A brk fuel (listed.setIfInBounds i true) a' w):wpB P l.toArray (NoPanic Q) S A brk (fuel+1) listed a w:=by
 have yw:i≠brk:=fun e=>by subst e;simp at hib
 have hc2:=WD hc hm
 unfold Wy at hm
 rw [Bool.and_eq_true,Bool.and_eq_true] at hm
 have hi':l.toArray[i]? =some o:=by simpa using hi
 refine W6 (S':=fun _=>True) hi' (Region.noSelect_spec hm.1.1) XZ yw (fun _ _ _ _ _=>trivial) fuel listed a w (Region.free_spec hi' hm.1.2) (by simpa using hm.2) (.inr ⟨hg.wanted hF,rfl⟩) hc hS ?_
 have:=K _ (hF.put (by simpa [Nat.blt_eq] using hdn) undef) hc2 (hS.up yw)
 rw [hd];exact this
theorem ZjT {d:Nat} {v:Value} (hF:Fr a n ds L) (hc:Closed l.toArray listed) (hS:SA S A brk listed w) (i:Nat) (hi:l[i]? =some o) (hg:Want l L o true) (hd:o.dst=some d) (hdn:Nat.blt d n=true) (hm:Wy l listed i=true) (hib:Nat.beq i brk=false)
   (hw:(Nat.ble l.length brk||KZ l.toArray brk i)=true) (hr:∀w,S w->Runs P L w o (.value v) w)
   (K:∀a',Fr a' n ds ((d,v)::L)->Closed l.toArray (listed.setIfInBounds i true)->SA S A brk (listed.setIfInBounds i true) w->wpB P l.toArray (NoPanic Q) S A brk fuel (listed.setIfInBounds i true) a' w):wpB P l.toArray (NoPanic Q) S A brk (fuel+1) listed a w:=by
 have yw:i≠brk:=fun e=>by subst e;simp at hib
 have hc2:=WD hc hm
 unfold Wy at hm
 rw [Bool.and_eq_true,Bool.and_eq_true] at hm
 have hi':l.toArray[i]? =some o:=by simpa using hi
 refine W6 (S':=S) hi' (Region.noSelect_spec hm.1.1) XZ yw (fun ls w' hcl hun hSw=>hSw.1 ?_) fuel listed a w (Region.free_spec hi' hm.1.2) (by simpa using hm.2) (Runs.yields hF hg hr) hc hS ?_
 · rw [Bool.or_eq_true] at hw
   rcases hw with hw|hw
   · have hb:l.length<=brk:=Nat.le_of_ble_eq_true hw
     have hsz:=hcl.1
     rw [Array.getD_eq_getD_getElem?,Array.getElem?_eq_none (by rw [hsz];simpa using hb)];rfl
   · cases hq:ls.getD brk false with
     |false=>rfl
     | true=>
       have h1:=hcl.waits hw hq
       rcases Nat.lt_or_ge i ls.size with h'|h'
       · simp [h'] at hun h1;rw [hun] at h1;cases h1
       · simp [Array.getElem?_eq_none h'] at h1
 have:=K _ (hF.put (by simpa [Nat.blt_eq] using hdn) v) hc2 (hS.up yw)
 rw [hd];exact this
theorem Zhu{d:Nat}{v:Value}(hF:Fr a n ds L)(hc:Closed l.toArray listed)(hS:SA S A brk listed w)(i:Nat)(hi:l[i]? =some o)(hg:Want l L o true)(hd:o.dst=some d)(hdn:Nat.blt d n=true)(hm:Wy l listed i=true)(hib:Nat.beq i brk=false)
   (hr:∀w,A w->Runs P L w o (.value v) w)
   (K:∀a',Fr a' n ds ((d,v)::L)->Closed l.toArray (listed.setIfInBounds i true)->SA S A brk (listed.setIfInBounds i true) w->wpB P l.toArray (NoPanic Q) S A brk fuel (listed.setIfInBounds i true) a' w):wpB P l.toArray (NoPanic Q) S A brk (fuel+1) listed a w:=by
 have yw:i≠brk:=fun e=>by subst e;simp at hib
 have hc2:=WD hc hm
 unfold Wy at hm
 rw [Bool.and_eq_true,Bool.and_eq_true] at hm
 have hi':l.toArray[i]? =some o:=by simpa using hi
 refine W6 (S':=A) hi' (Region.noSelect_spec hm.1.1) XZ yw (fun ls w' hcl hun hSw=>hSw.2) fuel listed a w (Region.free_spec hi' hm.1.2) (by simpa using hm.2) (Runs.yields hF hg hr) hc hS ?_
 have:=K _ (hF.put (by simpa [Nat.blt_eq] using hdn) v) hc2 (hS.up yw)
 rw [hd];exact this
theorem KY(hc:Closed l.toArray listed)(i:Nat)(hr:Region.ready .any l.toArray listed= [i])(h:Closed l.toArray (listed.setIfInBounds i true)->wpOp P l.toArray (NoPanic Q) i (fun a' w'=>SA S A brk (listed.setIfInBounds i true) w'/\wpB P l.toArray (NoPanic Q) S A brk fuel (listed.setIfInBounds i true) a' w') a w):
   wpB P l.toArray (NoPanic Q) S A brk (fuel+1) listed a w:=
 ⟨fun h0=>(by rw [hr] at h0;cases h0),fun j hj=>by
   rw [hr] at hj
   obtain rfl:=List.mem_singleton.1 hj
   exact h (hc.set (by rw [hr];exact hj))⟩
theorem Zmo{d:Nat}{R:Value->World->Prop}(hF:Fr a n ds L)(hc:Closed l.toArray listed)(i:Nat)(hi:l[i]? =some o)(hg:Want l L o true)(hd:o.dst=some d)(hdn:Nat.blt d n=true)(hrd:Region.ready .any l.toArray listed= [i])(hr:∃v w',Runs P L w o (.value v) w'/\R v w')
   (K:∀v w',R v w'->∀a',Fr a' n ds ((d,v)::L)->Closed l.toArray (listed.setIfInBounds i true)->SA S A brk (listed.setIfInBounds i true) w'/\(SA S A brk (listed.setIfInBounds i true) w'->wpB P l.toArray (NoPanic Q) S A brk fuel (listed.setIfInBounds i true) a' w')):wpB P l.toArray (NoPanic Q) S A brk (fuel+1) listed a w:=by
 refine KY hc i hrd fun hc2=> ?_
 obtain⟨v,w',hr,hR⟩:=hr
 have hi':l.toArray[i]? =some o:=by simpa using hi
 unfold wpOp
 rw [hi']
 simp only [hg.wanted hF,if_true]
 refine .inl ?_
 unfold Oper.wp
 rw [hr _ hF.agr,Oper.upon_value,hd]
 have hK:=K v w' hR _ (hF.put (by simpa [Nat.blt_eq] using hdn) v) hc2
 exact⟨hK.1,hK.2 hK.1⟩
theorem ZjV{R:World->Prop}(hF:Fr a n ds L)(hc:Closed l.toArray listed)(i:Nat)(hi:l[i]? =some o)(hg:Want l L o true)(hd:o.dst=none)(hrd:Region.ready .any l.toArray listed= [i])(hr:∃w',Runs P L w o .skip w'/\R w')
   (K:∀w',R w'->Closed l.toArray (listed.setIfInBounds i true)->SA S A brk (listed.setIfInBounds i true) w'/\(SA S A brk (listed.setIfInBounds i true) w'->wpB P l.toArray (NoPanic Q) S A brk fuel (listed.setIfInBounds i true) a w')):wpB P l.toArray (NoPanic Q) S A brk (fuel+1) listed a w:=by
 refine KY hc i hrd fun hc2=> ?_
 obtain⟨w',hr,hR⟩:=hr
 have hi':l.toArray[i]? =some o:=by simpa using hi
 unfold wpOp
 rw [hi']
 simp only [hg.wanted hF,if_true]
 refine .inl ?_
 unfold Oper.wp
 rw [hr _ hF.agr,Oper.upon_skip,hd]
 have hK:=K w' hR hc2
 exact⟨hK.1,hK.2 hK.1⟩
theorem ZjX{d:Nat}{f:FuncId}{args:Array Value}{R:Value->World->Prop}(hF:Fr a n ds L)(hc:Closed l.toArray listed)(i:Nat)(hi:l[i]? =some o)(hg:Want l L o true)(hd:o.dst=some d)(hdn:Nat.blt d n=true)(hrd:Region.ready .any l.toArray listed= [i])(hr:Runs P L w o (.enter f args) w)
   (qS:Calls P f args w fun e w'=>∃v,e= .returned v/\R v w')
   (K:∀v w',R v w'->∀a',Fr a' n ds ((d,v)::L)->Closed l.toArray (listed.setIfInBounds i true)->SA S A brk (listed.setIfInBounds i true) w'/\(SA S A brk (listed.setIfInBounds i true) w'->wpB P l.toArray (NoPanic Q) S A brk fuel (listed.setIfInBounds i true) a' w')):wpB P l.toArray (NoPanic Q) S A brk (fuel+1) listed a w:=by
 refine KY hc i hrd fun hc2=> ?_
 have hi':l.toArray[i]? =some o:=by simpa using hi
 unfold wpOp
 rw [hi']
 simp only [hg.wanted hF,if_true]
 refine .inl ?_
 unfold Oper.wp
 rw [hr _ hF.agr,Oper.upon_enter]
 refine qS.mono fun e w' ⟨v,he,hR⟩=> ?_
 subst he
 rw [hd]
 have hK:=K v w' hR _ (hF.put (by simpa [Nat.blt_eq] using hdn) v) hc2
 exact⟨hK.1,hK.2 hK.1⟩
def ZcI(P:Program)(l:List Oper)(Q:Exit->Act->World->Prop)(S A:World->Prop)(brk fuel:Nat)(listed:Array Bool)(a:Act)(w:World)(i:Nat):Prop:=
  Closed l.toArray (listed.setIfInBounds i true)->wpOp P l.toArray (NoPanic Q) i (fun a' w'=>SA S A brk (listed.setIfInBounds i true) w'/\wpB P l.toArray (NoPanic Q) S A brk fuel (listed.setIfInBounds i true) a' w') a w
def ZcO(P:Program)(l:List Oper)(Q:Exit->Act->World->Prop)(S A:World->Prop)(brk fuel:Nat)(listed:Array Bool)(a:Act)(w:World)(r:List Nat):Prop:=∀i∈r,ZcI P l Q S A brk fuel listed a w i
theorem ZlM:ZcO P l Q S A brk fuel listed a w []:=fun i hi=>by cases hi
theorem ZjL{r:List Nat}(h:ZcI P l Q S A brk fuel listed a w i)(hr:ZcO P l Q S A brk fuel listed a w r):ZcO P l Q S A brk fuel listed a w (i::r):=fun j hj=>by
 rcases List.mem_cons.1 hj with rfl|hj
 · exact h
 · exact hr j hj
theorem ZjU{r:List Nat}(hc:Closed l.toArray listed)(hn:r≠ [])(hr:Region.ready .any l.toArray listed=r)(h:ZcO P l Q S A brk fuel listed a w r):wpB P l.toArray (NoPanic Q) S A brk (fuel+1) listed a w:=
 ⟨fun h0=>absurd (hr.symm.trans h0) hn,fun j hj=>h j (hr▸hj) (hc.set hj)⟩
theorem ZlN{d:Nat}{R:Value->World->Prop}(hF:Fr a n ds L)(i:Nat)(hi:l[i]? =some o)(hg:Want l L o true)(hd:o.dst=some d)(hdn:Nat.blt d n=true)(hr:∃v w',Runs P L w o (.value v) w'/\R v w')
   (K:∀v w',R v w'->∀a',Fr a' n ds ((d,v)::L)->Closed l.toArray (listed.setIfInBounds i true)->SA S A brk (listed.setIfInBounds i true) w'/\(SA S A brk (listed.setIfInBounds i true) w'->wpB P l.toArray (NoPanic Q) S A brk fuel (listed.setIfInBounds i true) a' w')):ZcI P l Q S A brk fuel listed a w i:=fun hc2=>by
 obtain⟨v,w',hr,hR⟩:=hr
 have hi':l.toArray[i]? =some o:=by simpa using hi
 unfold wpOp
 rw [hi']
 simp only [hg.wanted hF,if_true]
 refine .inl ?_
 unfold Oper.wp
 rw [hr _ hF.agr,Oper.upon_value,hd]
 have hK:=K v w' hR _ (hF.put (by simpa [Nat.blt_eq] using hdn) v) hc2
 exact⟨hK.1,hK.2 hK.1⟩
theorem ZjM{d:Nat}{f:FuncId}{args:Array Value}{R:Value->World->Prop}(hF:Fr a n ds L)(i:Nat)(hi:l[i]? =some o)(hg:Want l L o true)(hd:o.dst=some d)(hdn:Nat.blt d n=true)(hr:Runs P L w o (.enter f args) w)
   (qS:Calls P f args w fun e w'=>∃v,e= .returned v/\R v w')
   (K:∀v w',R v w'->∀a',Fr a' n ds ((d,v)::L)->Closed l.toArray (listed.setIfInBounds i true)->SA S A brk (listed.setIfInBounds i true) w'/\(SA S A brk (listed.setIfInBounds i true) w'->wpB P l.toArray (NoPanic Q) S A brk fuel (listed.setIfInBounds i true) a' w')):ZcI P l Q S A brk fuel listed a w i:=fun hc2=>by
 have hi':l.toArray[i]? =some o:=by simpa using hi
 unfold wpOp
 rw [hi']
 simp only [hg.wanted hF,if_true]
 refine .inl ?_
 unfold Oper.wp
 rw [hr _ hF.agr,Oper.upon_enter]
 refine qS.mono fun e w' ⟨v,he,hR⟩=> ?_
 subst he
 rw [hd]
 have hK:=K v w' hR _ (hF.put (by simpa [Nat.blt_eq] using hdn) v) hc2
 exact⟨hK.1,hK.2 hK.1⟩
theorem ZjW(hr:Region.ready .any l.toArray listed= [])(h:Q .normal a w):wpB P l.toArray (NoPanic Q) S A brk fuel listed a w:=ZfT hr (NoPanic.normal h) fuel
end
end Go.Proofs.Gw
namespace Go.Proofs.Gw
open Go Go.RowKit
theorem Z3{α:Type}{l:List α}{i:Nat}{e:α}(h:l[i]? =some e):l=l.take i++e::l.drop (i+1):=by
 induction l generalizing i with
 |nil=>simp at h
 | cons x l ih=>
   cases i with
   |zero=>simp at h;subst h;rfl
   |succ i=>simp at h;have:=ih h;simp only [List.take_succ_cons,List.drop_succ_cons,List.cons_append];rw [<-this]
theorem Yx{α:Type}{l:List α}{i:Nat}{e:α}(h:l[i]? =some e)(d:α):l.set i d=l.take i++d::l.drop (i+1):=by
 induction l generalizing i with
 |nil=>simp at h
 | cons x l ih=>
   cases i with
   |zero=>rfl
   |succ i=>simp at h;have:=ih h;simp only [List.take_succ_cons,List.drop_succ_cons,List.cons_append,List.set_cons_succ];rw [<-this]
section
variable {P:Program} {L:List (Nat×Value)} {w w0:World} {o:Oper} {x y:Operand} {T:TypeId} {l:List Ent}
theorem Sat.cellN(h:Sat w0 w l)(i:Nat){g:Nat}{cs:List Value}{k:Nat}{v:Value}(hi:l[i]? =some (.blk g cs))(hk:cs[k]? =some v):w.cell? ⟨g,k,none⟩=some v:=
 (h.holds _ (List.mem_of_getElem? hi)).cell hk
theorem Sat.rowN(h:Sat w0 w l)(i:Nat){v:Value}{s:Nat}{E:TypeId}{n:Int}{c:Int->Value}(hi:l[i]? =some (.own v s E n c)):Row w v s n c:=
 (h.holds _ (List.mem_of_getElem? hi)).row
theorem Zcn(i:Nat){g k:Nat}{cs:List Value}{v:Value}(ho:o.op= .load T x)(ht:ZG P T=true)(hx:evL L x=some (.pointer (some ⟨g,k,none⟩)))(hS:Sat w0 w l)(hi:l[i]? =some (.blk g cs))(hk:cs[k]? =some v):Runs P L w o (.value v) w:=
 ZaG ho ht hx (hS.cellN i hi hk)
theorem ZaF(i:Nat){g:Nat}{cs:List Value}{k:Nat}(ho:o.op= .load T x)(ht:Zx P T=some k)(hx:evL L x=some (Or g))(hS:Sat w0 w l)(hi:l[i]? =some (.blk g cs))(hk:cs.length=k):Runs P L w o (.value (.agg cs.toArray)) w:=
 V8 ho (by rw [ht,hk]) hx (hS.holds _ (List.mem_of_getElem? hi)).cells
theorem Zcl{s:Nat}{n k:Int}{c:Int->Value}{v u:Value}(ho:o.op= .load T x)(ht:ZG P T=true)(hx:evL L x=some (.pointer (some (cad v k))))(hR:Row w v s n c)(h0:0<=k)(h1:k<n*s)(e:c k=u):Runs P L w o (.value u) w:=
 ZaG ho ht hx (by rw [<-e];exact hR.cell h0 h1)
theorem Zll(i:Nat){g k:Nat}{cs:List Value}{v u:Value}(ho:o.op= .store T x y)(ht:ZG P T=true)(hS:Sat w0 w l)(hi:l[i]? =some (.blk g cs))(hx:evL L x=some (.pointer (some ⟨g,k,none⟩)))(hy:evL L y=some v)
   (hv:v.oneCell'=true) (hk:cs[k]? =some u):∃w',Runs P L w o .skip w'/\Sat w0 w' (l.set i (.blk g (cs.set k v))):=by
 have hS':=hS
 rw [Z3 hi] at hS'
 rw [Yx hi]
 exact ZaD ho ht hS' hx hy hv hk
theorem ZiX(i:Nat){g k:Nat}{cs ds:List Value}(ho:o.op= .store T x y)(ht:Zx P T=some k)(hS:Sat w0 w l)(hi:l[i]? =some (.blk g cs))(hx:evL L x=some (Or g))(hy:evL L y=some (.agg ds.toArray))
   (hl:(cs.length,ds.length)=(k,k)) (hd:∀v∈ds,v.oneCell'=true):∃w',Runs P L w o .skip w'/\Sat w0 w' (l.set i (.blk g ds)):=by
 have h1:cs.length=k:=congrArg Prod.fst hl
 have h2:ds.length=k:=congrArg Prod.snd hl
 subst h1
 obtain⟨_,hsz⟩:=Xh (w:=w) ht
 obtain⟨E,hg⟩:=hS.holds _ (List.mem_of_getElem? hi)
 obtain⟨w',h3,h4,h5,h6,h7,h8,h9⟩:=TI (P:=P) g E ds 0 cs w hg Oa hd
 refine⟨w',fun ρ h=> ?_,?_⟩
 · simp [execOp,ho,h _ _ hx,h _ _ hy,Instr.storeAt,Instr.sureAddr,storeVar,Value.cells,hsz,h2,h3]
 · have hS':=hS
   rw [Z3 hi] at hS'
   rw [Yx hi]
   refine hS'.turn (fun j _ hj=>h5 j (fun e=>hj (by rw [e];rfl))) h6 h7 h8 Oa ⟨E,?_⟩ (fun _ h=> .inl h)
   rw [h4,List.take_zero,Nat.zero_add,h2,List.drop_length];simp
theorem Zlk(i:Nat){v u:Value}{s:Nat}{E:TypeId}{n k:Int}{c d:Int->Value}(ho:o.op= .store T x y)(ht:ZG P T=true)(hS:Sat w0 w l)(hi:l[i]? =some (.own v s E n c))(hx:evL L x=some (.pointer (some (cad v k))))(hy:evL L y=some u)
   (hv:u.oneCell'=true) (h0:0<=k) (h1:k<n*s) (e:upd c k u=d):∃w',Runs P L w o .skip w'/\Sat w0 w' (l.set i (.own v s E n d)):=by
 subst e
 have hS':=hS
 rw [Z3 hi] at hS'
 rw [Yx hi]
 exact ZaC ho ht hS' hx hy hv h0 h1
theorem Zoi(i:Nat){v u:Value}{E:TypeId}{s b:Nat}{n m r:Int}{c d f:Int->Value}{zv:Value}(ho:o.op= .call {callee:= .builtin .append,args:= #[x,y],argTypes:= #[T,T]})(ht:Zu P T=some (E,s))(he:ZN P E=some (zv,s,b))(hz:zv.cells.size=s)(hs:0<s)
   (hS:Sat w0 w l) (hi:l[i]? =some (.own v s E n c)) (hx:evL L x=some v) (hy:evL L y=some u) (hu:Row w u s m d) (h1:∀k,0<=k->k<m*s->(d k).oneCell'=true) (hr:r=n+m) (hb:b*(n+m)<=140737488355328) (hnm:n+m<=140737488355328) (e:cat (n*s) c d=f):
   ∃q w',Runs P L w o (.value q) w'/\Sat w0 w' (l.set i (.own q s E r f))/\Slh q r:=by
 subst e;subst hr
 have hS':=hS
 rw [Z3 hi] at hS'
 obtain⟨q,w',h2,h3,h4⟩:=Zfm ho ht he hz hs hS' hx hy hu h1 hb hnm
 exact⟨q,w',h2,by rw [Yx hi];exact h3,h4⟩
end
theorem Slh.one{v:Value}{n:Int}(h:Slh v n):v.oneCell'=true:=by
 obtain⟨_,_,a,cap,rfl,_⟩:=h;rfl
theorem Zi:∀v∈([]:List Value),v.oneCell'=true:=by simp
theorem Za{v:Value}{vs:List Value}(h:v.oneCell'=true)(hs:∀u∈vs,u.oneCell'=true):∀u∈v::vs,u.oneCell'=true:=fun u hu=>by
 rcases List.mem_cons.1 hu with rfl|hu
 · exact h
 · exact hs u hu
theorem slh_nil:Slh Oh 0:=⟨by omega,Oa,none,0,rfl,.inl rfl⟩
theorem Sat.recont{w w0:World}{l:List Ent}(i:Nat){v:Value}{s:Nat}{E:TypeId}{n:Int}{c d:Int->Value}(h:Sat w0 w l)(hi:l[i]? =some (.own v s E n c))(e:∀k,0<=k->k<n*s->c k=d k):Sat w0 w (l.set i (.own v s E n d)):=by
 have h':=h
 rw [Z3 hi] at h'
 rw [Yx hi]
 have hg:=h'.get
 have yB:=List.pairwise_append.1 h'.sep
 have hs2:=List.pairwise_cons.1 yB.2.1
 refine⟨h'.below,fun x hx=> ?_,fun x hx g hg=> ?_,List.pairwise_append.2 ⟨yB.1,List.pairwise_cons.2 ⟨fun x hx=>hs2.1 x hx,hs2.2⟩,fun x hx y hy=> ?_⟩⟩
 · rcases List.mem_append.1 hx with hx|hx
   · exact h'.holds x (by simp [hx])
   · rcases List.mem_cons.1 hx with rfl|hx
     · exact hg.congr e
     · exact h'.holds x (by simp [hx])
 · rcases List.mem_append.1 hx with hx|hx
   · exact h'.new x (by simp [hx]) g hg
   · rcases List.mem_cons.1 hx with rfl|hx
     · exact h'.new (.own v s E n c) (by simp) g hg
     · exact h'.new x (by simp [hx]) g hg
 · rcases List.mem_cons.1 hy with rfl|hy
   · exact yB.2.2 x hx (.own v s E n c) (by simp)
   · exact yB.2.2 x hx y (by simp [hy])
theorem Sat.addnil{w w0:World}{l:List Ent}(h:Sat w0 w l)(s:Nat)(E:TypeId)(c:Int->Value):Sat w0 w (l++ [.own Oh s E 0 c]):=by
 refine h.comp (m:= [.own Oh s E 0 c]) ⟨Below.refl _ _,?_,?_,List.pairwise_singleton _ _⟩
 · intro e he
   obtain rfl:=List.mem_singleton.1 he
   exact⟨by omega,Oa,.inl ⟨rfl,rfl⟩⟩
 · intro e he g hg
   obtain rfl:=List.mem_singleton.1 he
   simp [Ent.has,Value.ownBlock] at hg
def InK(k:IntKind)(n:Int):Prop:=match k with
  | .i64=> -9223372036854775808<=n/\n<=9223372036854775807
  | .u8=>0<=n/\n<=255
  | .u16=>0<=n/\n<=65535
  | .u32=>0<=n/\n<=4294967295
  | .u64=>0<=n/\n<=18446744073709551615
  |_=>False
theorem InK.wrap{k:IntKind}{n:Int}(h:InK k n):k.wrap n=n:=by
 by_cases hk:k= .i64
 · subst hk;exact I64.wrap h
 cases k<;>simp only [InK] at h<;>(first|exact h.elim|exact absurd rfl hk|skip)<;>simp only [IntKind.wrap,IntKind.bits,IntKind.signed,Bool.false_and,Bool.false_eq_true,if_false]<;>(try split)<;>omega
theorem ZjR{P:Program}{L:List (Nat×Value)}{w:World}{o:Oper}{x:Operand}{S D:TypeId}{k k':IntKind}{n:Int}(ho:o.op= .convert S D x)(hs:(P.underlying S).isSome=true)(hd:P.underlying D=some (.int k'))(hx:evL L x=some (.int k n))(hr:InK k' n):Runs P L w o (.value (.int k' n)) w:=fun ρ h=>by
 obtain⟨d,hd'⟩:=Option.isSome_iff_exists.mp hs
 have e:(convert S D (.int k n)).run P w= .ok (.int k' (k'.wrap n)) w:=by simp [convert,run_underlying hd',run_underlying hd,Conv.intToInt]
 rw [hr.wrap] at e
 simp [execOp,ho,h _ _ hx,e]
section
variable {Q:Exit->Act->World->Prop} {K:Act->World->Prop} {a:Act} {w:World} {id j:Nat}
theorem ZjD(h:Q .normal a w):Exit.inBlock id Q (.exit id) a w:=by
 show if id=id then _ else _
 rw [if_pos rfl];exact h
end
def num:Nat->List Value->List (Nat×Value)
  |_, []=> []
  |k,v::r=>(k,v)::num (k+1) r
theorem Zar:∀(vs:List Value) (k t:Nat) (v:Value),lk (num k vs) t=some v->k<=t/\vs[t-k]? =some v
 | [],_,_,_,h=>by simp [num,lk] at h
 | u ::r,k,t,v,h=>by
   simp only [num,lk] at h
   by_cases e:k=t
   · subst e
     rw [Nat.beq_refl] at h
     simp only [cond_true,Option.some.injEq] at h
     subst h
     simp
   · rw [Ze8 e] at h
     obtain⟨h1,h2⟩:=Zar r (k+1) t v h
     refine⟨by omega,?_⟩
     obtain⟨d,rfl⟩:∃d,t=k+1+d:=⟨t-(k+1),Oa⟩
     have e1:k+1+d-k=d+1:=Oa
     have e2:k+1+d-(k+1)=d:=Oa
     rw [e1];rw [e2] at h2
     simpa using h2
theorem enter{P:Program}{f:FuncId}{fn:Func}{c:Code}{n:Nat}{w:World}{vs:List Value}{R:Ending->World->Prop}(hf:P.funcs[f]? =some fn)(hb:fn.body=some c)(hn:fn.ntmps=n)(hv:Nat.ble vs.length n=true)
   (h:∀a,Fr a n [] (num 0 vs)->c.wp P (bodyPost P fn R) a w):Calls P f vs.toArray w R:=
 Zcy hf hb hn (Fr.enter (vs:=vs.toArray) (by simpa using Nat.le_of_ble_eq_true hv) fun t v ht=>by
   have:=(Zar vs 0 t v ht).2
   simpa using this) h
theorem Zmg{P:Program}{f:FuncId}{fn:Func}{c:Code}{n:Nat}{w0:World}{vs:List Value}{R:Ending->World->Prop}(hf:P.funcs[f]? =some fn)(hb:fn.body=some c)(hn:fn.ntmps=n)(hv:Nat.ble vs.length n=true)
   (h:∀a w,Sat w0 w []->Fr a n [] (num 0 vs)->c.wp P (bodyPost P fn R) a w):Calls P f vs.toArray w0 R:=
 enter hf hb hn hv fun a hF=>h a w0 (Sat.start w0) hF
section
variable {P:Program} {L:List (Nat×Value)} {w w0:World} {o:Oper} {x:Operand}
theorem Zhd{g:FuncId}{xs:Array Operand}{ts:Array TypeId}{vs:List Value}(ho:o.op= .call {callee:= .value x,args:=xs,argTypes:=ts})(hx:evL L x=some (.func (.func g) #[] #[]))(ht:Zd P g=true)(ha:UR L xs vs):Runs P L w o (.enter g vs.toArray) w:=
 Zek ho hx ht ha (by simp)
theorem Zhc{g:FuncId}{xs:Array Operand}{ts:Array TypeId}{vs cap:List Value}(ho:o.op= .call {callee:= .value x,args:=xs,argTypes:=ts})(hx:evL L x=some (.func (.func g) #[] cap.toArray))(ht:Zd P g=true)(ha:UR L xs vs):Runs P L w o (.enter g (vs++cap).toArray) w:=
 Zek ho hx ht ha (by simp)
def ZeK(L:List (Nat×Value))(ps:List (Nat×Operand))(pv:List (Nat×Value)):Prop:=∀ρ,Agr L ρ->(ps.map fun x=>(x.1,ρ x.2))=pv
theorem Zls:ZeK L [] []:=fun _ _=>rfl
theorem Zdc{i:Nat}{v:Value}{ps:List (Nat×Operand)}{pv:List (Nat×Value)}(hx:evL L x=some v)(h:ZeK L ps pv):ZeK L ((i,x)::ps) ((i,v)::pv):=fun ρ hρ=>by
 rw [List.map_cons,h ρ hρ,hρ x v hx]
theorem ZjA{p:Prop}{w':World}(h:Runs P L w o (.value (B p)) w')(hp:p):Runs P L w o (.value (.bool true)) w':=by rw [<-ZQ hp];exact h
theorem ZjB{p:Prop}{w':World}(h:Runs P L w o (.value (B p)) w')(hp:¬p):Runs P L w o (.value (.bool false)) w':=by rw [<-ZA hp];exact h
theorem ZoU{fn:Func}{R:Ending->World->Prop}{a:Act}{n:Nat}(hF:Fr a n [] L)(hr:fn.results= #[])(h:R (.returned (.tuple #[])) w):bodyPost P fn R .ret a w:=
 ⟨hF.defers,_,by rw [results_none hr],h⟩
theorem Zag{fn:Func}{t u s:Tmp}(h:fn.results= #[.tmp t,.tmp u,.tmp s])(tmps:Array Value)(P:Program)(w:World):
   (results fn tmps).run P w= .ok (.tuple #[tmps.getD t undef,tmps.getD u undef,tmps.getD s undef]) w:=by
 simp [results,h]
theorem Zp3{fn:Func}{R:Ending->World->Prop}{a:Act}{n t u s:Nat}{v x y:Value}(hF:Fr a n [] L)(hr:fn.results= #[.tmp t,.tmp u,.tmp s])(hv:lk L t=some v)(hx:lk L u=some x)(hy:lk L s=some y)(h:R (.returned (.tuple #[v,x,y])) w):bodyPost P fn R .ret a w:=
 ⟨hF.defers,_,by rw [Zag hr,hF.get t v hv,hF.get u x hx,hF.get s y hy],h⟩
theorem ZlO(i:Nat){l:List Ent}{fn:Func}{R:Ending->World->Prop}{a:Act}{n s t g k:Nat}{T:TypeId}{v:Value}{cs:List Value}(hF:Fr a n [] L)(hr:fn.results= #[.cell s T,.tmp t])(hs:lk L s=some (Or g))(hv:lk L t=some v)
   (ht:Zx P T=some k) (hS:Sat w0 w l) (hi:l[i]? =some (.blk g cs)) (hk:cs.length=k) (h:R (.returned (.tuple #[.agg cs.toArray,v])) w):bodyPost P fn R .ret a w:=by
 refine⟨hF.defers,_,?_,h⟩
 subst hk
 obtain⟨h1,h2⟩:=Xh (w:=w) ht
 have h3:=run_loadCells_list (P:=P) w ⟨g,0,none⟩ cs (hS.holds _ (List.mem_of_getElem? hi)).cells
 have e1:=hF.get s _ hs
 have e2:=hF.get t _ hv
 rw [Array.getD_eq_getD_getElem?] at e1 e2
 simp [results,hr,e1,e2,asAddr,loadVar,h1,h2,h3]
theorem ZoT(i:Nat){l:List Ent}{fn:Func}{R:Ending->World->Prop}{a:Act}{n s g k:Nat}{T:TypeId}{cs:List Value}(hF:Fr a n [] L)(hr:fn.results= #[.cell s T])(hs:lk L s=some (Or g))
   (ht:Zx P T=some k) (hS:Sat w0 w l) (hi:l[i]? =some (.blk g cs)) (hk:cs.length=k) (h:R (.returned (.agg cs.toArray)) w):bodyPost P fn R .ret a w:=by
 refine⟨hF.defers,_,?_,h⟩
 subst hk
 obtain⟨h1,h2⟩:=Xh (w:=w) ht
 have h3:=run_loadCells_list (P:=P) w ⟨g,0,none⟩ cs (hS.holds _ (List.mem_of_getElem? hi)).cells
 have e1:=hF.get s _ hs
 rw [Array.getD_eq_getD_getElem?] at e1
 simp [results,hr,e1,asAddr,loadVar,h1,h2,h3]
end
end Go.Proofs.Gw
namespace Go.Proofs.Gw
open Go Go.RowKit
section
variable {P:Program} {L:List (Nat×Value)} {w w0:World} {o:Oper} {x y z:Operand} {T T':TypeId} {l:List Ent}
def ZpS(P:Program)(t:TypeId)(name:String)(f:FuncId):Prop:=∀(v:Value) (args:Array Value) (w:World),(callMethod (.iface t v) name args).run P w= .ok (.enter f (#[v]++args)) w
theorem RB(i:Nat){g k m:Nat}{cs ds:List Value}(ho:o.op= .load T x)(ht:Zx P T=some m)(hx:evL L x=some (.pointer (some ⟨g,k,none⟩)))(hS:Sat w0 w l)(hi:l[i]? =some (.blk g cs))(hm:ds.length=m)(hd:(cs.drop k).take m=ds):
   Runs P L w o (.value (.agg ds.toArray)) w:=by
 subst hm
 refine V8 ho ht hx fun j v hv=> ?_
 rw [Addr.add_eq _ rfl]
 have hj:j<ds.length:=(List.getElem?_eq_some_iff.1 hv).1
 rw [<-hd,List.getElem?_take_of_lt hj,List.getElem?_drop] at hv
 exact hS.cellN i hi hv
theorem ZaE{s:Nat}{n k:Int}{c:Int->Value}{v:Value}{cs:List Value}{m:Nat}(ho:o.op= .load T x)(ht:Zx P T=some m)(hx:evL L x=some (.pointer (some (cad v k))))(hR:Row w v s n c)(h0:0<=k)(h1:k+m<=n*s)(hm:cs.length=m)(hm0:0<m)
   (e:∀(j:Nat) u,cs[j]? =some u->c (k+j)=u):Runs P L w o (.value (.agg cs.toArray)) w:=by
 subst hm
 refine V8 ho ht hx fun j u hu=> ?_
 have hj:j<cs.length:=(List.getElem?_eq_some_iff.1 hu).1
 have hn:0<n:=by
   rcases Int.lt_or_le 0 n with h|h
   · exact h
   · have:n*s<=0:=Int.mul_nonpos_of_nonpos_of_nonneg h Oa
     omega
 rw [Zez hR.slh h0 hn,<-e j u hu]
 exact hR.cell Oa Oa
theorem Zcm{a:Addr}{v:Value}(ho:o.op= .load T x)(ht:ZG P T=true)(hx:evL L x=some (.pointer (some a)))(hc:w0.cell? a=some v)(hS:Sat w0 w l):Runs P L w o (.value v) w:=
 ZaG ho ht hx (by rw [hS.below.cell (World.block_lt_of_cell? w0 _ hc)];exact hc)
theorem UD(f:Of)(n:Nat):cellsOf (ints f) n=((List.range n).map fun(k:Nat)=>f k).map (Value.int .i64):=by
 unfold cellsOf ints
 rw [List.map_map];rfl
def Zo(f:Of)(n:Int):List Int:=(List.range n.toNat).map fun(k:Nat)=>f k
theorem ZZ(f:Of)(n:Int):(Zo f n).length=n.toNat:=by simp [Zo]
theorem VA{f:Of}{n a:Int}:a∈Zo f n↔∃k,0<=k/\k<n/\f k=a:=by
 unfold Zo
 rw [List.mem_map]
 constructor
 · rintro⟨k,hk,rfl⟩
   rw [List.mem_range] at hk
   exact⟨k,Oa,Oa,rfl⟩
 · rintro⟨k,h0,h1,rfl⟩
   exact⟨k.toNat,List.mem_range.2 Oa,by rw [Int.toNat_of_nonneg h0]⟩
def ZfL(l:List Int):Of:=fun k=>l.getD k.toNat 0
theorem Zb4(l:List Int):Zo (ZfL l) l.length=l:=by
 unfold Zo ZfL
 apply List.ext_getElem?
 intro i
 by_cases h:i<l.length
 · simp [h]
 · simp [h]
theorem ZdA(l:List Int)(n:Nat)(h:n<=l.length):cellsOf (ints (ZfL l)) n=(l.take n).map (Value.int .i64):=by
 rw [UD]
 congr 1
 unfold ZfL
 apply List.ext_getElem?
 intro i
 rw [List.getElem?_take]
 by_cases hi:i<n
 · have:i<l.length:=Oa
   simp [hi,this]
 · simp [hi]
open Go.Sort in
theorem Sat.put{l1 l2:List Ent}{g cap q:Nat}{E:TypeId}{n:Int}{f:Of}{ts:List Int}{os:Array Obj}(h:Sat w0 w (l1++ .own (.slice (some ⟨g,0,none⟩) n.toNat cap) 1 E n (ints f)::l2))(hl:ts.length=n.toNat):
   Sat w0 (grow (putRow (Value.int .i64) (Sort.ahead w q) g 0 ts.toArray) os) (l1++ .own (.slice (some ⟨g,0,none⟩) n.toNat cap) 1 E n (ints (ZfL ts))::l2):=by
 obtain⟨h0,h1,⟨hv,_⟩|⟨g',cap',cur,hv,hg,h2,h3,h4,h5⟩⟩:=h.get
 · cases hv
 · cases hv
   have gb:=grownBy_sortedI (w:=w) (g:=g) (n:=q) (os:=os) ts.toArray
   have xg:(Zo f n).length=n.toNat:=ZZ f n
   refine h.turn (fun k hk hne=>gb.block k hk (fun e=>hne (show some g=some k from e.symm))) gb.tape gb.os gb.output gb.size ?_ (fun _ h=> .inl h)
   refine Ent.holds.of_owns (base:=0) h0 h1 ?_
   have:=ownsRow_sortedI (w:=w) (base:=0) (g:=g) (cap:=cap) (n:=q) (e:=E) (os:=os) (cur:=cur) (ss:=Zo f n) (ts:=ts) (by rw [xg,hl]) (Nat.zero_le _) hg (by rw [xg];exact h2) h3 (by rw [h4])
   rw [xg] at this
   rw [Nat.mul_one,ZdA ts n.toNat Oa,List.take_of_length_le Oa]
   exact this
open Go.Sort in
theorem Sat.held{l1 l2:List Ent}{g cap:Nat}{E:TypeId}{n:Int}{f:Of}(h:Sat w0 w (l1++ .own (.slice (some ⟨g,0,none⟩) n.toNat cap) 1 E n (ints f)::l2)):
   Holds (Value.int .i64) w g 0 (Zo f n).toArray/\g<w.heap.size/\(Zo f n).length<=cap/\(Zo f n).length<=maxLen:=by
 obtain⟨h0,h1,⟨hv,_⟩|⟨g',cap',cur,hv,hg,h2,h3,h4,h5⟩⟩:=h.get
 · cases hv
 · cases hv
   refine⟨holds_of_blockI hg ?_,(Array.getElem?_eq_some_iff.1 hg).1,by rw [ZZ];exact h2,by rw [ZZ];omega⟩
   rw [ZZ]
   apply List.ext_getElem?
   intro i
   rw [List.getElem?_take]
   by_cases hi:i<n.toNat
   · have:=h5 i Oa
     simp [hi,this,Zo,ints]
   · simp [hi,Zo]
end
end Go.Proofs.Gw
namespace Go.Proofs.Gw
open Go Go.RowKit
section
variable {P:Program} {w w0:World} {l1 l2:List Ent}
open Go.Sort
end
end Go.Proofs.Gw
namespace Go.Proofs.Gw
open Go Go.RowKit
theorem gu_self{α:Type}(f:Int->α)(k:Int)(x:α):upd f k x k=x:=if_pos rfl
theorem gu_ne{α:Type}{f:Int->α}{k j:Int}{x:α}(h:j≠k):upd f k x j=f j:=if_neg h
def gsn{α:Type}(f:Int->α)(n:Int)(x:α):Int->α:=fun k=>if k<n then f k else x
theorem Zq{α:Type}{f:Int->α}{n k:Int}{x:α}(h:k<n):gsn f n x k=f k:=if_pos h
theorem ZB{α:Type}{f:Int->α}{n k:Int}{x:α}(h:¬k<n):gsn f n x k=x:=if_neg h
theorem Y1{α:Type}(f:Int->α)(n:Int)(x:α):gsn f n x n=x:=if_neg Oa
theorem WE(f:Int->Value)(n:Int)(x:Value):cat (n*1) f (fun _=>x)=gsn f n x:=by
 funext j;simp only [cat,gsn,Int.mul_one]
def Frame.rows(E:TypeId)(n:Int)(vv:Int->Value)(ln:Of)(f:Og):Frame where
  holds w:=(∀i,0<=i->i<n->(Ent.own (vv i) 1 E (ln i) (ints (f i))).holds w)/\∀i j,0<=i->i<n->0<=j->j<n->i≠j->∀g,(vv i).ownBlock=some g->(vv j).ownBlock≠some g
  has g:=∃i,0<=i/\i<n/\(vv i).ownBlock=some g
  keep h hk:=⟨fun i i0 i1=>(h.1 i i0 i1).keep fun g hg=>hk g ⟨i,i0,i1,hg⟩,h.2⟩
  lt h hg:=by obtain⟨i,i0,i1,hg⟩:=hg;exact(h.1 i i0 i1).lt hg
section
variable {P:Program} {L:List (Nat×Value)} {w w0:World} {o:Oper} {x y z:Operand} {T T':TypeId} {l l1 l2 l3:List Ent} {E:TypeId} {n:Int} {vv:Int->Value} {ln:Of} {f:Og}
theorem Sat.addrows(h:Sat w0 w l)(E:TypeId)(vv:Int->Value)(ln:Of)(f:Og):Sat w0 w (l++ [.sem (Frame.rows E 0 vv ln f)]):=by
 refine h.comp (m:= [.sem (Frame.rows E 0 vv ln f)]) ⟨Below.refl _ _,?_,?_,List.pairwise_singleton _ _⟩
 · intro e he
   obtain rfl:=List.mem_singleton.1 he
   exact⟨fun i _ _=>Oa,fun i _ _ _=>Oa⟩
 · intro e he g hg
   obtain rfl:=List.mem_singleton.1 he
   obtain⟨i,i0,i1,_⟩:=hg
   omega
theorem Sat.rowIn(h:Sat w0 w l)(i:Nat)(hi:l[i]? =some (.sem (Frame.rows E n vv ln f))){k:Int}(k0:0<=k)(k1:k<n):Row w (vv k) 1 (ln k) (ints (f k)):=
 ((h.holds _ (List.mem_of_getElem? hi)).1 k k0 k1).row
theorem Sat.slhIn(h:Sat w0 w l)(i:Nat)(hi:l[i]? =some (.sem (Frame.rows E n vv ln f))){k:Int}(k0:0<=k)(k1:k<n):Slh (vv k) (ln k):=(h.rowIn i hi k0 k1).slh
theorem Sat.merge {v:Value} {m:Int} {g:Of} (h:Sat w0 w (l1++ .sem (Frame.rows E n vv ln f)::(l2++ .own v 1 E m (ints g)::l3))) (hn:0<=n):Sat w0 w (l1++ .sem (Frame.rows E (n+1) (gsn vv n v) (gsn ln n m) (gsn f n g))::(l2++l3)):=by
 have hp:(l1++ .sem (Frame.rows E n vv ln f)::(l2++ .own v 1 E m (ints g)::l3)).Perm (.sem (Frame.rows E n vv ln f):: .own v 1 E m (ints g)::(l1++(l2++l3))):=by
   refine List.perm_middle.trans (.cons _ ?_)
   rw [<-List.append_assoc]
   refine List.perm_middle.trans (.cons _ ?_)
   rw [List.append_assoc]
 have hq:(l1++ .sem (Frame.rows E (n+1) (gsn vv n v) (gsn ln n m) (gsn f n g))::(l2++l3)).Perm (.sem (Frame.rows E (n+1) (gsn vv n v) (gsn ln n m) (gsn f n g))::(l1++(l2++l3))):=List.perm_middle
 have h':=h.perm hp
 refine Sat.perm ?_ hq.symm
 have hr:=h'.holds (.sem (Frame.rows E n vv ln f)) (by simp)
 have ho:=h'.holds (.own v 1 E m (ints g)) (by simp)
 have s1:=List.pairwise_cons.1 h'.sep
 have s2:=List.pairwise_cons.1 s1.2
 have hap:∀i,0<=i->i<n->∀b,(vv i).ownBlock=some b->v.ownBlock≠some b:=fun i i0 i1 b hb hb'=>s1.1 (.own v 1 E m (ints g)) (by simp) b ⟨i,i0,i1,hb⟩ hb'
 have cK:∀b,(Ent.sem (Frame.rows E (n+1) (gsn vv n v) (gsn ln n m) (gsn f n g))).has b->(Ent.sem (Frame.rows E n vv ln f)).has b\/(Ent.own v 1 E m (ints g)).has b:=fun b ⟨i,i0,i1,hb⟩=>by
   by_cases e:i<n
   · rw [Zq e] at hb;exact .inl ⟨i,i0,e,hb⟩
   · rw [ZB e] at hb;exact .inr hb
 refine⟨h'.below,fun e he=> ?_,fun e he b hb=> ?_,List.pairwise_cons.2 ⟨fun e he b hb hb'=> ?_,s2.2⟩⟩
 · rcases List.mem_cons.1 he with rfl|he
   · refine⟨fun i i0 i1=> ?_,fun i j i0 i1 j0 j1 hij b hb hb'=> ?_⟩
     · by_cases e:i<n
       · rw [Zq e,Zq e,Zq e];exact hr.1 i i0 e
       · rw [ZB e,ZB e,ZB e];exact ho
     · by_cases ei:i<n<;>by_cases ej:j<n
       · rw [Zq ei] at hb;rw [Zq ej] at hb';exact hr.2 i j i0 ei j0 ej hij b hb hb'
       · rw [Zq ei] at hb;rw [ZB ej] at hb';exact hap i i0 ei b hb hb'
       · rw [ZB ei] at hb;rw [Zq ej] at hb';exact hap j j0 ej b hb' hb
       · omega
   · exact h'.holds e (by simp [he])
 · rcases List.mem_cons.1 he with rfl|he
   · rcases cK b hb with hb|hb
     · exact h'.new _ (by simp) b hb
     · exact h'.new (.own v 1 E m (ints g)) (by simp) b hb
   · exact h'.new e (by simp [he]) b hb
 · rcases cK b hb with hb|hb
   · exact s1.1 e (by simp [he]) b hb hb'
   · exact s2.1 e he b hb hb'
theorem Sat.merge2{v:Value}{m:Int}{g:Of}(h:Sat w0 w (l1++ .own v 1 E m (ints g)::(l2++ .sem (Frame.rows E n vv ln f)::l3)))(hn:0<=n):Sat w0 w (l1++(l2++ .sem (Frame.rows E (n+1) (gsn vv n v) (gsn ln n m) (gsn f n g))::l3)):=by
 have hp:(l1++ .own v 1 E m (ints g)::(l2++ .sem (Frame.rows E n vv ln f)::l3)).Perm ([]++ .sem (Frame.rows E n vv ln f)::([]++ .own v 1 E m (ints g)::(l1++(l2++l3)))):=by
   refine List.perm_middle.trans ((List.Perm.cons _ ?_).trans (List.Perm.swap _ _ _))
   rw [<-List.append_assoc]
   refine List.perm_middle.trans (.cons _ ?_)
   rw [List.append_assoc]
 have h2:=(h.perm hp).merge hn
 refine h2.perm ?_
 have:(l1++(l2++ .sem (Frame.rows E (n+1) (gsn vv n v) (gsn ln n m) (gsn f n g))::l3)).Perm (.sem (Frame.rows E (n+1) (gsn vv n v) (gsn ln n m) (gsn f n g))::(l1++(l2++l3))):=by
   rw [<-List.append_assoc,<-List.append_assoc];exact List.perm_middle
 simpa using this.symm
theorem Zji {v:Value} {s:Nat} {c:Int->Value} {w:World} (h:(Ent.own v s E n c).holds w) {k:Int} (h0:0<=k) (h1:k<n*s) (x:Value):
   (Ent.own v s E n (upd c k x)).holds (w.setCell (cad v k) x)/\(∀b,v.ownBlock≠some b->(w.setCell (cad v k) x).heap[b]? =w.heap[b]?)/\w.frozen? (cad v k)=false:=by
 obtain⟨j,rfl⟩:=Int.eq_ofNat_of_zero_le h0
 obtain⟨hn0,hn1,⟨rfl,rfl⟩|⟨g,cap,cur,rfl,hg,h2,h3,h4,h5⟩⟩:=h
 · rw [Int.zero_mul] at h1;omega
 · refine⟨⟨hn0,hn1,.inr ⟨g,cap,cur.setIfInBounds j x,rfl,?_,h2,h3,by simp [h4],fun i hi=> ?_⟩⟩,fun b hb=>Below.heap_setCell _ _ _ _ fun e=>hb (by rw [e];simp [Value.ownBlock,cad]),by simp [cad,World.frozen?,hg]⟩
   · simp [World.setCell,Array.getElem?_modify,hg,cad]
   · have hj:=h5 j h1
     have hjl:=(Array.getElem?_eq_some_iff.1 hj).1
     rw [Array.getElem?_setIfInBounds]
     by_cases e:j=i
     · subst e;simp [upd,hjl]
     · rw [if_neg e,h5 i hi]
       simp only [upd]
       rw [if_neg Oa]
theorem ZiW(i:Nat){k j a:Int}{f':Og}(ho:o.op= .store T x y)(ht:ZG P T=true)(hS:Sat w0 w l)(hi:l[i]? =some (.sem (Frame.rows E n vv ln f)))(hx:evL L x=some (.pointer (some (cad (vv k) j))))(hy:evL L y=some (.int Oi a))
   (k0:0<=k) (k1:k<n) (j0:0<=j) (j1:j<ln k) (e:upd f k (upd (f k) j a)=f'):∃w',Runs P L w o .skip w'/\Sat w0 w' (l.set i (.sem (Frame.rows E n vv ln f'))):=by
 subst e
 have hS':=hS
 rw [Z3 hi] at hS'
 have hr:=hS'.get
 have hk:=hr.1 k k0 k1
 have j1':j<ln k*(1:Nat):=Oa
 obtain⟨s1,s2,s3⟩:=Zji hk j0 j1' (.int Oi a)
 refine⟨_,T6 ho ht hx hy rfl (hk.row.cell j0 j1') s3,?_⟩
 rw [Yx hi]
 refine hS'.turn (fun b _ hb=>s2 b (fun hh=>hb ⟨k,k0,k1,hh⟩)) rfl rfl rfl (by simp [World.setCell]) ⟨fun q q0 q1=> ?_,hr.2⟩ (fun _ h=> .inl h)
 by_cases e:q=k
 · subst e;rw [gu_self,<-ZD];exact s1
 · rw [gu_ne e];exact(hr.1 q q0 q1).keep fun b hb=>s2 b (hr.2 q k q0 q1 k0 k1 e b hb)
def Frame.bun(l:List Ent):Frame where
  holds w:=(∀e∈l,e.holds w)/\l.Pairwise Apart
  has k:=∃e∈l,e.has k
  keep h hk:=⟨fun e he=>(h.1 e he).keep fun g hg=>hk g ⟨e,he,hg⟩,h.2⟩
  lt h hg:=by obtain⟨e,he,hg⟩:=hg;exact(h.1 e he).lt hg
theorem Sat.bundle(h:Sat w0 w (l1++l2)):Sat w0 w (l1++ [.sem (Frame.bun l2)]):=by
 have hs:=List.pairwise_append.1 h.sep
 refine⟨h.below,fun e he=> ?_,fun e he g hg=> ?_,List.pairwise_append.2 ⟨hs.1,List.pairwise_singleton _ _,fun d hd e he g hg hg'=> ?_⟩⟩
 · rcases List.mem_append.1 he with he|he
   · exact h.holds e (by simp [he])
   · obtain rfl:=List.mem_singleton.1 he
     exact⟨fun d hd=>h.holds d (by simp [hd]),hs.2.1⟩
 · rcases List.mem_append.1 he with he|he
   · exact h.new e (by simp [he]) g hg
   · obtain rfl:=List.mem_singleton.1 he
     obtain⟨d,hd,hg⟩:=hg
     exact h.new d (by simp [hd]) g hg
 · obtain rfl:=List.mem_singleton.1 he
   obtain⟨x,hx,hg'⟩:=hg'
   exact hs.2.2 d hd x hx g hg hg'
theorem Sat.unbundle(h:Sat w0 w (l1++ .sem (Frame.bun l2)::l3)):Sat w0 w (l1++(l2++l3)):=by
 have hs:=List.pairwise_append.1 h.sep
 have hs2:=List.pairwise_cons.1 hs.2.1
 have hb:=h.holds (.sem (Frame.bun l2)) (by simp)
 have zy:∀x∈l2,∀g,x.has g->(Ent.sem (Frame.bun l2)).has g:=fun x hx g hg=>⟨x,hx,hg⟩
 refine⟨h.below,fun e he=> ?_,fun e he g hg=> ?_,List.pairwise_append.2 ⟨hs.1,List.pairwise_append.2 ⟨hb.2,hs2.2,fun x hx y hy g hg hg'=>hs2.1 y hy g (zy x hx g hg) hg'⟩,fun d hd e he g hg hg'=> ?_⟩⟩
 · rcases List.mem_append.1 he with he|he
   · exact h.holds e (by simp [he])
   · rcases List.mem_append.1 he with he|he
     · exact hb.1 e he
     · exact h.holds e (by simp [he])
 · rcases List.mem_append.1 he with he|he
   · exact h.new e (by simp [he]) g hg
   · rcases List.mem_append.1 he with he|he
     · exact h.new (.sem (Frame.bun l2)) (by simp) g (zy e he g hg)
     · exact h.new e (by simp [he]) g hg
 · rcases List.mem_append.1 he with he|he
   · exact hs.2.2 d hd (.sem (Frame.bun l2)) (by simp) g hg (zy e he g hg')
   · exact hs.2.2 d hd e (by simp [he]) g hg hg'
def Frame.alt (p:Prop) (F:Frame):Frame where
  holds w:=p\/F.holds w
  has k:=¬p/\F.has k
  keep:=fun {w w'} h hk=>by
    by_cases hp:p
    · exact .inl hp
    · rcases h with h|h
      · exact .inl h
      · exact .inr (F.keep h fun g hg=>hk g ⟨hp,hg⟩)
  lt:=fun {w g} h hg=>by
    rcases h with h|h
    · exact absurd h hg.1
    · exact F.lt h hg.2
theorem Sat.altL{p:Prop}(F:Frame)(hp:p)(h:Sat w0 w l):Sat w0 w (l++ [.sem (Frame.alt p F)]):=by
 refine h.comp (m:= [.sem (Frame.alt p F)]) ⟨Below.refl _ _,?_,?_,List.pairwise_singleton _ _⟩
 · intro e he
   obtain rfl:=List.mem_singleton.1 he
   exact .inl hp
 · intro e he g hg
   obtain rfl:=List.mem_singleton.1 he
   exact absurd hp hg.1
theorem Sat.altR(p:Prop){F:Frame}(h:Sat w0 w (l1++ .sem F::l2)):Sat w0 w (l1++ .sem (Frame.alt p F)::l2):=by
 have hs:=List.pairwise_append.1 h.sep
 have hs2:=List.pairwise_cons.1 hs.2.1
 refine⟨h.below,fun e he=> ?_,fun e he g hg=> ?_,List.pairwise_append.2 ⟨hs.1,List.pairwise_cons.2 ⟨fun e he g hg hg'=>hs2.1 e he g hg.2 hg',hs2.2⟩,fun d hd e he g hg hg'=> ?_⟩⟩
 · rcases List.mem_append.1 he with he|he
   · exact h.holds e (by simp [he])
   · rcases List.mem_cons.1 he with rfl|he
     · exact .inr (h.holds (.sem F) (by simp))
     · exact h.holds e (by simp [he])
 · rcases List.mem_append.1 he with he|he
   · exact h.new e (by simp [he]) g hg
   · rcases List.mem_cons.1 he with rfl|he
     · exact h.new (.sem F) (by simp) g hg.2
     · exact h.new e (by simp [he]) g hg
 · rcases List.mem_cons.1 he with rfl|he
   · exact hs.2.2 d hd (.sem F) (by simp) g hg hg'.2
   · exact hs.2.2 d hd e (by simp [he]) g hg hg'
def Suf(u v:Value)(q n:Int):Prop:=Slh u (n-q)/\∀k,0<=k->k<n-q->cad u k=cad v (k+q)
theorem Suf.row{u v:Value}{q:Int}{c:Int->Value}{n:Int}(h:Suf u v q n)(hq:0<=q)(hR:Row w v 1 n c):Row w u 1 (n-q) (fun k=>c (k+q)):=
 ⟨h.1,fun k hk=>by
   have:=h.1.n0
   rw [h.2 k Oa (by simpa using hk)]
   exact hR.cell Oa (by simp at hk⊢;omega)⟩
theorem Suf.slh{u v:Value}{q n:Int}(h:Suf u v q n):Slh u (n-q):=h.1
end
end Go.Proofs.Gw
namespace Go.Proofs.Gw
open Go Go.RowKit
def Xv(v:Value)(q:Nat):Value:=match v with
  | .slice a len cap=> .slice (if cap=q then a else a.map fun x=>⟨x.block,x.off+q,none⟩) (len-q) (cap-q)
  |u=>u
def Zhy(v:Value):Value:=match v with
  | .slice a _ cap=> .slice a 0 cap
  |u=>u
def W0(v:Value):Prop:=∀a len cap,v= .slice a len cap->len<=cap
section
variable {P:Program} {L:List (Nat×Value)} {w w0:World} {o:Oper} {x y z:Operand} {T T':TypeId} {l l1 l2 l3:List Ent} {E:TypeId}
theorem YV{v:Value}{n:Int}{q:Nat}(h:Slh v n)(hr:W0 v)(hq:(q:Int)<=n):Suf (Xv v q) v q n:=by
 obtain⟨h0,h1,a,cap,rfl,hz⟩:=h
 have hc:=hr _ _ _ rfl
 refine⟨⟨by omega,Oa,(if cap=q then a else a.map fun x=>⟨x.block,x.off+q,none⟩),cap-q,?_,?_⟩,fun k k0 k1=> ?_⟩
 · unfold Xv;dsimp only;congr 1;omega
 · rcases hz with hz|⟨b,off,rfl⟩
   · left;omega
   · right;by_cases hcq:cap=q
     · exact⟨b,off,by rw [if_pos hcq]⟩
     · exact⟨b,off+q,by rw [if_neg hcq];rfl⟩
 · rcases hz with hz|⟨b,off,rfl⟩
   · omega
   · have hcq:cap≠q:=Oa
     unfold Xv cad;dsimp only
     rw [if_neg hcq]
     have:(k+q).toNat=k.toNat+q:=Oa
     simp [this];omega
theorem YS{v:Value}{n i:Int}{q s:Nat}(ho:o.op= .slice T x (some y) none none)(ht:Zu P T=some (E,s))(hs:s=1)(hx:evL L x=some v)(hy:evL L y=some (.int Oi i))(hv:Slh v n)(hi:i=q)(hq1:1<=q)(hq:(q:Int)<=n):
   Runs P L w o (.value (Xv v q)) w:=fun ρ h=>by
 subst hs;subst hi
 obtain⟨hu,inf,hin,hsz⟩:=Zr ht
 obtain⟨h0,h1,a,cap,rfl,hz⟩:=hv
 have hq':q<=n.toNat:=Oa
 have hb:(Instr.sliceBounds true n.toNat cap (some (.int Oi (q:Int))) none none).run P w= .ok (q,n.toNat,cap) w:=by
   simp [Instr.sliceBounds,Instr.sliceBound,asIntOf]
   omega
 have e:(Instr.sliceAt T (.slice a n.toNat cap) (some (.int Oi (q:Int))) none none).run P w= .ok (Xv (.slice a n.toNat cap) q) w:=by
   unfold Instr.sliceAt
   simp only [Sem.run_bind,run_underlying hu,Result.andThen_ok,Instr.slice,hb]
   simp [sizeOf,typeInfo,hin,hsz,Xv]
   rcases hz with hz|⟨b,off,rfl⟩
   · omega
   · by_cases hc:cap=q
     · simp [hc]
     · simp [hc,Addr.add_eq]
 simp [execOp,ho,h _ _ hx,h _ _ hy,e]
theorem Ent.holds.roomy{v:Value}{s:Nat}{n:Int}{c:Int->Value}(h:(Ent.own v s E n c).holds w):W0 v:=fun a len cap e=>by
 obtain⟨_,_,⟨rfl,_⟩|⟨g,cap',cur,rfl,_,h2,_⟩⟩:=h
 · cases e;omega
 · cases e;exact h2
theorem Zes{v:Value}{n:Int}(h:Slh v n):Slh (Zhy v) 0:=by
 obtain⟨_,_,a,cap,rfl,_⟩:=h
 exact⟨by omega,Oa,a,cap,rfl,.inl rfl⟩
theorem V7{v:Value}{n:Int}{s:Nat}(ho:o.op= .slice T x none (some y) none)(ht:Zu P T=some (E,s))(hx:evL L x=some v)(hy:evL L y=some (.int Oi 0))(hv:Slh v n):Runs P L w o (.value (Zhy v)) w:=fun ρ h=>by
 obtain⟨hu,inf,hin,hsz⟩:=Zr ht
 obtain⟨h0,h1,a,cap,rfl,hz⟩:=hv
 have hb:(Instr.sliceBounds true n.toNat cap none (some (.int Oi 0)) none).run P w= .ok (0,0,cap) w:=by
   simp [Instr.sliceBounds,Instr.sliceBound,asIntOf]
 have e:(Instr.sliceAt T (.slice a n.toNat cap) none (some (.int Oi 0)) none).run P w= .ok (Zhy (.slice a n.toNat cap)) w:=by
   unfold Instr.sliceAt
   simp only [Sem.run_bind,run_underlying hu,Result.andThen_ok,Instr.slice,hb]
   simp [sizeOf,typeInfo,hin,hsz,Zhy,Addr.add]
 simp [execOp,ho,h _ _ hx,h _ _ hy,e]
theorem Sat.cut{v:Value}{s:Nat}{n:Int}{c:Int->Value}(i:Nat)(h:Sat w0 w l)(hi:l[i]? =some (.own v s E n c))(d:Int->Value):Sat w0 w (l.set i (.own (Zhy v) s E 0 d)):=by
 have h':=h
 rw [Z3 hi] at h'
 rw [Yx hi]
 refine h'.turn (fun _ _ _=>rfl) rfl rfl rfl (Nat.le_refl _) ?_ (fun g hg=> .inl ?_)
 · obtain⟨_,_,⟨rfl,_⟩|⟨g,cap',cur,rfl,hg,h2,h3,h4,_⟩⟩:=h'.get
   · exact⟨by omega,Oa,.inl ⟨rfl,rfl⟩⟩
   · exact⟨by omega,Oa,.inr ⟨g,cap',cur,rfl,hg,Oa,h3,h4,fun k hk=>by rw [Int.zero_mul] at hk;omega⟩⟩
 · obtain⟨_,_,⟨rfl,_⟩|⟨g,cap',cur,rfl,_⟩⟩:=h'.get
   · exact hg
   · exact hg
theorem WB(ho:o.op= .call {callee:= .builtin .cap,args:= #[x],argTypes:= #[T]}){s:Nat}(ht:Zu P T=some (E,s))(hx:evL L x=some Oh):Runs P L w o (.value (.int Oi 0)) w:=fun ρ h=>by
 obtain⟨hu,_⟩:=Zr ht
 simp [execOp,ho,resolve,invoke,builtin,h _ _ hx,Builtin.cap_,run_underlying hu]
 rfl
theorem T8{n:Int}{zv:Value}{b:Nat}(ho:o.op= .call {callee:= .builtin .append,args:= #[x,y],argTypes:= #[T,T']})(ht:Zu P T=some (E,1))(hk:P.underlying T'=some (.int .i64))(he:ZN P E=some (zv,1,b))(hz:zv.cells= #[zv])(hb0:1<=b)
   (hx:evL L x=some Oh) (hy:evL L y=some (.int Oi n)) (h1:1<=n) (hb:b*n<=140737488355328) (hS:Sat w0 w l):
   ∃u w',Runs P L w o (.value u) w'/\Sat w0 w' (l++ [.own u 1 E n (fun _=>zv)])/\Slh u n:=by
 obtain⟨hut,_⟩:=Zr ht
 obtain⟨i,hi,hzz,hsz,hby⟩:=Yq he
 have hle:n<=b*n:=by
   have:=Int.mul_le_mul_of_nonneg_right (show(1:Int)<=b by omega) (show 0<=n by omega)
   omega
 have hw:IntKind.i64.wrap n=n:=by rw [IntKind.wrap_i64];omega
 have h48:¬(281474976710656<n*(i.bytes:Int)):=by rw [hby,Int.mul_comm];omega
 have hn0:¬n<0:=Oa
 have hbn:((n.toNat*i.bytes:Nat):Int)=b*n:=by rw [Int.natCast_mul,hby,Int.toNat_of_nonneg Oa,Int.mul_comm]
 have yY:¬(281474976710656<Builtin.nextslicecap n.toNat 0*i.bytes):=by rw [nextslicecap_zero Oa];omega
 have h63:¬(9223372036854775807<(n.toNat:Int)):=Oa
 have hnz:¬n.toNat=0:=Oa
 have bc:¬n.toNat*i.size=0:=by rw [hsz];omega
 have hr:∀ty,(Builtin.append_ #[T,T'] ty #[Oh,.int Oi n]).run P w= .ok (.slice (some ⟨w.heap.size,0,none⟩) n.toNat (grownCap w n.toNat 0 E)) (w.drew.alloc (.cells (Builtin.zeroCells zv.cells n.toNat++Builtin.zeroCells zv.cells (grownCap w n.toNat 0 E-n.toNat)) E)):=fun ty=>by
   simp [Builtin.append_,run_underlying hut,run_underlying hk,sizeOf,typeInfo,zeroValue,hi,hzz,asInt,asIntOf,hw,hn0,h48,hnz,yY,h63,Question.forced,newRow,grownCap,Builtin.firstCells,bc]
   rw [if_neg Oa,if_neg Oa]
 have hge:=grownCap_ge w n.toNat 0 E
 have hmx:=grownCap_le_maxLen w n.toNat 0 E (by unfold maxLen;omega)
 have hE:(Ent.own (.slice (some ⟨w.heap.size,0,none⟩) n.toNat (grownCap w n.toNat 0 E)) 1 E n (fun _=>zv)).holds (w.drew.alloc (.cells (Builtin.zeroCells zv.cells n.toNat++Builtin.zeroCells zv.cells (grownCap w n.toNat 0 E-n.toNat)) E)):=by
   refine⟨by omega,Oa,.inr ⟨_,_,_,rfl,by have:=heap_alloc_new w.drew (.cells (Builtin.zeroCells zv.cells n.toNat++Builtin.zeroCells zv.cells (grownCap w n.toNat 0 E-n.toNat)) E);simpa using this,hge,hmx,?_,fun k hk=> ?_⟩⟩
   · simp [Builtin.zeroCells,hz];omega
   · have:k<n.toNat:=Oa
     rw [Array.getElem?_append_left (by simp [Builtin.zeroCells,hz];omega)]
     simp [Builtin.zeroCells,hz,this,Nat.mod_one]
 refine⟨_,_,fun ρ h=> ?_,hS.draw.alloc _ hE (fun g hg=>by simp [Ent.has,Value.ownBlock] at hg;simp [hg]),hE.row.slh⟩
 simp [execOp,ho,resolve,invoke,builtin,h _ _ hx,h _ _ hy,hr]
theorem V9 {v u:Value} {n:Int} {c d:Int->Value} (i:Nat) (ho:o.op= .call {callee:= .builtin .copy,args:= #[x,y],argTypes:= #[T,T']}) (ht:Zu P T=some (E,1)) (hx:evL L x=some v) (hy:evL L y=some u) (hS:Sat w0 w l) (hi:l[i]? =some (.own v 1 E n c)) (hR:Row w u 1 n d) (h1:∀k,0<=k->k<n->(d k).oneCell'=true):
   ∃r w',Runs P L w o (.value r) w'/\r= .int Oi n/\Sat w0 w' (l.set i (.own v 1 E n d)):=by
 obtain⟨hu,inf,hin,hsz⟩:=Zr ht
 have hS':=hS
 rw [Z3 hi] at hS'
 rw [Yx hi]
 have xZ:(P.info? E).map (·.size)=some 1:=by rw [hin];simp [hsz]
 have hg:=hS'.get
 have hn0:=hR.slh.n0
 obtain⟨_,_,a,cap,rfl,hz⟩:=hR.slh
 have done:∀{w':World} (r:Value),(Builtin.copy_ #[T,T'] 0 #[v,.slice a n.toNat cap]).run P w= .ok r w'->Runs P L w o (.value r) w':=fun r hr ρ h=>by
   have hr':∀ty,(Builtin.copy_ #[T,T'] ty #[v,.slice a n.toNat cap])=Builtin.copy_ #[T,T'] 0 #[v,.slice a n.toNat cap]:=fun _=>rfl
   simp [execOp,ho,resolve,invoke,builtin,h _ _ hx,h _ _ hy,hr',hr]
 by_cases h0:n=0
 · subst h0
   have key:∃p q s,v= .slice p q s/\q=0:=by
     obtain⟨_,_,⟨rfl,_⟩|⟨g,cap',cur,rfl,_⟩⟩:=hg
     · exact⟨_,_,_,rfl,rfl⟩
     · exact⟨_,_,_,rfl,rfl⟩
   obtain⟨p,q,s,rfl,rfl⟩:=key
   have hr:=run_copy_none (P:=P) w T T' 0 E p a 0 s 0 cap hu xZ rfl
   have h2:=hS'.turn (d:= .own (.slice p 0 s) 1 E 0 c) (e:= .own (.slice p 0 s) 1 E 0 d) (fun _ _ _=>rfl) rfl rfl rfl (Nat.le_refl _) (hg.congr fun k k0 k1=>by rw [Int.zero_mul] at k1;omega) (fun _ h=> .inl h)
   exact⟨_,_,done _ hr,rfl,h2⟩
 · rcases hz with hz|⟨b,off,rfl⟩
   · exact absurd hz h0
   · obtain⟨_,_,⟨rfl,hz⟩|⟨g,cap',cur,rfl,hh,h2,h3,h4,h5⟩⟩:=hg
     · exact absurd hz h0
     · have hl:=YB d n.toNat
       have hr:=run_copy_row (P:=P) w T T' 0 E g 0 n.toNat cap' ⟨b,off,none⟩ n.toNat cap cur E (cellsOf d n.toNat) hu xZ hh (by rw [hl];exact(Nat.min_self _).symm) (fun j t hj=>by
         rw [cellsOf_get] at hj
         split at hj
         · rename_i hlt
           cases hj
           have:=hR.2 j Oa
           rw [Addr.add_eq _ rfl]
           simpa [cad] using this
         · cases hj) (by rw [hl,h4];omega) (fun t ht=>by
         obtain⟨j,hj⟩:=List.getElem?_of_mem ht
         rw [cellsOf_get] at hj
         split at hj
         · cases hj;exact h1 _ Oa Oa
         · cases hj)
       rw [hl] at hr
       refine⟨_,_,done _ hr,by simp [goInt];omega,?_⟩
       refine hS'.turn (fun k _ hk=> ?_) rfl rfl rfl (by simp [World.setRow]) ⟨by omega,Oa,.inr ⟨g,cap',_,rfl,setRow_heap w g cur _ E _ hh,h2,h3,?_,fun k hk=> ?_⟩⟩ (fun _ h=> .inl h)
       · have:k≠g:=fun e=>hk (by rw [e];rfl)
         simp [World.setRow,Array.getElem?_modify,Ne.symm this]
       · simp [hl,h4];omega
       · have hk':k<n.toNat:=Oa
         simp [List.getElem?_append,hk',cellsOf]
end
theorem Slh.cells{v:Value}{n:Int}(h:Slh v n):v.cells= [v].toArray:=by
 obtain⟨_,_,a,cap,rfl,_⟩:=h;rfl
theorem Xo(n:Int)(f g:Of):cat (n*1) (ints f) (ints g)=ints (cat n f g):=by rw [Int.mul_one,ZhS]
theorem R2{l1 l2 m:List Ent}{a:Ent}(h:(l1++l2).Perm m):(l1++a::l2).Perm (a::m):=List.perm_middle.trans (.cons _ h)
theorem Td(w:World)(s:Nat)(c:Int->Value):Row w Oh s 0 c:=⟨slh_nil,fun k hk=>by rw [Int.zero_mul] at hk;omega⟩
theorem Zaf{fn:Func}{t u s r:Tmp}(h:fn.results= #[.tmp t,.tmp u,.tmp s,.tmp r])(tmps:Array Value)(P:Program)(w:World):
   (results fn tmps).run P w= .ok (.tuple #[tmps.getD t undef,tmps.getD u undef,tmps.getD s undef,tmps.getD r undef]) w:=by
 simp [results,h]
theorem Zp2{P:Program}{L:List (Nat×Value)}{w:World}{fn:Func}{R:Ending->World->Prop}{a:Act}{n t u s r:Nat}{v x y z:Value}(hF:Fr a n [] L)(hr:fn.results= #[.tmp t,.tmp u,.tmp s,.tmp r])(hv:lk L t=some v)(hx:lk L u=some x)(hy:lk L s=some y)(hz:lk L r=some z)(h:R (.returned (.tuple #[v,x,y,z])) w):bodyPost P fn R .ret a w:=
 ⟨hF.defers,_,by rw [Zaf hr,hF.get t v hv,hF.get u x hx,hF.get s y hy,hF.get r z hz],h⟩
theorem Sat.rerows{w w0:World}{l:List Ent}{E:TypeId}{n:Int}{vv vv':Int->Value}{ln ln':Of}{f f':Og}(i:Nat)(h:Sat w0 w l)(hi:l[i]? =some (.sem (Frame.rows E n vv ln f)))(e:∀k,0<=k->k<n->vv k=vv' k/\ln k=ln' k/\∀j,0<=j->j<ln k->f k j=f' k j):Sat w0 w (l.set i (.sem (Frame.rows E n vv' ln' f'))):=by
 have h':=h
 rw [Z3 hi] at h'
 rw [Yx hi]
 refine h'.turn (fun _ _ _=>rfl) rfl rfl rfl (Nat.le_refl _) ?_ (fun g hg=> .inl ?_)
 · have hr:=h'.get
   refine⟨fun k k0 k1=> ?_,fun p q p0 p1 q0 q1 hpq g=> ?_⟩
   · obtain⟨e1,e2,e3⟩:=e k k0 k1
     rw [<-e1,<-e2]
     exact(hr.1 k k0 k1).congr fun j j0 j1=>by unfold ints;rw [e3 j j0 (by simpa using j1)]
   · rw [<-(e p p0 p1).1,<-(e q q0 q1).1];exact hr.2 p q p0 p1 q0 q1 hpq g
 · obtain⟨k,k0,k1,hk⟩:=hg
   exact⟨k,k0,k1,by rw [(e k k0 k1).1];exact hk⟩
end Go.Proofs.Gw
namespace Go.Proofs.Gw
open Go Go.RowKit
section
variable {P:Program} {l rest:List Oper} {Q Q':Exit->Act->World->Prop} {w w' w0:World} {o:Oper} {n d:Nat} {ds:List Deferred} {L M:List (Nat×Value)} {x y:Code} {c:Operand} {e:Exit} {p:Prop}
def Gl(P:Program)(n:Nat)(ds:List Deferred)(l:List Oper)(Q:Exit->Act->World->Prop)(rest:List Oper)(L:List (Nat×Value))(w:World):Prop:=∀a,Fr a n ds L->wpList P l.toArray Q rest a w
def Gc(P:Program)(n:Nat)(ds:List Deferred)(Q:Exit->Act->World->Prop)(x:Code)(L:List (Nat×Value))(w:World):Prop:=∀a,Fr a n ds L->x.wp P Q a w
def Ge(n:Nat)(ds:List Deferred)(Q:Exit->Act->World->Prop)(e:Exit)(L:List (Nat×Value))(w:World):Prop:=∀a,Fr a n ds L->Q e a w
def gdB (l:List Oper) (L:List (Nat×Value)) (o:Oper):Option Bool:=
  match o.guard with
  |none=>some true
  | some (j,p)=>
    match l[j]? with
    |none=>none
    | some oj=>
      match oj.dst with
      |none=>none
      | some dj=>
        match lk L dj with
        |some (.bool t)=>some (t==p)
        |some (.tuple t)=>if t.size=0 then some false else none
        |_=>none
theorem Z8 {b:Bool} (h:gdB l L o=some b):Want l L o b:=by
 unfold gdB at h
 split at h
 · rename_i hg;cases h;exact .free hg
 · rename_i j p hg
   split at h
   · cases h
   · rename_i oj hj
     split at h
     · cases h
     · rename_i dj hd
       split at h
       · rename_i t ht;exact .on hg hj hd ht (by injection h)
       · rename_i t ht
         split at h
         · rename_i hs
           injection h with h;subst h
           have:t= #[]:=Array.eq_empty_of_size_eq_zero hs
           subst this
           exact .off hg hj hd ht
         · cases h
       · cases h
theorem zlv{v:Value}(hr:Runs P L w o (.value v) w')(K:Gl P n ds l Q rest ((d,v)::L) w')(hg:gdB l L o=some true:=by exact rfl)(hd:o.dst=some d:=by exact rfl)(hdn:Nat.blt d n=true:=by exact rfl):Gl P n ds l Q (o::rest) L w:=
 fun _ hF=>ZgE hF (Z8 hg) hd hdn hr K
theorem KP{v:Value}(hg:gdB l L o=some true)(hd:o.dst=some d)(hdn:Nat.blt d n=true)(hr:Runs P L w o (.value v) w')(K:Gl P n ds l Q rest ((d,v)::L) w'):Gl P n ds l Q (o::rest) L w:=zlv hr K hg hd hdn
theorem zlo(K:Gl P n ds l Q rest ((d,undef)::L) w)(hg:gdB l L o=some false:=by exact rfl)(hd:o.dst=some d:=by exact rfl)(hdn:Nat.blt d n=true:=by exact rfl):Gl P n ds l Q (o::rest) L w:=
 fun _ hF=>Zlw hF (Z8 hg) hd hdn K
theorem zla{R:Value->World->Prop}(hr:∃v w',Runs P L w o (.value v) w'/\R v w')(K:∀v w',R v w'->Gl P n ds l Q rest ((d,v)::L) w')(hg:gdB l L o=some true:=by exact rfl)(hd:o.dst=some d:=by exact rfl)(hdn:Nat.blt d n=true:=by exact rfl):Gl P n ds l Q (o::rest) L w:=
 fun _ hF=>Zly hF (Z8 hg) hd hdn hr K
theorem KQ{R:Value->World->Prop}(hg:gdB l L o=some true)(hd:o.dst=some d)(hdn:Nat.blt d n=true)(hr:∃v w',Runs P L w o (.value v) w'/\R v w')(K:∀v w',R v w'->Gl P n ds l Q rest ((d,v)::L) w'):Gl P n ds l Q (o::rest) L w:=zla hr K hg hd hdn
theorem zle{R:World->Prop}(hr:∃w',Runs P L w o .skip w'/\R w')(K:∀w',R w'->Gl P n ds l Q rest L w')(hg:gdB l L o=some true:=by exact rfl)(hd:o.dst=none:=by exact rfl):Gl P n ds l Q (o::rest) L w:=
 fun a hF=>Zjt hF (Z8 hg) hd hr fun w' h=>K w' h a hF
theorem zlc{f:FuncId}{args:Array Value}{R:Value->World->Prop}(hr:Runs P L w o (.enter f args) w)(hc:Calls P f args w fun e w'=>∃v,e= .returned v/\R v w')(K:∀v w',R v w'->Gl P n ds l Q rest ((d,v)::L) w')
   (hg:gdB l L o=some true:=by exact rfl) (hd:o.dst=some d:=by exact rfl) (hdn:Nat.blt d n=true:=by exact rfl):Gl P n ds l Q (o::rest) L w:=
 fun _ hF=>Zju hF (Z8 hg) hd hdn hr hc K
theorem zln(K:Ge n ds Q .normal L w):Gl P n ds l Q [] L w:=K
theorem zlb(d:Nat)(ht:p->Gl P n ds l Q rest ((d,.bool true)::L) w)(hf:¬p->Gl P n ds l Q rest ((d,.bool false)::L) w)(hd:lk L d=some (B p):=by exact rfl):Gl P n ds l Q rest L w:=
 fun _ hF=>ZeG hF hd (fun hp h=>ht hp _ h) (fun hp h=>hf hp _ h)
theorem Zor(d:Nat){u v:Value}(e:v=u)(K:Gl P n ds l Q rest ((d,u)::L) w)(hd:lk L d=some v:=by exact rfl):Gl P n ds l Q rest L w:=fun a hF=>K a (hF.as hd e)
def Sub(L M:List (Nat×Value)):Prop:=∀t v,lk M t=some v->lk L t=some v
theorem KO:Sub L []:=fun t v h=>by simp [lk] at h
theorem zpk{t:Nat}{v:Value}(h:lk L t=some v)(hM:Sub L M):Sub L ((t,v)::M):=fun s u hs=>by
 simp only [lk] at hs
 by_cases e:t=s
 · subst e
   rw [Nat.beq_refl] at hs
   simp only [cond_true,Option.some.injEq] at hs
   subst hs;exact h
 · rw [Ze8 e] at hs
   exact hM s u hs
theorem Fr.sub{a:Act}(h:Fr a n ds L)(hM:Sub L M):Fr a n ds M:=⟨h.size,h.defers,fun t v ht=>h.get t v (hM t v ht)⟩
theorem zsq(h:Gc P n ds (Exit.then (y.wp P Q) Q) x L w):Gc P n ds Q (.seq x y) L w:=fun a hF=>wp_seq (h a hF)
theorem zrg{id:Nat}(h:Gl P n ds l Q l L w):Gc P n ds Q (.region id l.toArray false) L w:=fun a hF=>wp_region_lit (h a hF)
theorem Zf(ht:p->Gc P n ds Q x L w)(hf:¬p->Gc P n ds Q y L w)(hc:evL L c=some (B p):=by exact rfl):Gc P n ds Q (.cond c x y) L w:=fun a hF=>ZoZ hF hc (fun h=>ht h a hF) fun h=>hf h a hF
theorem zct(h:Gc P n ds Q x L w)(hc:evL L c=some (.bool true):=by exact rfl):Gc P n ds Q (.cond c x y) L w:=fun a hF=>Zp7 hF hc (h a hF)
theorem zcf(h:Gc P n ds Q y L w)(hc:evL L c=some (.bool false):=by exact rfl):Gc P n ds Q (.cond c x y) L w:=fun a hF=>Zp8 hF hc (h a hF)
theorem zsk(h:Ge n ds Q .normal L w):Gc P n ds Q .skip L w:=fun a hF=>wp_skip (h a hF)
theorem zrt(h:Ge n ds Q .ret L w):Gc P n ds Q .ret L w:=fun a hF=>wp_ret (h a hF)
theorem zxt{id:Nat}(h:Ge n ds Q (.exit id) L w):Gc P n ds Q (.exit id) L w:=fun a hF=>wp_exit (h a hF)
theorem zbk{id:Nat}(h:Gc P n ds (Exit.inBlock id Q) x L w):Gc P n ds Q (.block id x) L w:=fun a hF=>wp_block (h a hF)
theorem ztn(h:Gc P n ds Q y L w):Ge n ds (Exit.then (y.wp P Q) Q') .normal L w:=h
theorem ztx{id:Nat}{K:Act->World->Prop}(h:Ge n ds Q (.exit id) L w):Ge n ds (Exit.then K Q) (.exit id) L w:=h
theorem ztr{K:Act->World->Prop}(h:Ge n ds Q .ret L w):Ge n ds (Exit.then K Q) .ret L w:=h
theorem zbn{id:Nat}(h:Ge n ds Q .normal L w):Ge n ds (Exit.inBlock id Q) .normal L w:=h
theorem zbr{id:Nat}(h:Ge n ds Q .ret L w):Ge n ds (Exit.inBlock id Q) .ret L w:=h
theorem zbh{id:Nat}(h:Ge n ds Q .normal L w):Ge n ds (Exit.inBlock id Q) (.exit id) L w:=fun a hF=>ZjD (h a hF)
theorem zlp(J:Nat->List (Nat×Value)->World->Prop){m:Nat}(h0:J m M w)(round:∀m M w,J m M w->Gc P n ds (Exit.then (fun a w=>∃m',m'<m/\∃M',J m' M' w/\Fr a n ds M') Q) x M w)
   (hM:Sub L M:=by repeat' first|exact KO|refine zpk rfl ?_):Gc P n ds Q (.loop x) L w:=fun a hF=>
 Zj1 (fun m a w=>∃M,J m M w/\Fr a n ds M) ⟨M,h0,hF.sub hM⟩ fun m a w ⟨M',hJ,hF'⟩=>round m M' w hJ a hF'
theorem zlq{J:Nat->List (Nat×Value)->World->Prop}{m m':Nat}(hJ:J m' M w)(hlt:m'<m:=by omega)(hM:Sub L M:=by repeat' first|exact KO|refine zpk rfl ?_):Ge n ds (Exit.then (fun a w=>∃m',m'<m/\∃M',J m' M' w/\Fr a n ds M') Q) .normal L w:=
 fun a hF=>⟨m',hlt,M,hJ,hF.sub hM⟩
theorem VI(J:List (Nat×Value)->World->Prop)(h:Gc P n ds (Exit.then (fun a w=>∃M,J M w/\Fr a n ds M) (fun e a w=>e≠ .normal/\Q e a w)) x L w)(k:∀M w,J M w->Ge n ds Q .normal M w):Gc P n ds Q x L w:=
 fun a hF=>Zmq (fun a w=>∃M,J M w/\Fr a n ds M) (h a hF) fun a w ⟨M,hJ,hF'⟩=>k M w hJ a hF'
theorem zgj{J:List (Nat×Value)->World->Prop}(hJ:J M w)(hM:Sub L M:=by repeat' first|exact KO|refine zpk rfl ?_):Ge n ds (Exit.then (fun a w=>∃M,J M w/\Fr a n ds M) Q) .normal L w:=fun a hF=>⟨M,hJ,hF.sub hM⟩
theorem zenG{f:FuncId}{fn:Func}{vs:List Value}{R:Ending->World->Prop}(hf:P.funcs[f]? =some fn)(hn:fn.ntmps=n)(K:∀w,Sat w0 w []->Gc P n [] (bodyPost P fn R) x (num 0 vs) w)(hb:fn.body=some x:=by exact rfl)(hv:Nat.ble vs.length n=true:=by exact rfl):Calls P f vs.toArray w0 R:=
 Zmg hf hb hn hv fun a w hS hF=>K w hS a hF
theorem zenF{f:FuncId}{fn:Func}{vs:List Value}{R:Ending->World->Prop}(hf:P.funcs[f]? =some fn)(hn:fn.ntmps=n)(K:Gc P n [] (bodyPost P fn R) x (num 0 vs) w)(hb:fn.body=some x:=by exact rfl)(hv:Nat.ble vs.length n=true:=by exact rfl):Calls P f vs.toArray w R:=
 enter hf hb hn hv fun a hF=>K a hF
variable {fn:Func} {R:Ending->World->Prop}
theorem XD(h:R (.returned (.tuple #[])) w)(hr:fn.results= #[]:=by exact rfl):Ge n [] (bodyPost P fn R) .normal L w:=fun _ hF=>ZoU hF hr h
theorem zf0(h:R (.returned (.tuple #[])) w)(hr:fn.results= #[]:=by exact rfl):Ge n [] (bodyPost P fn R) .ret L w:=fun _ hF=>ZoU hF hr h
theorem zf1{t:Nat}{v:Value}(h:R (.returned v) w)(hr:fn.results= #[.tmp t]:=by exact rfl)(hv:lk L t=some v:=by exact rfl):Ge n [] (bodyPost P fn R) .ret L w:=fun _ hF=>Zp5 hF hr hv h
theorem Oj{t:Nat}{v:Value}{Q:Value->World->Prop}(h:Q v w)(hr:fn.results= #[.tmp t]:=by exact rfl)(hv:lk L t=some v:=by exact rfl):Ge n [] (bodyPost P fn fun e w=>∃v,e= .returned v∧Q v w) .ret L w:=zf1 ⟨_,rfl,h⟩ hr hv
theorem zf2{t u:Nat}{v z:Value}(h:R (.returned (.tuple #[v,z])) w)(hr:fn.results= #[.tmp t,.tmp u]:=by exact rfl)(hv:lk L t=some v:=by exact rfl)(hz:lk L u=some z:=by exact rfl):Ge n [] (bodyPost P fn R) .ret L w:=fun _ hF=>Zp4 hF hr hv hz h
theorem zf3{t u s:Nat}{v z y:Value}(h:R (.returned (.tuple #[v,z,y])) w)(hr:fn.results= #[.tmp t,.tmp u,.tmp s]:=by exact rfl)(hv:lk L t=some v:=by exact rfl)(hz:lk L u=some z:=by exact rfl)(hy:lk L s=some y:=by exact rfl):Ge n [] (bodyPost P fn R) .ret L w:=fun _ hF=>Zp3 hF hr hv hz hy h
theorem zf4{t u s r:Nat}{v z y q:Value}(h:R (.returned (.tuple #[v,z,y,q])) w)(hr:fn.results= #[.tmp t,.tmp u,.tmp s,.tmp r]:=by exact rfl)(hv:lk L t=some v:=by exact rfl)(hz:lk L u=some z:=by exact rfl)(hy:lk L s=some y:=by exact rfl)(hq:lk L r=some q:=by exact rfl):Ge n [] (bodyPost P fn R) .ret L w:=fun _ hF=>Zp2 hF hr hv hz hy hq h
variable {E:List Ent}
theorem Ym(i:Nat){s t g k:Nat}{T:TypeId}{v:Value}{cs:List Value}(ht:Zx P T=some k)(hS:Sat w0 w E)(h:R (.returned (.tuple #[.agg cs.toArray,v])) w)(hr:fn.results= #[.cell s T,.tmp t]:=by exact rfl)(hs:lk L s=some (Or g):=by exact rfl)(hv:lk L t=some v:=by exact rfl)
 (hi:E[i]? =some (.blk g cs):=by exact rfl) (hk:cs.length=k:=by exact rfl):Ge n [] (bodyPost P fn R) .ret L w:=fun _ hF=>ZlO i hF hr hs hv ht hS hi hk h
theorem zfc(i:Nat){s g k:Nat}{T:TypeId}{cs:List Value}(ht:Zx P T=some k)(hS:Sat w0 w E)(h:R (.returned (.agg cs.toArray)) w)(hr:fn.results= #[.cell s T]:=by exact rfl)(hs:lk L s=some (Or g):=by exact rfl)
 (hi:E[i]? =some (.blk g cs):=by exact rfl) (hk:cs.length=k:=by exact rfl):Ge n [] (bodyPost P fn R) .ret L w:=fun _ hF=>ZoT i hF hr hs ht hS hi hk h
end
section
variable {P:Program} {l:List Oper} {Q:Exit->Act->World->Prop} {S A:World->Prop} {brk:Nat} {w:World} {n d:Nat} {ds:List Deferred} {L:List (Nat×Value)} {listed:Array Bool} {fuel:Nat} {p:Prop}
def Yd(l:List Oper)(i:Nat):Oper:=match l[i]? with
  |some o=>o
  |none=>{op:= .move (.const undef),pos:= "",dst:=none,type:=0,guard:=none,after:= #[]}
theorem Xx{i:Nat}(h:Nat.blt i l.length=true):l[i]? =some (Yd l i):=by
 unfold Yd
 have:i<l.length:=by simpa [Nat.blt_eq] using h
 simp [this]
def Gd(P:Program)(n:Nat)(ds:List Deferred)(l:List Oper)(Q:Exit->Act->World->Prop)(S A:World->Prop)(brk fuel:Nat)(listed:Array Bool)(L:List (Nat×Value))(w:World):Prop:=
  Closed l.toArray listed->SA S A brk listed w->∀a,Fr a n ds L->wpB P l.toArray (NoPanic Q) S A brk fuel listed a w
theorem zdv(i:Nat){v:Value}(hr:∀w,Runs P L w (Yd l i) (.value v) w)(K:Gd P n ds l Q S A brk fuel (listed.setIfInBounds i true) ((d,v)::L) w)(hi:Nat.blt i l.length=true:=by exact rfl)(hg:gdB l L (Yd l i)=some true:=by exact rfl)(hd:(Yd l i).dst=some d:=by exact rfl)(hdn:Nat.blt d n=true:=by exact rfl)
 (hm:Wy l listed i=true:=by kernel_rfl) (hib:Nat.beq i brk=false:=by exact rfl):Gd P n ds l Q S A brk (fuel+1) listed L w:=fun hc hS a hF=>Zmm hF hc hS i (Xx hi) (Z8 hg) hd hdn hm hib hr fun a' h1 h2 h3=>K h2 h3 a' h1
theorem zDrv(i:Nat){v:Value}(hr:∀{w},Runs P L w (Yd l i) (.value v) w)(K:Gd P n ds l Q S A brk fuel (listed.setIfInBounds i true) ((d,v)::L) w)(hi:Nat.blt i l.length=true:=by exact rfl)(hg:gdB l L (Yd l i)=some true:=by exact rfl)(hd:(Yd l i).dst=some d:=by exact rfl)(hdn:Nat.blt d n=true:=by exact rfl)
 (hm:Wy l listed i=true:=by kernel_rfl) (hib:Nat.beq i brk=false:=by exact rfl):Gd P n ds l Q S A brk (fuel+1) listed L w:=zdv i (fun _=>hr) K hi hg hd hdn hm hib
theorem zDw(i:Nat){v:Value}(hr:∀{w},Runs P L w (Yd l i) (.value v) w)(hi:Nat.blt i l.length=true:=by exact rfl)(hg:gdB l L (Yd l i)=some true:=by exact rfl)(hd:(Yd l i).dst=some d:=by exact rfl)(hdn:Nat.blt d n=true:=by exact rfl)(hm:Wy l listed i=true:=by kernel_rfl)(hib:Nat.beq i brk=false:=by exact rfl):Gd P n ds l Q S A brk fuel (listed.setIfInBounds i true) ((d,v)::L) w->Gd P n ds l Q S A brk (fuel+1) listed L w:=fun K=>zdv i (fun _=>hr) K hi hg hd hdn hm hib
theorem Zbj(i:Nat)(K:Gd P n ds l Q S A brk fuel (listed.setIfInBounds i true) ((d,undef)::L) w)(hi:Nat.blt i l.length=true:=by exact rfl)(hg:gdB l L (Yd l i)=some false:=by exact rfl)(hd:(Yd l i).dst=some d:=by exact rfl)(hdn:Nat.blt d n=true:=by exact rfl)
 (hm:Wy l listed i=true:=by kernel_rfl) (hib:Nat.beq i brk=false:=by exact rfl):Gd P n ds l Q S A brk (fuel+1) listed L w:=fun hc hS a hF=>Zmn hF hc hS i (Xx hi) (Z8 hg) hd hdn hm hib fun a' h1 h2 h3=>K h2 h3 a' h1
theorem zdl(i:Nat){v:Value}(hr:∀w,S w->Runs P L w (Yd l i) (.value v) w)(K:Gd P n ds l Q S A brk fuel (listed.setIfInBounds i true) ((d,v)::L) w)(hi:Nat.blt i l.length=true:=by exact rfl)(hg:gdB l L (Yd l i)=some true:=by exact rfl)(hd:(Yd l i).dst=some d:=by exact rfl)(hdn:Nat.blt d n=true:=by exact rfl)
 (hm:Wy l listed i=true:=by kernel_rfl) (hib:Nat.beq i brk=false:=by exact rfl) (hw:(Nat.ble l.length brk||KZ l.toArray brk i)=true:=by kernel_rfl):Gd P n ds l Q S A brk (fuel+1) listed L w:=fun hc hS a hF=>ZjT hF hc hS i (Xx hi) (Z8 hg) hd hdn hm hib hw hr fun a' h1 h2 h3=>K h2 h3 a' h1
theorem YF(i:Nat){v:Value}(hr:∀w,A w->Runs P L w (Yd l i) (.value v) w)(K:Gd P n ds l Q S A brk fuel (listed.setIfInBounds i true) ((d,v)::L) w)(hi:Nat.blt i l.length=true:=by exact rfl)(hg:gdB l L (Yd l i)=some true:=by exact rfl)(hd:(Yd l i).dst=some d:=by exact rfl)(hdn:Nat.blt d n=true:=by exact rfl)
 (hm:Wy l listed i=true:=by kernel_rfl) (hib:Nat.beq i brk=false:=by exact rfl):Gd P n ds l Q S A brk (fuel+1) listed L w:=fun hc hS a hF=>Zhu hF hc hS i (Xx hi) (Z8 hg) hd hdn hm hib hr fun a' h1 h2 h3=>K h2 h3 a' h1
theorem zda(i:Nat){R:Value->World->Prop}(hr:∃v w',Runs P L w (Yd l i) (.value v) w'/\R v w')(K:∀v w',R v w'->SA S A brk (listed.setIfInBounds i true) w'/\Gd P n ds l Q S A brk fuel (listed.setIfInBounds i true) ((d,v)::L) w')(hi:Nat.blt i l.length=true:=by exact rfl)(hg:gdB l L (Yd l i)=some true:=by exact rfl)(hd:(Yd l i).dst=some d:=by exact rfl)(hdn:Nat.blt d n=true:=by exact rfl)
 (hrd:Region.ready .any l.toArray listed= [i]:=by kernel_rfl):Gd P n ds l Q S A brk (fuel+1) listed L w:=fun hc hS a hF=>Zmo hF hc i (Xx hi) (Z8 hg) hd hdn hrd hr fun v w' h a' h1 h2=>⟨(K v w' h).1,fun h3=>(K v w' h).2 h2 h3 a' h1⟩
theorem zde(i:Nat){R:World->Prop}(hr:∃w',Runs P L w (Yd l i) .skip w'/\R w')(K:∀w',R w'->SA S A brk (listed.setIfInBounds i true) w'/\Gd P n ds l Q S A brk fuel (listed.setIfInBounds i true) L w')(hi:Nat.blt i l.length=true:=by exact rfl)(hg:gdB l L (Yd l i)=some true:=by exact rfl)(hd:(Yd l i).dst=none:=by exact rfl)
 (hrd:Region.ready .any l.toArray listed= [i]:=by kernel_rfl):Gd P n ds l Q S A brk (fuel+1) listed L w:=fun hc hS a hF=>ZjV hF hc i (Xx hi) (Z8 hg) hd hrd hr fun w' h h2=>⟨(K w' h).1,fun h3=>(K w' h).2 h2 h3 a hF⟩
theorem zdc(i:Nat){f:FuncId}{args:Array Value}{R:Value->World->Prop}(hr:Runs P L w (Yd l i) (.enter f args) w)(qS:Calls P f args w fun e w'=>∃v,e= .returned v/\R v w')(K:∀v w',R v w'->SA S A brk (listed.setIfInBounds i true) w'/\Gd P n ds l Q S A brk fuel (listed.setIfInBounds i true) ((d,v)::L) w')
   (hi:Nat.blt i l.length=true:=by exact rfl) (hg:gdB l L (Yd l i)=some true:=by exact rfl) (hd:(Yd l i).dst=some d:=by exact rfl) (hdn:Nat.blt d n=true:=by exact rfl) (hrd:Region.ready .any l.toArray listed= [i]:=by kernel_rfl):Gd P n ds l Q S A brk (fuel+1) listed L w:=
 fun hc hS a hF=>ZjX hF hc i (Xx hi) (Z8 hg) hd hdn hrd hr qS fun v w' h a' h1 h2=>⟨(K v w' h).1,fun h3=>(K v w' h).2 h2 h3 a' h1⟩
theorem ZpT(i:Nat){R:Value->World->Prop}(hi:Nat.blt i l.length=true)(hg:gdB l L (Yd l i)=some true)(hd:(Yd l i).dst=some d)(hdn:Nat.blt d n=true)(hrd:Region.ready .any l.toArray listed= [i])(hr:∃v w',Runs P L w (Yd l i) (.value v) w'/\R v w')(K:∀v w',R v w'->SA S A brk (listed.setIfInBounds i true) w'/\Gd P n ds l Q S A brk fuel (listed.setIfInBounds i true) ((d,v)::L) w'):Gd P n ds l Q S A brk (fuel+1) listed L w:=zda i hr K hi hg hd hdn hrd
theorem Zld(i:Nat){v:Value}(hi:Nat.blt i l.length=true)(hg:gdB l L (Yd l i)=some true)(hd:(Yd l i).dst=some d)(hdn:Nat.blt d n=true)(hm:Wy l listed i=true)(hib:Nat.beq i brk=false)(hr:∀w,Runs P L w (Yd l i) (.value v) w)(K:Gd P n ds l Q S A brk fuel (listed.setIfInBounds i true) ((d,v)::L) w):Gd P n ds l Q S A brk (fuel+1) listed L w:=zdv i hr K hi hg hd hdn hm hib
def Gs(P:Program)(n:Nat)(ds:List Deferred)(l:List Oper)(Q:Exit->Act->World->Prop)(S A:World->Prop)(brk fuel:Nat)(listed:Array Bool)(L:List (Nat×Value))(w:World)(r:List Nat):Prop:=∀a,Fr a n ds L->ZcO P l Q S A brk fuel listed a w r
theorem U3:Gs P n ds l Q S A brk fuel listed L w []:=fun _ _=>ZlM
def G1(P:Program)(n:Nat)(ds:List Deferred)(l:List Oper)(Q:Exit->Act->World->Prop)(S A:World->Prop)(brk fuel:Nat)(listed:Array Bool)(L:List (Nat×Value))(w:World)(i:Nat):Prop:=∀a,Fr a n ds L->ZcI P l Q S A brk fuel listed a w i
theorem Xt{i:Nat}{r:List Nat}(h:G1 P n ds l Q S A brk fuel listed L w i)(hr:Gs P n ds l Q S A brk fuel listed L w r):Gs P n ds l Q S A brk fuel listed L w (i::r):=fun a hF=>ZjL (h a hF) (hr a hF)
theorem U4{r:List Nat}(h:Gs P n ds l Q S A brk fuel listed L w r)(hn:r≠ []:=by decide)(hr:Region.ready .any l.toArray listed=r:=by kernel_rfl):Gd P n ds l Q S A brk (fuel+1) listed L w:=fun hc _ a hF=>ZjU hc hn hr (h a hF)
theorem zka{i:Nat}{R:Value->World->Prop}(hr:∃v w',Runs P L w (Yd l i) (.value v) w'/\R v w')(K:∀v w',R v w'->SA S A brk (listed.setIfInBounds i true) w'/\Gd P n ds l Q S A brk fuel (listed.setIfInBounds i true) ((d,v)::L) w')(hi:Nat.blt i l.length=true:=by exact rfl)(hg:gdB l L (Yd l i)=some true:=by exact rfl)(hd:(Yd l i).dst=some d:=by exact rfl)(hdn:Nat.blt d n=true:=by exact rfl):
 G1 P n ds l Q S A brk fuel listed L w i:=fun a hF=>ZlN hF i (Xx hi) (Z8 hg) hd hdn hr fun v w' h a' h1 h2=>⟨(K v w' h).1,fun h3=>(K v w' h).2 h2 h3 a' h1⟩
theorem zkc{i:Nat}{f:FuncId}{args:Array Value}{R:Value->World->Prop}(hr:Runs P L w (Yd l i) (.enter f args) w)(qS:Calls P f args w fun e w'=>∃v,e= .returned v/\R v w')(K:∀v w',R v w'->SA S A brk (listed.setIfInBounds i true) w'/\Gd P n ds l Q S A brk fuel (listed.setIfInBounds i true) ((d,v)::L) w')
 (hi:Nat.blt i l.length=true:=by exact rfl) (hg:gdB l L (Yd l i)=some true:=by exact rfl) (hd:(Yd l i).dst=some d:=by exact rfl) (hdn:Nat.blt d n=true:=by exact rfl):G1 P n ds l Q S A brk fuel listed L w i:=fun a hF=>ZjM hF i (Xx hi) (Z8 hg) hd hdn hr qS fun v w' h a' h1 h2=>⟨(K v w' h).1,fun h3=>(K v w' h).2 h2 h3 a' h1⟩
theorem zdd(h:Ge n ds Q .normal L w)(hr:Region.ready .any l.toArray listed= []:=by kernel_rfl):Gd P n ds l Q S A brk fuel listed L w:=fun _ _ a hF=>ZjW hr (h a hF)
theorem zdb(d:Nat)(ht:p->Gd P n ds l Q S A brk fuel listed ((d,.bool true)::L) w)(hf:¬p->Gd P n ds l Q S A brk fuel listed ((d,.bool false)::L) w)(hd:lk L d=some (B p):=by exact rfl):Gd P n ds l Q S A brk fuel listed L w:=
 fun hc hS _ hF=>ZeG hF hd (fun hp h=>ht hp hc hS _ h) (fun hp h=>hf hp hc hS _ h)
def pkL:List Ent->List Nat->List Ent
  |_, []=> []
  | l,i::is=>match l[i]? with
    |some e=>e::pkL l is
    |none=>pkL l is
theorem XX{E:List Ent}:∀{is:List Nat} {e:Ent},e∈pkL E is->∃i∈is,E[i]? =some e
 | i ::is,e,h=>by
   unfold pkL at h
   split at h
   · rename_i x hx
     rcases List.mem_cons.1 h with rfl|h
     · exact⟨i,by simp,hx⟩
     · obtain⟨j,hj,h⟩:=XX h;exact⟨j,by simp [hj],h⟩
   · obtain⟨j,hj,h⟩:=XX h;exact⟨j,by simp [hj],h⟩
theorem Zix{E:List Ent}(h:E.Pairwise Apart){i j:Nat}{d e:Ent}(hi:E[i]? =some d)(hj:E[j]? =some e)(hij:i≠j):Apart d e:=by
 rw [List.pairwise_iff_getElem] at h
 obtain⟨h1,rfl⟩:=List.getElem?_eq_some_iff.1 hi
 obtain⟨h2,rfl⟩:=List.getElem?_eq_some_iff.1 hj
 rcases Nat.lt_or_ge i j with hlt|hlt
 · exact h i j h1 h2 hlt
 · exact fun g a b=>h j i h2 h1 Oa g b a
theorem Sat.pk {w0 w:World} {E:List Ent} (h:Sat w0 w E) (is:List Nat) (hn:is.Nodup:=by decide):Sat w0 w (pkL E is):=by
 refine⟨h.below,fun e he=> ?_,fun e he=> ?_,?_⟩
 · obtain⟨i,_,hi⟩:=XX he;exact h.holds e (List.mem_of_getElem? hi)
 · obtain⟨i,_,hi⟩:=XX he;exact h.new e (List.mem_of_getElem? hi)
 · skip
   induction is with
   |nil=>exact .nil
   | cons i is ih=>
     rw [List.nodup_cons] at hn
     unfold pkL
     split
     · rename_i x hx
       refine List.pairwise_cons.2 ⟨fun e he=> ?_,ih hn.2⟩
       obtain⟨j,hj,he⟩:=XX he
       exact Zix h.sep hx he (fun e'=>hn.1 (e'▸hj))
     · exact ih hn.2
theorem Sat.nl{w0 w:World}{E:List Ent}(h:Sat w0 w E):Sat w0 w []:=h.pk []
theorem Sat.cmp{w0 w w':World}{E:List Ent}(h:Sat w0 w E)(k:Sat w w' []):Sat w0 w' E:=by simpa using h.comp k
theorem zdst{w0:World}{id:Nat}{m m0 m1:List Ent}(is js:List Nat)(brk:Nat)(hm:P.follows .mixedOrders=true)(hS:Sat w0 w m)(K:∀w',Sat w0 w' m->Gd P n ds l Q (fun w'=>Sat w0 w' m0) (fun w'=>Sat w0 w' m1) brk fuel (Array.replicate fuel false) L w')
   (h0:pkL m is=m0:=by exact rfl) (h1:pkL m js=m1:=by exact rfl) (hn0:is.Nodup:=by decide) (hn1:js.Nodup:=by decide) (hn:l.length=fuel:=by exact rfl):Gc P n ds Q (.region id l.toArray true) L w:=fun a hF=>by
 subst h0;subst h1
 exact Zht (fun w'=>Sat w0 w' (pkL m is)) (fun w'=>Sat w0 w' (pkL m js)) brk hm (hS.draw.pk is hn0) (hS.draw.pk js hn1) hn fun h1 h2 h3=>K _ hS.draw h3 ⟨fun _=>h1,h2⟩ a hF
theorem zDo(i:Nat)(hi:Nat.blt i l.length=true:=by exact rfl)(hg:gdB l L (Yd l i)=some false:=by exact rfl)(hd:(Yd l i).dst=some d:=by exact rfl)(hdn:Nat.blt d n=true:=by exact rfl)(hm:Wy l listed i=true:=by kernel_rfl)(hib:Nat.beq i brk=false:=by exact rfl):Gd P n ds l Q S A brk fuel (listed.setIfInBounds i true) ((d,undef)::L) w->Gd P n ds l Q S A brk (fuel+1) listed L w:=fun K=>Zbj i K hi hg hd hdn hm hib
theorem zDl(i:Nat){v:Value}(hr:∀w,A w->Runs P L w (Yd l i) (.value v) w)(hi:Nat.blt i l.length=true:=by exact rfl)(hg:gdB l L (Yd l i)=some true:=by exact rfl)(hd:(Yd l i).dst=some d:=by exact rfl)(hdn:Nat.blt d n=true:=by exact rfl)(hm:Wy l listed i=true:=by kernel_rfl)(hib:Nat.beq i brk=false:=by exact rfl):Gd P n ds l Q S A brk fuel (listed.setIfInBounds i true) ((d,v)::L) w->Gd P n ds l Q S A brk (fuel+1) listed L w:=fun K=>YF i hr K hi hg hd hdn hm hib
end
section
variable {P:Program} {L:List (Nat×Value)} {w w0:World} {o:Oper} {x y z:Operand} {T T':TypeId} {l:List Ent} {v u:Value} {m n r i:Int} {k:IntKind} {p:Prop}
theorem xmv(ho:o.op= .move x:=by exact rfl)(hx:evL L x=some v:=by exact rfl):Runs P L w o (.value v) w:=ZjO ho hx
theorem xas(ho:o.op= .assign x:=by exact rfl)(hx:evL L x=some v:=by exact rfl):Runs P L w o (.value v) w:=Zfl ho hx
theorem xpt(ho:o.op= .pick x y z:=by exact rfl)(hx:evL L x=some (.bool true):=by exact rfl)(hy:evL L y=some v:=by exact rfl):Runs P L w o (.value v) w:=Zfj ho hx hy
theorem xpf(ho:o.op= .pick x y z:=by exact rfl)(hx:evL L x=some (.bool false):=by exact rfl)(hz:evL L z=some v:=by exact rfl):Runs P L w o (.value v) w:=Zfk ho hx hz
theorem Zh(ho:o.op= .binOp .add T x y T':=by exact rfl)(hx:evL L x=some (.int Oi m):=by exact rfl)(hy:evL L y=some (.int Oi n):=by exact rfl)(e:r=m+n:=by omega)(hr:I64 r:=by unfold I64;omega):Runs P L w o (.value (.int Oi r)) w:=Zl9 ho hx hy e hr
theorem Zp(ho:o.op= .binOp .sub T x y T':=by exact rfl)(hx:evL L x=some (.int Oi m):=by exact rfl)(hy:evL L y=some (.int Oi n):=by exact rfl)(e:r=m-n:=by omega)(hr:I64 r:=by unfold I64;omega):Runs P L w o (.value (.int Oi r)) w:=ZlR ho hx hy e hr
theorem Yi(ho:o.op= .binOp .mul T x y T':=by exact rfl)(hx:evL L x=some (.int Oi m):=by exact rfl)(hy:evL L y=some (.int Oi n):=by exact rfl)(e:r=m*n:=by omega)(hr:I64 r:=by unfold I64;omega):Runs P L w o (.value (.int Oi r)) w:=ZlX ho hx hy e hr
theorem ZfR(ho:o.op= .unOp .neg T x:=by exact rfl)(hx:evL L x=some (.int Oi m):=by exact rfl)(e:r= -m:=by omega)(hr:I64 r:=by unfold I64;omega):Runs P L w o (.value (.int Oi r)) w:=ZlW ho hx e hr
theorem Yc(ho:o.op= .binOp .lss T x y T':=by exact rfl)(hx:evL L x=some (.int k m):=by exact rfl)(hy:evL L y=some (.int k n):=by exact rfl):Runs P L w o (.value (B (m<n))) w:=Zl0 ho hx hy
theorem Xu(ho:o.op= .binOp .leq T x y T':=by exact rfl)(hx:evL L x=some (.int k m):=by exact rfl)(hy:evL L y=some (.int k n):=by exact rfl):Runs P L w o (.value (B (m<=n))) w:=Zl2 ho hx hy
theorem Yw(ho:o.op= .binOp .gtr T x y T':=by exact rfl)(hx:evL L x=some (.int k m):=by exact rfl)(hy:evL L y=some (.int k n):=by exact rfl):Runs P L w o (.value (B (n<m))) w:=Zl4 ho hx hy
theorem XE(ho:o.op= .binOp .geq T x y T':=by exact rfl)(hx:evL L x=some (.int k m):=by exact rfl)(hy:evL L y=some (.int k n):=by exact rfl):Runs P L w o (.value (B (n<=m))) w:=Zl5 ho hx hy
theorem YT(ho:o.op= .binOp .eql T x y T':=by exact rfl)(hx:evL L x=some (.int k m):=by exact rfl)(hy:evL L y=some (.int k n):=by exact rfl):Runs P L w o (.value (B (m=n))) w:=Zl6 ho hx hy
theorem YE(ho:o.op= .binOp .neq T x y T':=by exact rfl)(hx:evL L x=some (.int k m):=by exact rfl)(hy:evL L y=some (.int k n):=by exact rfl):Runs P L w o (.value (B (m≠n))) w:=ZlV ho hx hy
theorem YI(ho:o.op= .unOp .not T x:=by exact rfl)(hx:evL L x=some (B p):=by exact rfl):Runs P L w o (.value (B (¬p))) w:=ZlU ho hx
theorem xnt(ho:o.op= .unOp .not T x:=by exact rfl)(hx:evL L x=some (.bool true):=by exact rfl):Runs P L w o (.value (.bool false)) w:=Zg9 ho hx
theorem xnf(ho:o.op= .unOp .not T x:=by exact rfl)(hx:evL L x=some (.bool false):=by exact rfl):Runs P L w o (.value (.bool true)) w:=Zha ho hx
theorem xkt{w':World}(h:Runs P L w o (.value (B p)) w')(hp:p:=by omega):Runs P L w o (.value (.bool true)) w':=ZjA h hp
theorem xkf{w':World}(h:Runs P L w o (.value (B p)) w')(hp:¬p:=by omega):Runs P L w o (.value (.bool false)) w':=ZjB h hp
theorem xfb(k':Nat){g q off f:Nat}(ht:Zv P T f=some off)(ho:o.op= .fieldAddr T x f:=by exact rfl)(hx:evL L x=some (.pointer (some ⟨g,q,none⟩)):=by exact rfl)(hk:q+off=k':=by exact rfl):Runs P L w o (.value (.pointer (some ⟨g,k',none⟩))) w:=
 Zco ho ht hx (by rw [Addr.add_eq _ rfl,hk])
theorem xfc{kk q:Int}{off f:Nat}(ht:Zv P T f=some off)(hv:Slh v n)(ho:o.op= .fieldAddr T x f:=by exact rfl)(hx:evL L x=some (.pointer (some (cad v q))):=by exact rfl)(h0:0<=q:=by omega)(h1:0<n:=by omega)(hk:q+off=kk:=by omega):Runs P L w o (.value (.pointer (some (cad v kk)))) w:=
 Zco ho ht hx (by rw [Zez hv h0 h1,hk])
theorem xix{kk:Int}{E:TypeId}{s:Nat}(ht:Zu P T=some (E,s))(hv:Slh v n)(ho:o.op= .indexAddr T x y:=by exact rfl)(hx:evL L x=some v:=by exact rfl)(hy:evL L y=some (.int Oi i):=by exact rfl)(h0:0<=i:=by omega)(h1:i<n:=by omega)(e:kk=i*s:=by omega):Runs P L w o (.value (.pointer (some (cad v kk)))) w:=Zhb ho ht hx hy hv h0 h1 e
theorem xlb(j:Nat){g q:Nat}{cs:List Value}(ht:ZG P T=true)(hS:Sat w0 w l)(ho:o.op= .load T x:=by exact rfl)(hx:evL L x=some (.pointer (some ⟨g,q,none⟩)):=by exact rfl)(hi:l[j]? =some (.blk g cs):=by exact rfl)(hk:cs[q]? =some v:=by exact rfl):Runs P L w o (.value v) w:=Zcn j ho ht hx hS hi hk
theorem xls(j:Nat){g q:Nat}{cs:List Value}(ht:Zx P T=some q)(hS:Sat w0 w l)(ho:o.op= .load T x:=by exact rfl)(hx:evL L x=some (Or g):=by exact rfl)(hi:l[j]? =some (.blk g cs):=by exact rfl)(hk:cs.length=q:=by exact rfl):Runs P L w o (.value (.agg cs.toArray)) w:=ZaF j ho ht hx hS hi hk
theorem xlr{s:Nat}{q:Int}{c:Int->Value}(ht:ZG P T=true)(hR:Row w v s n c)(ho:o.op= .load T x:=by exact rfl)(hx:evL L x=some (.pointer (some (cad v q))):=by exact rfl)(h0:0<=q:=by omega)(h1:q<n*s:=by omega)(e:c q=u:=by exact rfl):Runs P L w o (.value u) w:=Zcl ho ht hx hR h0 h1 e
theorem xln{E:TypeId}{s:Nat}(ht:Zu P T=some (E,s))(hv:Slh v n)(ho:o.op= .call {callee:= .builtin .len,args:= #[x],argTypes:= #[T]}:=by exact rfl)(hx:evL L x=some v:=by exact rfl):Runs P L w o (.value (.int Oi n)) w:=Zl3 ho ht hx hv
theorem xc0{g:FuncId}{xs:Array Operand}{ts:Array TypeId}{vs:List Value}(ht:Zd P g=true)(ho:o.op= .call {callee:= .value x,args:=xs,argTypes:=ts}:=by exact rfl)(hx:evL L x=some (.func (.func g) #[] #[]):=by exact rfl)(ha:UR L xs vs:=by repeat' first|exact ZcE|apply Wm rfl):Runs P L w o (.enter g vs.toArray) w:=Zhd ho hx ht ha
theorem xex{j:Nat}{vs:List Value}(ho:o.op= .extract x j:=by exact rfl)(hx:evL L x=some (.tuple vs.toArray):=by exact rfl)(hv:vs[j]? =some v:=by exact rfl):Runs P L w o (.value v) w:=Zdj ho hx hv
theorem xmf{f:Fn}{vs:List Value}{xs:Array Operand}(ho:o.op= .makeFunc f #[] xs:=by exact rfl)(ha:UR L xs vs:=by repeat' first|exact ZcE|apply Wm rfl):Runs P L w o (.value (.func f #[] vs.toArray)) w:=Zck ho ha
theorem xany(ho:∀cs b,o.op≠ .select cs b:=by intro _ _ h;cases h)(hx:(o.op.operands.toList.all fun x=>(evL L x).isSome)=true:=by exact rfl)(hr:(execOp (fun x=>(evL L x).getD undef) o).run P w= .ok (.value v) w:=by kernel_rfl):Runs P L w o (.value v) w:=Zl8 ho hx hr
theorem xbx{cs:List Value}(hS:Sat w0 w l)(ho:o.op= .box T x:=by exact rfl)(hx:evL L x=some v:=by exact rfl)(hc:v.cells=cs.toArray:=by exact rfl):∃u w',Runs P L w o (.value u) w'/\∃g,u= Or g/\Sat w0 w' (l++ [.blk g cs]):=Zl7 ho hS hx hc
theorem xal{s b:Nat}{cs:List Value}(ht:ZN P T=some (v,s,b))(hS:Sat w0 w l)(ho:o.op= .alloc T:=by exact rfl)(hc:v.cells=cs.toArray:=by exact rfl):∃u w',Runs P L w o (.value u) w'/\∃g,u= Or g/\Sat w0 w' (l++ [.blk g cs]):=Zhe ho ht hS hc
theorem xl0{E:TypeId}{s:Nat}{c:Int->Value}(ht:Zu P T=some (E,s))(hS:Sat w0 w l)(ho:o.op= .buildSlice T 0 #[]:=by exact rfl):∃u w',Runs P L w o (.value u) w'/\Sat w0 w' (l++ [.own u s E 0 c])/\Slh u 0:=ZjQ ho ht hS
theorem xsb(j:Nat){g q:Nat}{cs:List Value}(ht:ZG P T=true)(hS:Sat w0 w l)(ho:o.op= .store T x y:=by exact rfl)(hi:l[j]? =some (.blk g cs):=by exact rfl)(hx:evL L x=some (.pointer (some ⟨g,q,none⟩)):=by exact rfl)(hy:evL L y=some v:=by exact rfl)(hv:v.oneCell'=true:=by exact rfl)(hk:cs[q]? =some u:=by exact rfl):∃w',Runs P L w o .skip w'/\Sat w0 w' (l.set j (.blk g (cs.set q v))):=Zll j ho ht hS hi hx hy hv hk
theorem xsw(j:Nat){g q:Nat}{cs ds:List Value}(ht:Zx P T=some q)(hS:Sat w0 w l)(ho:o.op= .store T x y:=by exact rfl)(hi:l[j]? =some (.blk g cs):=by exact rfl)(hx:evL L x=some (Or g):=by exact rfl)(hy:evL L y=some (.agg ds.toArray):=by exact rfl)(hl:(cs.length,ds.length)=(q,q):=by exact rfl)
 (hd:∀v∈ds,v.oneCell'=true:=by repeat' first|exact Zi|apply Za rfl):∃w',Runs P L w o .skip w'/\Sat w0 w' (l.set j (.blk g ds)):=ZiX j ho ht hS hi hx hy hl hd
theorem xso(j:Nat){s:Nat}{E:TypeId}{q:Int}{c d:Int->Value}(ht:ZG P T=true)(hS:Sat w0 w l)(e:upd c q u=d)(ho:o.op= .store T x y:=by exact rfl)(hi:l[j]? =some (.own v s E n c):=by exact rfl)(hx:evL L x=some (.pointer (some (cad v q))):=by exact rfl)(hy:evL L y=some u:=by exact rfl)(hv:u.oneCell'=true:=by exact rfl)(h0:0<=q:=by omega)(h1:q<n*s:=by omega):∃w',Runs P L w o .skip w'/\Sat w0 w' (l.set j (.own v s E n d)):=Zlk j ho ht hS hi hx hy hv h0 h1 e
theorem xmk{E:TypeId}{s b:Nat}{zv:Value}(ht:Zu P T=some (E,s))(he:ZN P E=some (zv,s,b))(hS:Sat w0 w l)(ho:o.op= .makeSlice T x y:=by exact rfl)(hz:zv.cells= #[zv]:=by exact rfl)(hs:s=1:=by exact rfl)(hx:evL L x=some (.int Oi n):=by exact rfl)(hy:evL L y=some (.int Oi n):=by exact rfl)(h0:0<=n:=by omega)(hb:b*n<=140737488355328:=by omega)(h1:n<=140737488355328:=by omega):
 ∃u w',Runs P L w o (.value u) w'/\Sat w0 w' (l++ [.own u s E n (fun _=>zv)])/\Slh u n:=ZjP ho ht he hz hs hS hx hy h0 hb h1
theorem Uk(ho:o.op= .binOp .quo T x y T':=by exact rfl)(hx:evL L x=some (.int Oi m):=by exact rfl)(hy:evL L y=some (.int Oi n):=by exact rfl)(hn:n≠0:=by omega)(e:r=m.tdiv n:=by exact rfl)(hr:I64 r:=by unfold I64;omega):Runs P L w o (.value (.int Oi r)) w:=ZlT ho hx hy hn e hr
theorem ZfQ(ho:o.op= .binOp .rem T x y T':=by exact rfl)(hx:evL L x=some (.int Oi m):=by exact rfl)(hy:evL L y=some (.int Oi n):=by exact rfl)(hn:n≠0:=by omega)(e:r=m.tmod n:=by exact rfl):Runs P L w o (.value (.int Oi r)) w:=ZlS ho hx hy hn e
theorem ZfS{ts:Array TypeId}(ho:o.op= .call {callee:= .builtin .max,args:= #[x,y],argTypes:=ts}:=by exact rfl)(hx:evL L x=some (.int k m):=by exact rfl)(hy:evL L y=some (.int k n):=by exact rfl)(e:r=max m n:=by exact rfl):Runs P L w o (.value (.int k r)) w:=ZlZ ho hx hy e
theorem Rr{ts:Array TypeId}(ho:o.op= .call {callee:= .builtin .min,args:= #[x,y],argTypes:=ts}:=by exact rfl)(hx:evL L x=some (.int k m):=by exact rfl)(hy:evL L y=some (.int k n):=by exact rfl)(e:r=min m n:=by exact rfl):Runs P L w o (.value (.int k r)) w:=ZlY ho hx hy e
theorem xlp(j:Nat){g q m:Nat}{cs ds:List Value}(ht:Zx P T=some m)(hS:Sat w0 w l)(ho:o.op= .load T x:=by exact rfl)(hx:evL L x=some (.pointer (some ⟨g,q,none⟩)):=by exact rfl)(hi:l[j]? =some (.blk g cs):=by exact rfl)(hm:ds.length=m:=by exact rfl)(hd:(cs.drop q).take m=ds:=by exact rfl):Runs P L w o (.value (.agg ds.toArray)) w:=RB j ho ht hx hS hi hm hd
theorem xlw{s:Nat}{q:Int}{c:Int->Value}{cs:List Value}{m:Nat}(ht:Zx P T=some m)(hR:Row w v s n c)(e:∀(j:Nat) u,cs[j]? =some u->c (q+j)=u)(ho:o.op= .load T x:=by exact rfl)(hx:evL L x=some (.pointer (some (cad v q))):=by exact rfl)(h0:0<=q:=by omega)(h1:q+m<=n*s:=by omega)(hm:cs.length=m:=by exact rfl)(hm0:0<m:=by omega):Runs P L w o (.value (.agg cs.toArray)) w:=ZaE ho ht hx hR h0 h1 hm hm0 e
theorem xlf{a:Addr}(ht:ZG P T=true)(hc:w0.cell? a=some v)(hS:Sat w0 w l)(ho:o.op= .load T x:=by exact rfl)(hx:evL L x=some (.pointer (some a)):=by exact rfl):Runs P L w o (.value v) w:=Zcm ho ht hx hc hS
theorem xap(j:Nat){E:TypeId}{s b:Nat}{c d f:Int->Value}{zv:Value}(ht:Zu P T=some (E,s))(he:ZN P E=some (zv,s,b))(hS:Sat w0 w l)(hu:Row w u s m d)(e:cat (n*s) c d=f)(ho:o.op= .call {callee:= .builtin .append,args:= #[x,y],argTypes:= #[T,T]}:=by exact rfl)(hz:zv.cells.size=s:=by exact rfl)(hs:0<s:=by decide)
 (hi:l[j]? =some (.own v s E n c):=by exact rfl) (hx:evL L x=some v:=by exact rfl) (hy:evL L y=some u:=by exact rfl) (h1:∀k,0<=k->k<m*s->(d k).oneCell'=true:=by intros;rfl) (hr:r=n+m:=by omega) (hb:b*(n+m)<=140737488355328:=by omega) (hnm:n+m<=140737488355328:=by omega):
 ∃q w',Runs P L w o (.value q) w'/\Sat w0 w' (l.set j (.own q s E r f))/\Slh q r:=Zoi j ho ht he hz hs hS hi hx hy hu h1 hr hb hnm e
theorem xsr(q:Nat){E:TypeId}{vv:Int->Value}{zln:Of}{f f':Og}{kk j a:Int}(ht:ZG P T=true)(hS:Sat w0 w l)(e:upd f kk (upd (f kk) j a)=f')(ho:o.op= .store T x y:=by exact rfl)(hi:l[q]? =some (.sem (Frame.rows E n vv zln f)):=by exact rfl)(hx:evL L x=some (.pointer (some (cad (vv kk) j))):=by exact rfl)(hy:evL L y=some (.int Oi a):=by exact rfl)
 (k0:0<=kk:=by omega) (k1:kk<n:=by omega) (j0:0<=j:=by omega) (j1:j<zln kk:=by omega):∃w',Runs P L w o .skip w'/\Sat w0 w' (l.set q (.sem (Frame.rows E n vv zln f'))):=ZiW q ho ht hS hi hx hy k0 k1 j0 j1 e
theorem xcc{g:FuncId}{xs:Array Operand}{ts:Array TypeId}{vs cap:List Value}(ht:Zd P g=true)(ho:o.op= .call {callee:= .value x,args:=xs,argTypes:=ts}:=by exact rfl)(hx:evL L x=some (.func (.func g) #[] cap.toArray):=by exact rfl)(ha:UR L xs vs:=by repeat' first|exact ZcE|apply Wm rfl):Runs P L w o (.enter g (vs++cap).toArray) w:=Zhc ho hx ht ha
theorem xcv{S D:TypeId}{k':IntKind}(hs:(P.underlying S).isSome=true)(hd:P.underlying D=some (.int k'))(ho:o.op= .convert S D x:=by exact rfl)(hx:evL L x=some (.int k n):=by exact rfl)(hr:InK k' n:=by unfold InK;omega):Runs P L w o (.value (.int k' n)) w:=ZjR ho hs hd hx hr
theorem xli{E:TypeId}{s b len:Nat}{ps:List (Nat×Operand)}{pv:List (Nat×Value)}{cs:List Value}{c:Int->Value}{zv:Value}(ht:Zu P T=some (E,s))(he:ZN P E=some (zv,s,b))(hS:Sat w0 w l)(ho:o.op= .buildSlice T len ps.toArray:=by exact rfl)(hp:ZeK L ps pv:=by repeat' first|exact Zls|apply Zdc rfl)
   (hf:Instr.fill (fun i=>some (i*s,s)) ((Array.range (len*s)).map fun j=>zv.cells[j%zv.cells.size]!) pv=some cs.toArray:=by kernel_rfl) (hl:len*s<=16777216:=by decide) (hl0:len*s≠0:=by decide) (hn:n=len:=by exact rfl) (hcs:cs.length=len*s:=by exact rfl)
   (hc:∀k:Nat,(k:Int)<n*s->cs[k]? =some (c k):=by intro k hk;rcases k with _|_|_|_|_|_|_|_|k<;>first|rfl|(exfalso;omega)) (h1:n<=140737488355328:=by omega):∃u w',Runs P L w o (.value u) w'/\Sat w0 w' (l++ [.own u s E n c])/\Slh u n:=
 Zl1 ho ht he hS (fun ρ h=>by simpa using hp ρ h) hf hl hl0 hn hcs hc h1
end
end Go.Proofs.Gw
namespace Go.Proofs.Gw
open Go Go.RowKit
section
variable {w0 w:World} {l:List Ent}
theorem Sat.n1{a0:Ent}(h:Sat w0 w l)(e:l= [a0]:=by exact rfl):Sat w0 w [a0]:=e▸h
theorem Sat.n2{a0 a1:Ent}(h:Sat w0 w l)(e:l= [a0,a1]:=by exact rfl):Sat w0 w [a0,a1]:=e▸h
theorem Sat.n3{a0 a1 a2:Ent}(h:Sat w0 w l)(e:l= [a0,a1,a2]:=by exact rfl):Sat w0 w [a0,a1,a2]:=e▸h
theorem Sat.n4{a0 a1 a2 a3:Ent}(h:Sat w0 w l)(e:l= [a0,a1,a2,a3]:=by exact rfl):Sat w0 w [a0,a1,a2,a3]:=e▸h
theorem Sat.n5{a0 a1 a2 a3 a4:Ent}(h:Sat w0 w l)(e:l= [a0,a1,a2,a3,a4]:=by exact rfl):Sat w0 w [a0,a1,a2,a3,a4]:=e▸h
theorem Sat.n6{a0 a1 a2 a3 a4 a5:Ent}(h:Sat w0 w l)(e:l= [a0,a1,a2,a3,a4,a5]:=by exact rfl):Sat w0 w [a0,a1,a2,a3,a4,a5]:=e▸h
theorem Sat.n7{a0 a1 a2 a3 a4 a5 a6:Ent}(h:Sat w0 w l)(e:l= [a0,a1,a2,a3,a4,a5,a6]:=by exact rfl):Sat w0 w [a0,a1,a2,a3,a4,a5,a6]:=e▸h
theorem Sat.n8{a0 a1 a2 a3 a4 a5 a6 a7:Ent}(h:Sat w0 w l)(e:l= [a0,a1,a2,a3,a4,a5,a6,a7]:=by exact rfl):Sat w0 w [a0,a1,a2,a3,a4,a5,a6,a7]:=e▸h
theorem Sat.n9{a0 a1 a2 a3 a4 a5 a6 a7 a8:Ent}(h:Sat w0 w l)(e:l= [a0,a1,a2,a3,a4,a5,a6,a7,a8]:=by exact rfl):Sat w0 w [a0,a1,a2,a3,a4,a5,a6,a7,a8]:=e▸h
theorem Sat.n10{a0 a1 a2 a3 a4 a5 a6 a7 a8 a9:Ent}(h:Sat w0 w l)(e:l= [a0,a1,a2,a3,a4,a5,a6,a7,a8,a9]:=by exact rfl):Sat w0 w [a0,a1,a2,a3,a4,a5,a6,a7,a8,a9]:=e▸h
theorem Sat.n11{a0 a1 a2 a3 a4 a5 a6 a7 a8 a9 a10:Ent}(h:Sat w0 w l)(e:l= [a0,a1,a2,a3,a4,a5,a6,a7,a8,a9,a10]:=by exact rfl):Sat w0 w [a0,a1,a2,a3,a4,a5,a6,a7,a8,a9,a10]:=e▸h
theorem Sat.n12{a0 a1 a2 a3 a4 a5 a6 a7 a8 a9 a10 a11:Ent}(h:Sat w0 w l)(e:l= [a0,a1,a2,a3,a4,a5,a6,a7,a8,a9,a10,a11]:=by exact rfl):Sat w0 w [a0,a1,a2,a3,a4,a5,a6,a7,a8,a9,a10,a11]:=e▸h
theorem Sat.n13{a0 a1 a2 a3 a4 a5 a6 a7 a8 a9 a10 a11 a12:Ent}(h:Sat w0 w l)(e:l= [a0,a1,a2,a3,a4,a5,a6,a7,a8,a9,a10,a11,a12]:=by exact rfl):Sat w0 w [a0,a1,a2,a3,a4,a5,a6,a7,a8,a9,a10,a11,a12]:=e▸h
theorem Sat.n14{a0 a1 a2 a3 a4 a5 a6 a7 a8 a9 a10 a11 a12 a13:Ent}(h:Sat w0 w l)(e:l= [a0,a1,a2,a3,a4,a5,a6,a7,a8,a9,a10,a11,a12,a13]:=by exact rfl):Sat w0 w [a0,a1,a2,a3,a4,a5,a6,a7,a8,a9,a10,a11,a12,a13]:=e▸h
theorem Sat.n15{a0 a1 a2 a3 a4 a5 a6 a7 a8 a9 a10 a11 a12 a13 a14:Ent}(h:Sat w0 w l)(e:l= [a0,a1,a2,a3,a4,a5,a6,a7,a8,a9,a10,a11,a12,a13,a14]:=by exact rfl):Sat w0 w [a0,a1,a2,a3,a4,a5,a6,a7,a8,a9,a10,a11,a12,a13,a14]:=e▸h
theorem Sat.n16{a0 a1 a2 a3 a4 a5 a6 a7 a8 a9 a10 a11 a12 a13 a14 a15:Ent}(h:Sat w0 w l)(e:l= [a0,a1,a2,a3,a4,a5,a6,a7,a8,a9,a10,a11,a12,a13,a14,a15]:=by exact rfl):Sat w0 w [a0,a1,a2,a3,a4,a5,a6,a7,a8,a9,a10,a11,a12,a13,a14,a15]:=e▸h
theorem Sat.n17{a0 a1 a2 a3 a4 a5 a6 a7 a8 a9 a10 a11 a12 a13 a14 a15 a16:Ent}(h:Sat w0 w l)(e:l= [a0,a1,a2,a3,a4,a5,a6,a7,a8,a9,a10,a11,a12,a13,a14,a15,a16]:=by exact rfl):Sat w0 w [a0,a1,a2,a3,a4,a5,a6,a7,a8,a9,a10,a11,a12,a13,a14,a15,a16]:=e▸h
theorem Sat.n18{a0 a1 a2 a3 a4 a5 a6 a7 a8 a9 a10 a11 a12 a13 a14 a15 a16 a17:Ent}(h:Sat w0 w l)(e:l= [a0,a1,a2,a3,a4,a5,a6,a7,a8,a9,a10,a11,a12,a13,a14,a15,a16,a17]:=by exact rfl):Sat w0 w [a0,a1,a2,a3,a4,a5,a6,a7,a8,a9,a10,a11,a12,a13,a14,a15,a16,a17]:=e▸h
end
section
variable {P:Program} {l rest:List Oper} {Q Q':Exit->Act->World->Prop} {w:World} {n id:Nat} {ds:List Deferred} {L:List (Nat×Value)} {x y:Code}
theorem zs2{d1 d2:Nat}{v1 v2:Value}{o1 o2:Oper}(K:Gl P n ds l Q rest ((d2,v2)::((d1,v1)::L)) w)(h1:Runs P L w o1 (.value v1) w:=by first|exact xmv|exact xas|exact xpt|exact xpf|exact Yc|exact Yw|exact XE|exact Xu|exact YT|exact YE|exact xnt|exact xnf|exact YI|exact xex)(g1:gdB l L o1=some true:=by exact rfl)(e1:o1.dst=some d1:=by exact rfl)(b1:Nat.blt d1 n=true:=by exact rfl)(h2:Runs P ((d1,v1)::L) w o2 (.value v2) w:=by first|exact xmv|exact xas|exact xpt|exact xpf|exact Yc|exact Yw|exact XE|exact Xu|exact YT|exact YE|exact xnt|exact xnf|exact YI|exact xex)(g2:gdB l ((d1,v1)::L) o2=some true:=by exact rfl)(e2:o2.dst=some d2:=by exact rfl)(b2:Nat.blt d2 n=true:=by exact rfl):
 Gl P n ds l Q (o1::o2::rest) L w:=zlv h1 (zlv h2 K g2 e2 b2) g1 e1 b1
theorem zs3{d1 d2 d3:Nat}{v1 v2 v3:Value}{o1 o2 o3:Oper}(K:Gl P n ds l Q rest ((d3,v3)::((d2,v2)::((d1,v1)::L))) w)(h1:Runs P L w o1 (.value v1) w:=by first|exact xmv|exact xas|exact xpt|exact xpf|exact Yc|exact Yw|exact XE|exact Xu|exact YT|exact YE|exact xnt|exact xnf|exact YI|exact xex)(g1:gdB l L o1=some true:=by exact rfl)(e1:o1.dst=some d1:=by exact rfl)(b1:Nat.blt d1 n=true:=by exact rfl)(h2:Runs P ((d1,v1)::L) w o2 (.value v2) w:=by first|exact xmv|exact xas|exact xpt|exact xpf|exact Yc|exact Yw|exact XE|exact Xu|exact YT|exact YE|exact xnt|exact xnf|exact YI|exact xex)(g2:gdB l ((d1,v1)::L) o2=some true:=by exact rfl)(e2:o2.dst=some d2:=by exact rfl)(b2:Nat.blt d2 n=true:=by exact rfl)(h3:Runs P ((d2,v2)::((d1,v1)::L)) w o3 (.value v3) w:=by first|exact xmv|exact xas|exact xpt|exact xpf|exact Yc|exact Yw|exact XE|exact Xu|exact YT|exact YE|exact xnt|exact xnf|exact YI|exact xex)(g3:gdB l ((d2,v2)::((d1,v1)::L)) o3=some true:=by exact rfl)(e3:o3.dst=some d3:=by exact rfl)(b3:Nat.blt d3 n=true:=by exact rfl):
 Gl P n ds l Q (o1::o2::o3::rest) L w:=zlv h1 (zlv h2 (zlv h3 K g3 e3 b3) g2 e2 b2) g1 e1 b1
theorem zs4{d1 d2 d3 d4:Nat}{v1 v2 v3 v4:Value}{o1 o2 o3 o4:Oper}(K:Gl P n ds l Q rest ((d4,v4)::((d3,v3)::((d2,v2)::((d1,v1)::L)))) w)(h1:Runs P L w o1 (.value v1) w:=by first|exact xmv|exact xas|exact xpt|exact xpf|exact Yc|exact Yw|exact XE|exact Xu|exact YT|exact YE|exact xnt|exact xnf|exact YI|exact xex)(g1:gdB l L o1=some true:=by exact rfl)(e1:o1.dst=some d1:=by exact rfl)(b1:Nat.blt d1 n=true:=by exact rfl)(h2:Runs P ((d1,v1)::L) w o2 (.value v2) w:=by first|exact xmv|exact xas|exact xpt|exact xpf|exact Yc|exact Yw|exact XE|exact Xu|exact YT|exact YE|exact xnt|exact xnf|exact YI|exact xex)(g2:gdB l ((d1,v1)::L) o2=some true:=by exact rfl)(e2:o2.dst=some d2:=by exact rfl)(b2:Nat.blt d2 n=true:=by exact rfl)(h3:Runs P ((d2,v2)::((d1,v1)::L)) w o3 (.value v3) w:=by first|exact xmv|exact xas|exact xpt|exact xpf|exact Yc|exact Yw|exact XE|exact Xu|exact YT|exact YE|exact xnt|exact xnf|exact YI|exact xex)(g3:gdB l ((d2,v2)::((d1,v1)::L)) o3=some true:=by exact rfl)(e3:o3.dst=some d3:=by exact rfl)(b3:Nat.blt d3 n=true:=by exact rfl)(h4:Runs P ((d3,v3)::((d2,v2)::((d1,v1)::L))) w o4 (.value v4) w:=by first|exact xmv|exact xas|exact xpt|exact xpf|exact Yc|exact Yw|exact XE|exact Xu|exact YT|exact YE|exact xnt|exact xnf|exact YI|exact xex)(g4:gdB l ((d3,v3)::((d2,v2)::((d1,v1)::L))) o4=some true:=by exact rfl)(e4:o4.dst=some d4:=by exact rfl)(b4:Nat.blt d4 n=true:=by exact rfl):
 Gl P n ds l Q (o1::o2::o3::o4::rest) L w:=zlv h1 (zlv h2 (zlv h3 (zlv h4 K g4 e4 b4) g3 e3 b3) g2 e2 b2) g1 e1 b1
theorem zs5{d1 d2 d3 d4 d5:Nat}{v1 v2 v3 v4 v5:Value}{o1 o2 o3 o4 o5:Oper}(K:Gl P n ds l Q rest ((d5,v5)::((d4,v4)::((d3,v3)::((d2,v2)::((d1,v1)::L))))) w)(h1:Runs P L w o1 (.value v1) w:=by first|exact xmv|exact xas|exact xpt|exact xpf|exact Yc|exact Yw|exact XE|exact Xu|exact YT|exact YE|exact xnt|exact xnf|exact YI|exact xex)(g1:gdB l L o1=some true:=by exact rfl)(e1:o1.dst=some d1:=by exact rfl)(b1:Nat.blt d1 n=true:=by exact rfl)(h2:Runs P ((d1,v1)::L) w o2 (.value v2) w:=by first|exact xmv|exact xas|exact xpt|exact xpf|exact Yc|exact Yw|exact XE|exact Xu|exact YT|exact YE|exact xnt|exact xnf|exact YI|exact xex)(g2:gdB l ((d1,v1)::L) o2=some true:=by exact rfl)(e2:o2.dst=some d2:=by exact rfl)(b2:Nat.blt d2 n=true:=by exact rfl)(h3:Runs P ((d2,v2)::((d1,v1)::L)) w o3 (.value v3) w:=by first|exact xmv|exact xas|exact xpt|exact xpf|exact Yc|exact Yw|exact XE|exact Xu|exact YT|exact YE|exact xnt|exact xnf|exact YI|exact xex)(g3:gdB l ((d2,v2)::((d1,v1)::L)) o3=some true:=by exact rfl)(e3:o3.dst=some d3:=by exact rfl)(b3:Nat.blt d3 n=true:=by exact rfl)(h4:Runs P ((d3,v3)::((d2,v2)::((d1,v1)::L))) w o4 (.value v4) w:=by first|exact xmv|exact xas|exact xpt|exact xpf|exact Yc|exact Yw|exact XE|exact Xu|exact YT|exact YE|exact xnt|exact xnf|exact YI|exact xex)(g4:gdB l ((d3,v3)::((d2,v2)::((d1,v1)::L))) o4=some true:=by exact rfl)(e4:o4.dst=some d4:=by exact rfl)(b4:Nat.blt d4 n=true:=by exact rfl)(h5:Runs P ((d4,v4)::((d3,v3)::((d2,v2)::((d1,v1)::L)))) w o5 (.value v5) w:=by first|exact xmv|exact xas|exact xpt|exact xpf|exact Yc|exact Yw|exact XE|exact Xu|exact YT|exact YE|exact xnt|exact xnf|exact YI|exact xex)(g5:gdB l ((d4,v4)::((d3,v3)::((d2,v2)::((d1,v1)::L)))) o5=some true:=by exact rfl)(e5:o5.dst=some d5:=by exact rfl)(b5:Nat.blt d5 n=true:=by exact rfl):
 Gl P n ds l Q (o1::o2::o3::o4::o5::rest) L w:=zlv h1 (zlv h2 (zlv h3 (zlv h4 (zlv h5 K g5 e5 b5) g4 e4 b4) g3 e3 b3) g2 e2 b2) g1 e1 b1
theorem zs6{d1 d2 d3 d4 d5 d6:Nat}{v1 v2 v3 v4 v5 v6:Value}{o1 o2 o3 o4 o5 o6:Oper}(K:Gl P n ds l Q rest ((d6,v6)::((d5,v5)::((d4,v4)::((d3,v3)::((d2,v2)::((d1,v1)::L)))))) w)(h1:Runs P L w o1 (.value v1) w:=by first|exact xmv|exact xas|exact xpt|exact xpf|exact Yc|exact Yw|exact XE|exact Xu|exact YT|exact YE|exact xnt|exact xnf|exact YI|exact xex)(g1:gdB l L o1=some true:=by exact rfl)(e1:o1.dst=some d1:=by exact rfl)(b1:Nat.blt d1 n=true:=by exact rfl)(h2:Runs P ((d1,v1)::L) w o2 (.value v2) w:=by first|exact xmv|exact xas|exact xpt|exact xpf|exact Yc|exact Yw|exact XE|exact Xu|exact YT|exact YE|exact xnt|exact xnf|exact YI|exact xex)(g2:gdB l ((d1,v1)::L) o2=some true:=by exact rfl)(e2:o2.dst=some d2:=by exact rfl)(b2:Nat.blt d2 n=true:=by exact rfl)(h3:Runs P ((d2,v2)::((d1,v1)::L)) w o3 (.value v3) w:=by first|exact xmv|exact xas|exact xpt|exact xpf|exact Yc|exact Yw|exact XE|exact Xu|exact YT|exact YE|exact xnt|exact xnf|exact YI|exact xex)(g3:gdB l ((d2,v2)::((d1,v1)::L)) o3=some true:=by exact rfl)(e3:o3.dst=some d3:=by exact rfl)(b3:Nat.blt d3 n=true:=by exact rfl)(h4:Runs P ((d3,v3)::((d2,v2)::((d1,v1)::L))) w o4 (.value v4) w:=by first|exact xmv|exact xas|exact xpt|exact xpf|exact Yc|exact Yw|exact XE|exact Xu|exact YT|exact YE|exact xnt|exact xnf|exact YI|exact xex)(g4:gdB l ((d3,v3)::((d2,v2)::((d1,v1)::L))) o4=some true:=by exact rfl)(e4:o4.dst=some d4:=by exact rfl)(b4:Nat.blt d4 n=true:=by exact rfl)(h5:Runs P ((d4,v4)::((d3,v3)::((d2,v2)::((d1,v1)::L)))) w o5 (.value v5) w:=by first|exact xmv|exact xas|exact xpt|exact xpf|exact Yc|exact Yw|exact XE|exact Xu|exact YT|exact YE|exact xnt|exact xnf|exact YI|exact xex)(g5:gdB l ((d4,v4)::((d3,v3)::((d2,v2)::((d1,v1)::L)))) o5=some true:=by exact rfl)(e5:o5.dst=some d5:=by exact rfl)(b5:Nat.blt d5 n=true:=by exact rfl)(h6:Runs P ((d5,v5)::((d4,v4)::((d3,v3)::((d2,v2)::((d1,v1)::L))))) w o6 (.value v6) w:=by first|exact xmv|exact xas|exact xpt|exact xpf|exact Yc|exact Yw|exact XE|exact Xu|exact YT|exact YE|exact xnt|exact xnf|exact YI|exact xex)(g6:gdB l ((d5,v5)::((d4,v4)::((d3,v3)::((d2,v2)::((d1,v1)::L))))) o6=some true:=by exact rfl)(e6:o6.dst=some d6:=by exact rfl)(b6:Nat.blt d6 n=true:=by exact rfl):
 Gl P n ds l Q (o1::o2::o3::o4::o5::o6::rest) L w:=zlv h1 (zlv h2 (zlv h3 (zlv h4 (zlv h5 (zlv h6 K g6 e6 b6) g5 e5 b5) g4 e4 b4) g3 e3 b3) g2 e2 b2) g1 e1 b1
theorem zsr(h:Gl P n ds l (Exit.then (y.wp P Q) Q) l L w):Gc P n ds Q (.seq (.region id l.toArray false) y) L w:=zsq (zrg h)
theorem zlt(h:Gc P n ds Q y L w):Gl P n ds l (Exit.then (y.wp P Q) Q') [] L w:=zln (ztn h)
theorem zlz{l':List Oper}(h:Gl P n ds l (Exit.then (y.wp P Q) Q) l L w):Gl P n ds l' (Exit.then ((Code.seq (.region id l.toArray false) y).wp P Q) Q') [] L w:=zlt (zsr h)
theorem zOps{G' G:Prop}(h:G')(k:G'->G:=by intro g;(repeat (first|refine zlo ?_|refine zlv (by first|exact xmv|exact xas|exact xpt|exact xpf|exact Yc|exact Yw|exact XE|exact Xu|exact YT|exact YE|exact xnt|exact xnf|exact YI|exact xex) ?_));exact g):G:=k h
theorem zV{o:Oper}{d:Nat}{w':World}{v:Value}(hr:Runs P L w o (.value v) w')(hg:gdB l L o=some true:=by exact rfl)(hd:o.dst=some d:=by exact rfl)(hdn:Nat.blt d n=true:=by exact rfl):Gl P n ds l Q rest ((d,v)::L) w'->Gl P n ds l Q (o::rest) L w:=fun K=>zlv hr K hg hd hdn
theorem zP{o:Oper}{d:Nat}{w':World}{v:Value}(hr:Runs P L w o (.value v) w':=by first|exact xmv|exact xas|exact xpt|exact xpf|exact Yc|exact Yw|exact XE|exact Xu|exact YT|exact YE|exact xnt|exact xnf|exact YI|exact xex)(hg:gdB l L o=some true:=by exact rfl)(hd:o.dst=some d:=by exact rfl)(hdn:Nat.blt d n=true:=by exact rfl):Gl P n ds l Q rest ((d,v)::L) w'->Gl P n ds l Q (o::rest) L w:=fun K=>zlv hr K hg hd hdn
theorem On{o1 o2:Oper}{d1 d2:Nat}{w1 w2:World}{v1 v2:Value}(hr1:Runs P L w o1 (.value v1) w1:=by first|exact xmv|exact xas|exact xpt|exact xpf|exact Yc|exact Yw|exact XE|exact Xu|exact YT|exact YE|exact xnt|exact xnf|exact YI|exact xex)(hg1:gdB l L o1=some true:=by exact rfl)(hd1:o1.dst=some d1:=by exact rfl)(hn1:Nat.blt d1 n=true:=by exact rfl)(hr2:Runs P ((d1,v1)::L) w1 o2 (.value v2) w2:=by first|exact xmv|exact xas|exact xpt|exact xpf|exact Yc|exact Yw|exact XE|exact Xu|exact YT|exact YE|exact xnt|exact xnf|exact YI|exact xex)(hg2:gdB l ((d1,v1)::L) o2=some true:=by exact rfl)(hd2:o2.dst=some d2:=by exact rfl)(hn2:Nat.blt d2 n=true:=by exact rfl):Gl P n ds l Q rest ((d2,v2)::(d1,v1)::L) w2->Gl P n ds l Q (o1::o2::rest) L w:=fun K=>zP hr1 hg1 hd1 hn1 (zP hr2 hg2 hd2 hn2 K)
theorem Oo{o1 o2 o3:Oper}{d1 d2 d3:Nat}{w1 w2 w3:World}{v1 v2 v3:Value}(hr1:Runs P L w o1 (.value v1) w1:=by first|exact xmv|exact xas|exact xpt|exact xpf|exact Yc|exact Yw|exact XE|exact Xu|exact YT|exact YE|exact xnt|exact xnf|exact YI|exact xex)(hg1:gdB l L o1=some true:=by exact rfl)(hd1:o1.dst=some d1:=by exact rfl)(hn1:Nat.blt d1 n=true:=by exact rfl)(hr2:Runs P ((d1,v1)::L) w1 o2 (.value v2) w2:=by first|exact xmv|exact xas|exact xpt|exact xpf|exact Yc|exact Yw|exact XE|exact Xu|exact YT|exact YE|exact xnt|exact xnf|exact YI|exact xex)(hg2:gdB l ((d1,v1)::L) o2=some true:=by exact rfl)(hd2:o2.dst=some d2:=by exact rfl)(hn2:Nat.blt d2 n=true:=by exact rfl)(hr3:Runs P ((d2,v2)::(d1,v1)::L) w2 o3 (.value v3) w3:=by first|exact xmv|exact xas|exact xpt|exact xpf|exact Yc|exact Yw|exact XE|exact Xu|exact YT|exact YE|exact xnt|exact xnf|exact YI|exact xex)(hg3:gdB l ((d2,v2)::(d1,v1)::L) o3=some true:=by exact rfl)(hd3:o3.dst=some d3:=by exact rfl)(hn3:Nat.blt d3 n=true:=by exact rfl):Gl P n ds l Q rest ((d3,v3)::(d2,v2)::(d1,v1)::L) w3->Gl P n ds l Q (o1::o2::o3::rest) L w:=fun K=>On hr1 hg1 hd1 hn1 hr2 hg2 hd2 hn2 (zP hr3 hg3 hd3 hn3 K)
theorem zO{o:Oper}{d:Nat}(hg:gdB l L o=some false:=by exact rfl)(hd:o.dst=some d:=by exact rfl)(hdn:Nat.blt d n=true:=by exact rfl):Gl P n ds l Q rest ((d,undef)::L) w->Gl P n ds l Q (o::rest) L w:=fun K=>zlo K hg hd hdn
theorem zx1{P:Program}{n:Nat}{ds:List Deferred}{L:List (Nat×Value)}{w:World}{L1:List Oper}{Q3:Exit->Act->World->Prop}(h:Ge n ds Q3 .ret L w):Gl P n ds L1 (Exit.then (Code.wp P .ret Q3) Q3) [] L w:=zlt<|zrt h
theorem zx2{P:Program}{n:Nat}{ds:List Deferred}{L:List (Nat×Value)}{w:World}{L1:List Oper}{I4:Nat}{K5:Act->World->Prop}{K6:Act->World->Prop}{I7:Nat}{K8:Act->World->Prop}{Q8:Exit->Act->World->Prop}(h:Ge n ds Q8 .ret L w):Gl P n ds L1 (Exit.then (Code.wp P .ret (Exit.inBlock I4 (Exit.then K5 (Exit.then K6 (Exit.inBlock I7 (Exit.then K8 Q8)))))) (Exit.inBlock I4 (Exit.then K5 (Exit.then K6 (Exit.inBlock I7 (Exit.then K8 Q8)))))) [] L w:=zlt<|zrt<|zbr<|ztr<|ztr<|zbr<|ztr h
theorem zx3{P:Program}{n:Nat}{ds:List Deferred}{L:List (Nat×Value)}{w:World}{I4:Nat}{I6:Nat}{L6:List Oper}{Y5:Code}{Y3:Code}{Q3:Exit->Act->World->Prop}(h:Gl P n ds L6 (Exit.then (Code.wp P Y5 (Exit.inBlock I4 (Exit.then (Code.wp P Y3 Q3) Q3))) (Exit.inBlock I4 (Exit.then (Code.wp P Y3 Q3) Q3))) L6 L w):Gc P n ds (Exit.then (Code.wp P (.seq (.block I4 (.seq (.region I6 L6.toArray false) Y5)) Y3) Q3) Q3) .skip L w:=zsk<|ztn<|zsq<|zbk<|zsr h
theorem zx4{P:Program}{n:Nat}{ds:List Deferred}{L:List (Nat×Value)}{w:World}{I2:Nat}{I4:Nat}{L4:List Oper}{Q4:Exit->Act->World->Prop}(h:Gl P n ds L4 Q4 L4 L w):Gc P n ds (Exit.inBlock I2 (Exit.then (Code.wp P (.region I4 L4.toArray false) Q4) Q4)) .skip L w:=zsk<|zbn<|ztn<|zrg h
theorem zx5{P:Program}{n:Nat}{ds:List Deferred}{L:List (Nat×Value)}{w:World}{L1:List Oper}{I5:Nat}{L5:List Oper}{Y4:Code}{Y3:Code}{Q3:Exit->Act->World->Prop}(h:Gl P n ds L5 (Exit.then (Code.wp P Y4 (Exit.then (Code.wp P Y3 Q3) Q3)) (Exit.then (Code.wp P Y3 Q3) Q3)) L5 L w):Gl P n ds L1 (Exit.then (Code.wp P (.seq (.seq (.region I5 L5.toArray false) Y4) Y3) Q3) Q3) [] L w:=zlt<|zsq<|zsr h
theorem zx6{P:Program}{n:Nat}{ds:List Deferred}{L:List (Nat×Value)}{w:World}{L1:List Oper}{I3:Nat}{X3:Code}{Q3:Exit->Act->World->Prop}(h:Gc P n ds (Exit.inBlock I3 Q3) X3 L w):Gl P n ds L1 (Exit.then (Code.wp P (.block I3 X3) Q3) Q3) [] L w:=zlt<|zbk h
theorem zx7{P:Program}{n:Nat}{ds:List Deferred}{L:List (Nat×Value)}{w:World}{L1:List Oper}{X3:Code}{Y3:Code}{Q3:Exit->Act->World->Prop}(h:Gc P n ds (Exit.then (Code.wp P Y3 Q3) Q3) X3 L w):Gl P n ds L1 (Exit.then (Code.wp P (.seq X3 Y3) Q3) Q3) [] L w:=zlt<|zsq h
theorem zx8{P:Program}{n:Nat}{ds:List Deferred}{L:List (Nat×Value)}{w:World}{K2:Act->World->Prop}{K3:Act->World->Prop}{I4:Nat}{I7:Nat}{L7:List Oper}{Y6:Code}{Q6:Exit->Act->World->Prop}(h:Gl P n ds L7 (Exit.then (Code.wp P Y6 Q6) Q6) L7 L w):Gc P n ds (Exit.then K2 (Exit.then K3 (Exit.inBlock I4 (Exit.then (Code.wp P (.seq (.region I7 L7.toArray false) Y6) Q6) Q6)))) (.exit I4) L w:=zxt<|ztx<|ztx<|zbh<|ztn<|zsr h
theorem zx10{P:Program}{n:Nat}{ds:List Deferred}{L:List (Nat×Value)}{w:World}{L1:List Oper}{I2:Nat}{I4:Nat}{L4:List Oper}{Q4:Exit->Act->World->Prop}(h:Gl P n ds L4 Q4 L4 L w):Gl P n ds L1 (Exit.inBlock I2 (Exit.then (Code.wp P (.region I4 L4.toArray false) Q4) Q4)) [] L w:=zln<|zbn<|ztn<|zrg h
theorem ZV{P:Program}{n:Nat}{ds:List Deferred}{L:List (Nat×Value)}{w:World}{I4:Nat}{L4:List Oper}{Y3:Code}{Q3:Exit->Act->World->Prop}(h:Gl P n ds L4 (Exit.then (Code.wp P Y3 Q3) Q3) L4 L w):Gc P n ds (Exit.then (Code.wp P (.seq (.region I4 L4.toArray false) Y3) Q3) Q3) .skip L w:=zsk<|ztn<|zsr h
theorem zx14{P:Program}{n:Nat}{ds:List Deferred}{L:List (Nat×Value)}{w:World}{L1:List Oper}{K4:Act->World->Prop}{Q4:Exit->Act->World->Prop}(h:Ge n ds Q4 .ret L w):Gl P n ds L1 (Exit.then (Code.wp P .ret (Exit.then K4 Q4)) (Exit.then K4 Q4)) [] L w:=zlt<|zrt<|ztr h
theorem zx18{P:Program}{n:Nat}{ds:List Deferred}{L:List (Nat×Value)}{w:World}{K2:Act->World->Prop}{K3:Act->World->Prop}{I4:Nat}{I8:Nat}{L8:List Oper}{Y7:Code}{Y6:Code}{Q6:Exit->Act->World->Prop}(h:Gl P n ds L8 (Exit.then (Code.wp P Y7 (Exit.then (Code.wp P Y6 Q6) Q6)) (Exit.then (Code.wp P Y6 Q6) Q6)) L8 L w):Gc P n ds (Exit.then K2 (Exit.then K3 (Exit.inBlock I4 (Exit.then (Code.wp P (.seq (.seq (.region I8 L8.toArray false) Y7) Y6) Q6) Q6)))) (.exit I4) L w:=zxt<|ztx<|ztx<|zbh<|ztn<|zsq<|zsr h
end
end Go.Proofs.Gw
namespace Go.Proofs.Gw
open Go Go.RowKit
variable {f:Of} {v:Value} {w:World}
structure Prob where
  m:Int
  L:Of
  d:Int
  D:Of
  stock:Int
  kerf:Int
def Prob.each(p:Prob)(i:Int):Prop:=1<=p.L i/\p.L i<=p.stock/\(0<i->p.L i<p.L (i-1))/\0<=p.D i/\p.D i<=1000
structure Prob.Ok (p:Prob):Prop where
  m1:1<=p.m
  m2:p.m<=20
  d:p.d=p.m
  s1:1<=p.stock
  s2:p.stock<=2000
  k1:0<=p.kerf
  k2:p.kerf<=100
  all:∀i,0<=i->i<p.m->p.each i
structure PAt (w:World) (vL vD:Value) (p:Prob):Prop where
  L:Row w vL 1 p.m (ints p.L)
  D:Row w vD 1 p.d (ints p.D)
  iL:∀k,-9223372036854775808<=p.L k/\p.L k<=9223372036854775807
  iD:∀k,-9223372036854775808<=p.D k/\p.D k<=9223372036854775807
  is: -9223372036854775808<=p.stock/\p.stock<=9223372036854775807
  ik: -9223372036854775808<=p.kerf/\p.kerf<=9223372036854775807
theorem PAt.below{w w':World}{vL vD:Value}{p:Prob}(h:PAt w vL vD p)(hb:Below w.heap.size w w'):PAt w' vL vD p:=
 ⟨h.L.below hb,h.D.below hb,h.iL,h.iD,h.is,h.ik⟩
theorem PAt.Oq{w:World}{vL vD:Value}{p:Prob}(h:PAt w vL vD p):0<=p.m/\p.m<=140737488355328/\0<=p.d/\p.d<=140737488355328/\(-9223372036854775808<=p.stock/\p.stock<=9223372036854775807)/\-9223372036854775808<=p.kerf/\p.kerf<=9223372036854775807:=⟨h.L.slh.n0,h.L.slh.n1,h.D.slh.n0,h.D.slh.n1,h.is,h.ik⟩
structure IAt (w:World) (v:Value) (n:Int) (f:Of):Prop where
  row:Row w v 1 n (ints f)
  i:∀k,-9223372036854775808<=f k/\f k<=9223372036854775807
theorem IAt.below{w w':World}{v:Value}{n:Int}{f:Of}(h:IAt w v n f)(hb:Below w.heap.size w w'):IAt w' v n f:=⟨h.row.below hb,h.i⟩
theorem IAt.n0{w:World}{v:Value}{n:Int}{f:Of}(h:IAt w v n f):0<=n:=h.row.slh.n0
theorem IAt.n1{w:World}{v:Value}{n:Int}{f:Of}(h:IAt w v n f):n<=140737488355328:=h.row.slh.n1
def u8s(f:Of):Int->Value:=fun k=> .int .u8 (f k)
def Formed(n:Int)(y:Of)(q:Int):Prop:=1<=q/\q<=1073741824/\∀k,0<=k->k<n->0<=y k/\y k<=1073741824
end Go.Proofs.Gw
namespace Go.Proofs.Gw
open Go Go.RowKit
variable {i j:Int}
def R(T:Of)(s y:Int):Nat->Int->Int
  |0,c=>T c
  |k+1,c=>if((k:Int)+1)*s<=c then max (R T s y k c) (T (c-((k:Int)+1)*s)+((k:Int)+1)*y) else R T s y k c
theorem ZiH(T:Of)(s y:Int)(k:Nat)(c:Int):R T s y k c<=R T s y (k+1) c:=by
 simp only [R];split<;>omega
theorem ZdJ(T:Of)(s y:Int):∀(k n:Nat) (c:Int),n<=k->(n:Int)*s<=c->T (c-n*s)+n*y<=R T s y k c
 | 0,n,c,hn,_=>by
   obtain rfl:n=0:=Oa
   simp [R]
 | k +1,n,c,hn,hc=>by
   by_cases h:n=k+1
   · subst h
     have e:((k+1:Nat):Int)=(k:Int)+1:=Oa
     rw [e] at hc⊢
     simp only [R];rw [if_pos hc];omega
   · have:=ZdJ T s y k n c Oa hc
     have:=ZiH T s y k c
     omega
theorem ZcJ (T:Of) (s y:Int):∀(k:Nat) (c:Int),0<=c->∃n:Nat,n<=k/\(n:Int)*s<=c/\R T s y k c=T (c-n*s)+n*y
 |0,c,hc=>⟨0,Oa,by simpa using hc,by simp [R]⟩
 | k + 1,c,hc=>by
   obtain⟨n,h1,h2,h3⟩:=ZcJ T s y k c hc
   simp only [R]
   split
   · rename_i h
     rcases Int.le_total (R T s y k c) (T (c-((k:Int)+1)*s)+((k:Int)+1)*y) with hm|hm
     · refine⟨k+1,Oa,?_,?_⟩
       · have e:((k+1:Nat):Int)=(k:Int)+1:=Oa
         rw [e];exact h
       · have e:((k+1:Nat):Int)=(k:Int)+1:=Oa
         rw [e,Int.max_eq_right hm]
     · exact⟨n,Oa,h2,by rw [Int.max_eq_left hm];exact h3⟩
   · exact⟨n,Oa,h2,h3⟩
theorem ZiG (T:Of) (s y:Int) (hs:0<=s) (k:Nat) (c:Int) (hc:0<=c):
   R T s y (k+1) c=if s<=c then max (R T s y k c) (R T s y k (c-s)+y) else R T s y k c:=by
 have hks:0<=(k:Int)*s:=Int.mul_nonneg Oa hs
 have e1:((k:Int)+1)*s=k*s+s:=by rw [Int.add_mul,Int.one_mul]
 split
 · rename_i h
   apply Int.le_antisymm
   · obtain⟨n,h1,h2,h3⟩:=ZcJ T s y (k+1) c hc
     rw [h3]
     by_cases hn:n<=k
     · have:=ZdJ T s y k n c hn h2;omega
     · obtain rfl:n=k+1:=Oa
       have e:((k+1:Nat):Int)=(k:Int)+1:=Oa
       rw [e] at h2⊢
       have h4:=ZdJ T s y k k (c-s) (Nat.le_refl _) Oa
       have e2:c-s-k*s=c-((k:Int)+1)*s:=Oa
       have e3:((k:Int)+1)*y=k*y+y:=by rw [Int.add_mul,Int.one_mul]
       rw [e2] at h4
       omega
   · have h4:=ZiH T s y k c
     obtain⟨n,h1,h2,h3⟩:=ZcJ T s y k (c-s) Oa
     have e4:((n+1:Nat):Int)*s=n*s+s:=by rw [Int.natCast_add,Int.add_mul];simp
     have e5:((n+1:Nat):Int)*y=n*y+y:=by rw [Int.natCast_add,Int.add_mul];simp
     have h5:=ZdJ T s y (k+1) (n+1) c Oa Oa
     rw [e4,e5] at h5
     have e6:c-(n*s+s)=c-s-n*s:=Oa
     rw [e6] at h5
     omega
 · rename_i h
   simp only [R];rw [if_neg Oa]
theorem Zoj (T:Of) (s y:Int) (c:Int) (k:Nat) (h:c<((k:Int)+1)*s) (hs:0<=s):∀n,k<=n->R T s y n c=R T s y k c:=by
 intro n hn
 induction n with
 | zero => obtain rfl:k=0:=Oa
           rfl
 | succ n ih=>
   by_cases e:k=n+1
   · rw [e]
   · rw [<-ih Oa]
     simp only [R]
     have:((k:Int)+1)*s<=((n:Int)+1)*s:=Int.mul_le_mul_of_nonneg_right Oa hs
     rw [if_neg Oa]
theorem Zbd{T:Of}{s y M:Int}(hs:1<=s)(hy:0<=y)(hM:y<=M)(hT:∀c,0<=c->0<=T c/\T c<=c*M)(k:Nat)(c:Int)(hc:0<=c):0<=R T s y k c/\R T s y k c<=c*M:=by
 obtain⟨n,h1,h2,h3⟩:=ZcJ T s y k c hc
 rw [h3]
 have h4:=hT (c-n*s) Oa
 have h5:0<=(n:Int)*y:=Int.mul_nonneg Oa hy
 have h6:(n:Int)*y<=n*s*M:=by
   have a1:(n:Int)*y<=n*M:=Int.mul_le_mul_of_nonneg_left hM Oa
   have a2:(n:Int)*1<=n*s:=Int.mul_le_mul_of_nonneg_left hs Oa
   have a3:(n:Int)*1*M<=n*s*M:=Int.mul_le_mul_of_nonneg_right a2 Oa
   rw [Int.mul_one] at a3
   omega
 have h7:(c-n*s)*M=c*M-n*s*M:=Int.sub_mul _ _ _
 omega
def Tab(p:Prob)(y:Of):Nat->Int->Int
  |0,_=>0
  |j+1,c=>R (Tab p y j) (p.L j+p.kerf) (y j) (p.D j).toNat c
theorem KK{p:Prob}(hp:p.Ok){y:Of}{M:Int}(hM:0<=M)(hy:∀k,0<=k->k<p.m->0<=y k/\y k<=M):∀(j:Nat),(j:Int)<=p.m->∀c,0<=c->0<=Tab p y j c/\Tab p y j c<=c*M
 |0,_,c,hc=>⟨Int.le_refl _,Int.mul_nonneg hc hM⟩
 | j+1,hj,c,hc=>by
   have h1:=hp.all j Oa Oa
   unfold Prob.each at h1
   have h2:=hp.k1
   have h3:=hy j Oa Oa
   exact Zbd Oa h3.1 h3.2 (fun c hc=>KK hp hM hy j Oa c hc) _ c hc
def WI(p:Prob)(y:Of):Int:=Tab p y p.m.toNat (p.stock+p.kerf)
theorem ZC{α:Type}(f:Int->α)(k:Int)(x:α):upd f k x k=x:=by simp [upd]
theorem upd_ne{α:Type}(f:Int->α){k:Int}(x:α)(h:j≠k):upd f k x j=f j:=by simp [upd,h]
theorem YD{a b:Int}(ha:0<=a)(hb:1<=b):0<=a.tdiv b/\a.tdiv b<=a/\a<(a.tdiv b+1)*b/\a.tdiv b*b<=a:=by
 rw [Int.tdiv_eq_ediv_of_nonneg ha]
 have h1:=Int.ediv_nonneg ha (show 0<=b by omega)
 have h2:=Int.mul_ediv_add_emod a b
 have h3:=Int.emod_nonneg a (show b≠0 by omega)
 have h4:=Int.emod_lt_of_pos a (show 0<b by omega)
 have h5:(a/b+1)*b=b*(a/b)+b:=by rw [Int.add_mul,Int.one_mul,Int.mul_comm]
 have h6:a/b*b=b*(a/b):=Int.mul_comm _ _
 have h7:a/b<=a:=Int.ediv_le_self _ ha
 refine⟨h1,h7,?_,?_⟩<;>omega
def VH(p:Prob)(y:Of):Prop:=∀k,0<=k->k<p.m->0<=y k/\y k<=1073741824
theorem ZpM{p:Prob}(hp:p.Ok){y:Of}(hy:VH p y)(h0:0<=i)(h1:i<p.m)(k:Nat){c:Int}(hc:0<=c):0<=R (Tab p y i.toNat) (p.L i+p.kerf) (y i) k c/\R (Tab p y i.toNat) (p.L i+p.kerf) (y i) k c<=c*1073741824:=by
 have h2:=hp.all i h0 h1
 unfold Prob.each at h2
 have h3:=hp.k1
 have h4:=hy i h0 h1
 exact Zbd Oa h4.1 h4.2 (fun c hc=>KK hp Oa hy _ Oa c hc) k c hc
theorem Tab_next{p:Prob}(hp:p.Ok)(y:Of){k:Int}(h0:0<=i)(h1:i<p.m)(hk0:0<=k)(hk:k<=p.D i)(hk2:min (p.D i) ((p.stock+p.kerf).tdiv (p.L i+p.kerf))<=k)(_hj:0<=j)(hj1:j<=p.stock+p.kerf):
   R (Tab p y i.toNat) (p.L i+p.kerf) (y i) k.toNat j=Tab p y (i+1).toNat j:=by
 have h2:=hp.all i h0 h1
 unfold Prob.each at h2
 have h3:=hp.k1
 have h4:=hp.s1
 have e:(i+1).toNat=i.toNat+1:=Oa
 have e2:((i.toNat:Nat):Int)=i:=Oa
 rw [e]
 simp only [Tab,e2]
 by_cases hd:p.D i<=k
 · obtain rfl:k=p.D i:=Oa
   rfl
 · have h5:=YD (a:=p.stock+p.kerf) (b:=p.L i+p.kerf) Oa Oa
   have h6:(p.stock+p.kerf).tdiv (p.L i+p.kerf)<=k:=Oa
   have h7:((p.stock+p.kerf).tdiv (p.L i+p.kerf)+1)*(p.L i+p.kerf)<=(k+1)*(p.L i+p.kerf):=Int.mul_le_mul_of_nonneg_right Oa Oa
   have e3:((k.toNat:Nat):Int)=k:=Oa
   exact(Zoj _ _ _ j k.toNat (by rw [e3];omega) Oa _ Oa).symm
theorem ZkI{p:Prob}(hp:p.Ok)(y:Of){c:Int}(h0:0<=i)(h1:i<p.m){k:Nat}{f:Of}(hc:p.L i+p.kerf<=c)
   (hb:∀j,0<=j->j<=c->f j=R (Tab p y i.toNat) (p.L i+p.kerf) (y i) k j) {x:Int} (hx:x=max (f c) (f (c-p.L i-p.kerf)+y i)):x=R (Tab p y i.toNat) (p.L i+p.kerf) (y i) (k+1) c:=by
 have h2:=hp.all i h0 h1
 unfold Prob.each at h2
 have h3:=hp.k1
 rw [ZiG _ _ _ Oa k c Oa,if_pos hc,hx,hb c Oa Oa,hb (c-p.L i-p.kerf) Oa Oa]
 rw [show c-p.L i-p.kerf=c-(p.L i+p.kerf) by omega]
theorem ZpN{p:Prob}(hp:p.Ok)(y:Of)(h0:0<=i)(h1:i<p.m)(k:Nat)(hj0:0<=j)(hj:j<p.L i+p.kerf):R (Tab p y i.toNat) (p.L i+p.kerf) (y i) k j=R (Tab p y i.toNat) (p.L i+p.kerf) (y i) (k+1) j:=by
 have h2:=hp.all i h0 h1
 unfold Prob.each at h2
 have h3:=hp.k1
 rw [ZiG _ _ _ Oa k j hj0,if_neg Oa]
theorem ZhR{α:Type}(g:Int->α)(s:Nat):cat ((0:Int)*s) g g=g:=by
 funext j;simp only [cat,Int.zero_mul];split<;>simp
end Go.Proofs.Gw
namespace Go.Proofs.Gw
open Go Go.RowKit
variable {y:Of}
noncomputable def Chk(p:Prob)(n:Int)(y:Of)(q:Int):Int:=
  @ite _ (p.Ok/\Formed n y q/\n=p.m) (Classical.propDecidable _) (if q<WI p y then 21 else 0) 1
theorem Zfu{p:Prob}{n:Int}{q:Int}(h:¬p.Ok\/¬Formed n y q\/n≠p.m):Chk p n y q=1:=by
 unfold Chk;rw [if_neg]
 rintro⟨h1,h2,h3⟩
 rcases h with h|h|h<;>exact h ‹_›
theorem Zk6{p:Prob}{n:Int}{q:Int}(h1:p.Ok)(h2:Formed n y q)(h3:n=p.m)(h:q<WI p y):Chk p n y q=21:=by
 unfold Chk;rw [if_pos ⟨h1,h2,h3⟩,if_pos h]
theorem Zj3{p:Prob}{n:Int}{q:Int}(h1:p.Ok)(h2:Formed n y q)(h3:n=p.m)(h:¬q<WI p y):Chk p n y q=0:=by
 unfold Chk;rw [if_pos ⟨h1,h2,h3⟩,if_neg h]
theorem XQ{p:Prob}{n:Int}{q:Int}(h:Chk p n y q=0):p.Ok/\Formed n y q/\n=p.m/\WI p y<=q:=by
 by_cases h1:p.Ok/\Formed n y q/\n=p.m
 · by_cases h2:q<WI p y
   · rw [Zk6 h1.1 h1.2.1 h1.2.2 h2] at h;omega
   · exact⟨h1.1,h1.2.1,h1.2.2,Oa⟩
 · have:Chk p n y q=1:=by unfold Chk;rw [if_neg h1]
   omega
def Tot(D y:Of):Nat->Int
  |0=>0
  |k+1=>Tot D y k+D k*y k
theorem ZiD(D y:Of){i:Int}(h:0<=i):Tot D y (i+1).toNat=Tot D y i.toNat+D i*y i:=by
 rw [show(i+1).toNat=i.toNat+1 by omega]
 simp only [Tot]
 rw [show((i.toNat:Nat):Int)=i by omega]
theorem Zd6{a b A B:Int}(h1:0<=a)(h2:a<=A)(h3:0<=b)(h4:b<=B):0<=a*b/\a*b<=A*B:=
 ⟨Int.mul_nonneg h1 h3,Int.mul_le_mul h2 h4 h3 Oa⟩
theorem KH{D y:Of}{m A:Int}(hA:0<=A)(h:∀k,0<=k->k<m->0<=D k*y k/\D k*y k<=A):∀k:Nat,(k:Int)<=m->0<=Tot D y k/\Tot D y k<=k*A
 |0,_=>by simp [Tot]
 | k+1,hk=>by
   have h1:=KH hA h k Oa
   have h2:=h k Oa Oa
   simp only [Tot]
   have e:((k+1:Nat):Int)*A=k*A+A:=by rw [Int.natCast_add,Int.add_mul];simp
   omega
theorem Formed.priced{p:Prob}{n:Int}{q:Int}(h:Formed n y q)(e:n=p.m):VH p y:=fun k h0 h1=>h.2.2 k h0 Oa
theorem ZdR{p:Prob}(hp:p.Ok)(hy:VH p y)(k:Int)(h0:0<=k)(h1:k<p.m):0<=p.D k*y k/\p.D k*y k<=1073741824000:=by
 have h2:=hp.all k h0 h1
 unfold Prob.each at h2
 have h3:=hy k h0 h1
 have:=Zd6 (A:=1000) (B:=1073741824) h2.2.2.2.1 h2.2.2.2.2 h3.1 h3.2
 omega
theorem K7{p:Prob}(hp:p.Ok)(hy:VH p y)(k:Int)(h0:0<=k)(h1:k<=p.m):0<=Tot p.D y k.toNat/\Tot p.D y k.toNat<=21474836480000:=by
 have h:=KH (D:=p.D) (y:=y) (m:=p.m) (A:=1073741824000) Oa (fun k h0 h1=>ZdR hp hy k h0 h1) k.toNat Oa
 have:=hp.m2
 have e:((k.toNat:Nat):Int)=k:=Oa
 rw [e] at h
 omega
def Bnd(p:Prob)(y:Of)(q:Int):Int:=(Tot p.D y p.m.toNat+q-1).tdiv q
noncomputable def Yt(p:Prob)(n:Int)(y:Of)(q:Int):Int:=if Chk p n y q=0 then Bnd p y q else 0
def ZiM(p:Prob):Prop:=p.m<=25/\p.d<=25/\(p.Ok->(∀i,0<=i->i<p.d->p.D i<=30)/\p.m<=6/\p.stock<=12*p.L (p.m-1))
def y0:Of:=fun k=> [1,0].getD k.toNat 0
def y1:Of:=fun k=> [1,1].getD k.toNat 0
theorem two{P:Int->Prop}(h0:P 0)(h1:P 1):∀i:Int,0<=i->i<2->P i:=fun i a b=>by
 have:i=0\/i=1:=Oa
 rcases this with rfl|rfl
 · exact h0
 · exact h1
theorem Yb{p:Prob}{n:Int}{q:Int}(h:Chk p n y q=0):Yt p n y q=Bnd p y q:=by unfold Yt;rw [if_pos h]
theorem Zog{p:Prob}{n:Int}{q:Int}(h:Chk p n y q≠0):Yt p n y q=0:=by unfold Yt;rw [if_neg h]
def Prob.with(p:Prob)(f:Of):Prob:=⟨p.m,p.L,p.d,f,p.stock,p.kerf⟩
theorem Zjw{p:Prob}(hp:p.Ok){f:Of}(hf:∀k,0<=k->k<p.d->0<=f k/\f k<=p.D k):(p.with f).Ok:=
 ⟨hp.m1,hp.m2,hp.d,hp.s1,hp.s2,hp.k1,hp.k2,fun i h0 h1=>by
   have h1':i<p.m:=h1
   have h2:=hp.all i h0 h1'
   unfold Prob.each at h2⊢
   have h3:=hf i h0 (by rw [hp.d];exact h1')
   simp only [Prob.with]
   omega⟩
end Go.Proofs.Gw
namespace Go.Proofs.Gw
open Go Go.RowKit
variable {k x:Int} {f:Of}
def snoc(f:Of)(n x:Int):Of:=fun k=>if k<n then f k else x
theorem Wl(f:Of)(n x:Int):cat (n*1) (ints f) (ints fun _=>x)=ints (snoc f n x):=by
 funext j;simp only [cat,ints,snoc,Int.mul_one];split<;>rfl
theorem Zs{n:Int}(h:k<n):snoc f n x k=f k:=if_pos h
theorem Zt{n:Int}(h:¬k<n):snoc f n x k=x:=if_neg h
theorem Zf7{g:Of}{i:Int}(h:∀k,0<=k->k<i->f k=g k)(hx:x=g i):∀k,0<=k->k<i+1->snoc f i x k=g k:=fun k k0 k1=>by
 by_cases e:k<i
 · rw [Zs e];exact h k k0 e
 · rw [Zt e,hx];congr 1;omega
def Res(bad ok:Prop)(n:Int)(g:Of)(q n':Int)(y':Of)(q' e:Int):Prop:=
  (bad/\e=1/\n'=0/\q'=0)\/(¬bad/\¬ok/\e=2/\n'=0/\q'=0)\/(¬bad/\ok/\e=0/\n'=n/\q'=q/\∀k,0<=k->k<n->y' k=g k)
theorem Res.at{bad ok:Prop}{n q:Int}{g:Of}{n1 q1 e:Int}{y1:Of}(h:Res bad ok n g q n1 y1 q1 e)(he:e=k):Res bad ok n g q n1 y1 q1 k:=he▸h
end Go.Proofs.Gw
namespace Go.Proofs.Gw
open Go Go.RowKit
variable {d:Bool} {c e e' i j r:Int} {ln:Of} {f:Og} {vv:Int->Value} {k:Nat} {v:Value} {w w' w0:World}
structure Tb where
  vars:Int
  den:Int
  nb:Int
  nf:Int
  nc:Int
  B:Of
  F:Of
  ln:Of
  C:Og
structure MAt (w:World) (v:Value) (n:Int) (vv:Int->Value) (ln:Of) (f:Og):Prop where
  row:Row w v 1 n vv
  p:∀i,0<=i->i<n->Row w (vv i) 1 (ln i) (ints (f i))
  room:∀i,0<=i->i<n->W0 (vv i)
theorem MAt.below{w w':World}{v:Value}{n:Int}{vv:Int->Value}{ln:Of}{f:Og}(h:MAt w v n vv ln f)(hb:Below w.heap.size w w'):MAt w' v n vv ln f:=⟨h.row.below hb,fun i a b=>(h.p i a b).below hb,h.room⟩
structure TAt (w:World) (vB vF vC:Value) (vv:Int->Value) (t:Tb):Prop where
  B:Row w vB 1 t.nb (ints t.B)
  F:Row w vF 1 t.nf (ints t.F)
  C:MAt w vC t.nc vv t.ln t.C
theorem TAt.below{w w':World}{vB vF vC:Value}{vv:Int->Value}{t:Tb}(h:TAt w vB vF vC vv t)(hb:Below w.heap.size w w'):TAt w' vB vF vC vv t:=⟨h.B.below hb,h.F.below hb,h.C.below hb⟩
theorem Sat.roomIn{l:List Ent}{E:TypeId}{n:Int}(h:Sat w0 w l)(i:Nat)(hi:l[i]? =some (.sem (Frame.rows E n vv ln f))){k:Int}(k0:0<=k)(k1:k<n):W0 (vv k):=
 ((h.holds _ (List.mem_of_getElem? hi)).1 k k0 k1).roomy
theorem Sat.ref{l:List Ent}{a:Addr}(hS:Sat w0 w l)(hc:w0.cell? a=some v):w.cell? a=some v:=by
 rw [hS.below.cell (World.block_lt_of_cell? w0 _ hc)];exact hc
def Btw(f:Of)(n m:Int):Prop:=∀k,0<=k->k<n-> -m<=f k/\f k<=m
def PermF(c:Of)(N:Int):Prop:=(∀i,0<=i->i<N->0<=c i/\c i<N)/\∀i j,0<=i->i<N->0<=j->j<N->c i=c j->i=j
theorem Zi9{l:List Int}(hp:l.Pairwise (· < ·))(hr:∀a∈l,0<=a/\a<l.length):∀i (h:i<l.length),l[i]=i:=by
 have low:∀i (h:i<l.length),(i:Int)<=l[i]:=by
   intro i
   induction i with
   |zero=>intro h;exact(hr _ (List.getElem_mem h)).1
   | succ i ih=>
     intro h
     have h1:=ih Oa
     have h2:=List.pairwise_iff_getElem.1 hp i (i+1) Oa h Oa
     omega
 have jo:∀d i (h:i<l.length),l.length-1-i=d->l[i]<=i:=by
   intro d
   induction d with
   |zero=>intro i h hd;have:=(hr _ (List.getElem_mem h)).2;omega
   | succ d ih=>
     intro i h hd
     have h1:=ih (i+1) Oa Oa
     have h2:=List.pairwise_iff_getElem.1 hp i (i+1) h Oa Oa
     omega
 intro i h
 have:=low i h;have:=jo _ i h rfl;omega
theorem XY {c g:Of} {N:Int} (hN:0<=N) (hg:Zo g N=(Zo c N).mergeSort fun x y=>decide (x<=y)):(∀i,0<=i->i<N->g i=i)↔PermF c N:=by
 have hl:(Zo c N).length=N.toNat:=ZZ c N
 have hlg:(Zo g N).length=N.toNat:=ZZ g N
 have getc:∀i (h:i<(Zo c N).length),(Zo c N)[i]=c i:=fun i h=>by simp [Zo]
 have getg:∀i (h:i<(Zo g N).length),(Zo g N)[i]=g i:=fun i h=>by simp [Zo]
 have z6:(Zo g N).Perm (Zo c N):=by rw [hg];exact List.mergeSort_perm _ _
 constructor
 · intro h
   have hnd:(Zo g N).Nodup:=by
     refine List.pairwise_iff_getElem.2 fun i j hi hj hij=> ?_
     rw [getg i hi,getg j hj,h i Oa Oa,h j Oa Oa];omega
   have bM:(Zo c N).Nodup:=z6.nodup_iff.1 hnd
   refine⟨fun i i0 i1=> ?_,fun i j i0 i1 j0 j1 e=> ?_⟩
   · have hm:c i∈Zo c N:=VA.2 ⟨i,i0,i1,rfl⟩
     obtain⟨k,k0,k1,e⟩:=VA.1 (z6.mem_iff.2 hm)
     rw [h k k0 k1] at e;omega
   · rcases Int.lt_trichotomy i j with hij|hij|hij
     · have:=List.pairwise_iff_getElem.1 bM i.toNat j.toNat Oa Oa Oa
       rw [getc _ Oa,getc _ Oa,Int.toNat_of_nonneg i0,Int.toNat_of_nonneg j0] at this
       exact absurd e this
     · exact hij
     · have:=List.pairwise_iff_getElem.1 bM j.toNat i.toNat Oa Oa Oa
       rw [getc _ Oa,getc _ Oa,Int.toNat_of_nonneg i0,Int.toNat_of_nonneg j0] at this
       exact absurd e.symm this
 · intro h i i0 i1
   have bM:(Zo c N).Nodup:=by
     refine List.pairwise_iff_getElem.2 fun i j hi hj hij e=> ?_
     rw [getc i hi,getc j hj] at e
     have:=h.2 i j Oa Oa Oa Oa e;omega
   have hnd:(Zo g N).Nodup:=z6.nodup_iff.2 bM
   have hs:(Zo g N).Pairwise (fun x y=>decide (x<=y)=true):=by rw [hg];exact List.pairwise_mergeSort (le:=fun x y:Int=>decide (x<=y)) (fun a b c h1 h2=>by simp only [decide_eq_true_eq] at*;omega) (fun a b=>by simp only [Bool.or_eq_true,decide_eq_true_eq];omega) (Zo c N)
   have hlt:(Zo g N).Pairwise (· < ·):=by
     refine List.pairwise_iff_getElem.2 fun i j hi hj hij=> ?_
     have h1:=List.pairwise_iff_getElem.1 hs i j hi hj hij
     have h2:=List.pairwise_iff_getElem.1 hnd i j hi hj hij
     simp only [decide_eq_true_eq] at h1
     omega
   have:=Zi9 hlt (fun a ha=>by
     obtain⟨k,k0,k1,e⟩:=VA.1 (z6.mem_iff.1 ha)
     have:=h.1 k k0 k1
     rw [hlg];omega) i.toNat Oa
   rw [getg _ Oa,Int.toNat_of_nonneg i0] at this
   exact this
def Tb.rowOk(t:Tb)(i:Int):Prop:=t.ln i=t.nf+1/\∀j,0<=j->j<t.ln i-> -1073741824<=t.C i j/\t.C i j<=1073741824
structure TPrp (t:Tb):Prop where
  n1:1<=t.nf
  n2:t.nf<=60
  m2:t.nb<=16
  v:t.vars=t.nf
  d1:1<=t.den
  d2:t.den<=1073741824
  c:t.nc=t.nb+1
  perm:PermF (cat t.nf t.F t.B) (t.nf+t.nb)
  rows:∀i,0<=i->i<t.nc->t.rowOk i
theorem TPrp.cell{t:Tb}(h:TPrp t)(i0:0<=i)(i1:i<=t.nb)(j0:0<=j)(j1:j<=t.nf): -1073741824<=t.C i j/\t.C i j<=1073741824:=by
 have hc:=h.c
 have:=h.rows i i0 Oa
 exact this.2 j j0 (by rw [this.1];omega)
theorem TPrp.len{t:Tb}(h:TPrp t)(i0:0<=i)(i1:i<=t.nb):t.ln i=t.nf+1:=by
 have hc:=h.c
 exact(h.rows i i0 Oa).1
theorem TPrp.injF{t:Tb}(h:TPrp t)(i0:0<=i)(i1:i<t.nf)(j0:0<=j)(j1:j<t.nf)(hm:0<=t.nb)(e:t.F i=t.F j):i=j:=
 h.perm.2 i j i0 Oa j0 Oa (by unfold cat;rw [if_pos i1,if_pos j1];exact e)
theorem TPrp.rngF{t:Tb}(h:TPrp t)(i0:0<=i)(i1:i<t.nf)(hm:0<=t.nb):0<=t.F i/\t.F i<t.nf+t.nb:=by
 have:=h.perm.1 i i0 Oa
 unfold cat at this;rw [if_pos i1] at this;exact this
theorem TPrp.rngB{t:Tb}(h:TPrp t)(i0:0<=i)(i1:i<t.nb):0<=t.B i/\t.B i<t.nf+t.nb:=by
 have hn:=h.n1
 have:=h.perm.1 (t.nf+i) Oa Oa
 unfold cat at this;rw [if_neg Oa,show t.nf+i-t.nf=i by omega] at this;exact this
theorem YU{a d:Int}(hd:1<=d){A:Int}(ha: -A<=a/\a<=A): -A<=a.tdiv d/\a.tdiv d<=A:=by
 have h:=Int.natAbs_tdiv_le_natAbs a d
 omega
structure NAt (w:World) (v:Value) (n:Int) (vv:Int->Value) (ln:Of) (f:Og):Prop where
  row:Row w v 1 n vv
  p:∀i,0<=i->i<n->Row w (vv i) 1 (ln i) (ints (f i))
theorem NAt.below{w w':World}{v:Value}{n:Int}{vv:Int->Value}{ln:Of}{f:Og}(h:NAt w v n vv ln f)(hb:Below w.heap.size w w'):NAt w' v n vv ln f:=⟨h.row.below hb,fun i a b=>(h.p i a b).below hb⟩
def tot(ln:Of):Nat->Int
  |0=>0
  |k+1=>tot ln k+ln k
def Vq(ln:Of)(f:Og):Nat->Int->Int
  |0=>fun _=>0
  |k+1=>cat (tot ln k) (Vq ln f k) (f k)
theorem Xq(ln:Of)(h:0<=i):tot ln (i+1).toNat=tot ln i.toNat+ln i:=by
 rw [show(i+1).toNat=i.toNat+1 by omega,tot,Int.toNat_of_nonneg h]
theorem catN_next(ln:Of)(f:Og)(h:0<=i):Vq ln f (i+1).toNat=cat (tot ln i.toNat) (Vq ln f i.toNat) (f i):=by
 rw [show(i+1).toNat=i.toNat+1 by omega,Vq,Int.toNat_of_nonneg h]
def ZX{α:Type}(a b:α):Int->α:=fun k=>if k=0 then a else b
theorem Zp1{a b:Value}{n m:Int}{f g:Of}(h:Row w v 1 2 (ZX a b))(ha:Row w a 1 n (ints f))(hb:Row w b 1 m (ints g)):NAt w v 2 (ZX a b) (ZX n m) (ZX f g):=
 ⟨h, fun i i0 i1=>by
   by_cases e:i=0
   · subst e;exact ha
   · have:i=1:=Oa
     subst this;exact hb⟩
theorem ZiS(n m:Int):tot (ZX n m) 2=n+m:=by simp [tot,ZX]
theorem KA(n m:Int)(f g:Of){k:Int}(hk:0<=k):Vq (ZX n m) (ZX f g) 2 k=cat n f g k:=by
 simp only [Vq,tot,ZX,cat,Int.zero_add]
 simp
 by_cases h:k<n
 · rw [if_pos h,if_pos h,if_neg Oa]
 · rw [if_neg h,if_neg h]
theorem PermF.congr{c d:Of}{N:Int}(h:PermF c N)(e:∀k,0<=k->k<N->c k=d k):PermF d N:=
 ⟨fun i i0 i1=>by rw [<-e i i0 i1];exact h.1 i i0 i1,fun i j i0 i1 j0 j1 hh=>h.2 i j i0 i1 j0 j1 (by rw [e i i0 i1,e j j0 j1];exact hh)⟩
theorem Sat.kept{l:List Ent}{e:Ent}(hS:Sat w0 w l)(h:e.holds w0):e.holds w:=h.keep fun g hg=>hS.below.block g (h.lt hg)
open Go.Sort in
theorem ZeX{P:Program}{w w0:World}{l1 l2:List Ent}{fn:FuncId}(c0:∀(p:Option Addr) (cap:Nat) (w:World),Calls P fn #[.slice p 0 cap] w fun e w'=>e= .returned (.tuple #[])/\w'=w)
   (c1:∀(blk off cap:Nat) (zs:List Int) (w:World),Holds (Value.int .i64) w blk off zs.toArray->blk<w.heap.size->zs.length<4611686018427387904->
     Calls P fn #[.slice (some ⟨blk,off,none⟩) zs.length cap] w fun e w'=>e= .returned (.tuple #[])/\∃n os,w'=grow (putRow (Value.int .i64) (Sort.ahead w n) blk off (zs.mergeSort fun x y=>decide (x<=y)).toArray) os)
   {v:Value} {E:TypeId} {n:Int} {f:Of} (hS:Sat w0 w (l1++ .own v 1 E n (ints f)::l2)):
   Calls P fn #[v] w fun e w'=>∃u,e= .returned u/\u= .tuple #[]/\∃g,Zo g n=((Zo f n).mergeSort fun x y=>decide (x<=y))/\Sat w0 w' (l1++ .own v 1 E n (ints g)::l2):=by
 obtain⟨h0,h1,⟨rfl,rfl⟩|⟨g,cap,cur,rfl,_⟩⟩:=hS.get
 · refine(c0 none 0 w).mono fun e w' ⟨he,hw⟩=>⟨_,he,rfl,f,by simp [Zo],by rw [hw];exact hS⟩
 · obtain⟨hH,hlt,_,_⟩:=hS.held
   have hl:=ZZ f n
   have:=c1 g 0 cap (Zo f n) w hH hlt (by rw [hl];omega)
   rw [hl] at this
   refine this.mono fun e w' ⟨he,q,os,hw⟩=>⟨_,he,rfl,ZfL ((Zo f n).mergeSort fun x y=>decide (x<=y)),?_,?_⟩
   · have e2:=Zb4 ((Zo f n).mergeSort fun x y=>decide (x<=y))
     rw [List.length_mergeSort,hl,show((n.toNat:Nat):Int)=n by omega] at e2
     exact e2
   · rw [hw]
     exact hS.put (by rw [List.length_mergeSort,hl])
theorem Wx{a b A B:Int}(ha: -A<=a/\a<=A)(hb: -B<=b/\b<=B): -(A*B)<=a*b/\a*b<=A*B:=by
 have h:=Int.natAbs_mul a b
 have h1:(a.natAbs:Int)<=A:=Oa
 have h2:(b.natAbs:Int)<=B:=Oa
 have h3:=Int.mul_le_mul h1 h2 Oa Oa
 have h4:((a*b).natAbs:Int)=(a.natAbs:Int)*b.natAbs:=by rw [h,Int.natCast_mul]
 omega
def YA(t:Tb):Nat->Int
  |0=> -1
  |k+1=>if t.C (k+1) 0<0/\(YA t k<0\/t.B k<t.B (YA t k)) then k else YA t k
theorem YZ(t:Tb):∀k:Nat,YA t k= -1\/(0<=YA t k/\YA t k<k)
 |0=> .inl rfl
 | k+1=>by
   have:=YZ t k
   unfold YA;split<;>omega
theorem Vf(t:Tb)(h:0<=i):YA t (i+1).toNat=if t.C (i+1) 0<0/\(YA t i.toNat<0\/t.B i<t.B (YA t i.toNat)) then i else YA t i.toNat:=by
 rw [show(i+1).toNat=i.toNat+1 by omega,YA,Int.toNat_of_nonneg h]
theorem TX (t:Tb):∀k:Nat,(YA t k= -1->∀i:Int,0<=i->i<k->0<=t.C (i+1) 0)/\(0<=YA t k->t.C (YA t k+1) 0<0)
 |0=>⟨fun _ i h0 h1=>Oa,fun h=>by unfold YA at h;omega⟩
 | k + 1=>by
   obtain⟨h1,h2⟩:=TX t k
   have hr:=YZ t k
   unfold YA
   by_cases hc:t.C (k+1) 0<0/\(YA t k<0\/t.B k<t.B (YA t k))
   · rw [if_pos hc];exact⟨fun h=>Oa,fun _=>hc.1⟩
   · rw [if_neg hc]
     refine⟨fun h i i0 i1=> ?_,h2⟩
     by_cases e:i=k
     · subst e
       rcases Int.lt_or_le (t.C (k+1) 0) 0 with hh|hh
       · exact absurd ⟨hh,.inl Oa⟩ hc
       · exact hh
     · exact h1 h i i0 Oa
def Z9 (t:Tb) (r:Int):Nat->Int
  |0=> -1
  | k +1=>if t.C (r+1) (k+1)<=0 then Z9 t r k
    else if Z9 t r k<0 then k
    else if t.C 0 (k+1)*t.C (r+1) (Z9 t r k+1)<t.C 0 (Z9 t r k+1)*t.C (r+1) (k+1)\/
      (t.C 0 (k+1)*t.C (r+1) (Z9 t r k+1)=t.C 0 (Z9 t r k+1)*t.C (r+1) (k+1)/\t.F k<t.F (Z9 t r k)) then k else Z9 t r k
theorem Wk(t:Tb)(r:Int):∀k:Nat,Z9 t r k= -1\/(0<=Z9 t r k/\Z9 t r k<k)
 |0=> .inl rfl
 | k+1=>by
   have:=Wk t r k
   unfold Z9;split<;>(try split)<;>(try split)<;>omega
theorem XB(t:Tb)(r:Int)(h:0<=j):Z9 t r (j+1).toNat=if t.C (r+1) (j+1)<=0 then Z9 t r j.toNat
   else if Z9 t r j.toNat<0 then j
   else if t.C 0 (j+1)*t.C (r+1) (Z9 t r j.toNat+1)<t.C 0 (Z9 t r j.toNat+1)*t.C (r+1) (j+1)\/
     (t.C 0 (j+1)*t.C (r+1) (Z9 t r j.toNat+1)=t.C 0 (Z9 t r j.toNat+1)*t.C (r+1) (j+1)/\t.F j<t.F (Z9 t r j.toNat)) then j else Z9 t r j.toNat:=by
 rw [show(j+1).toNat=j.toNat+1 by omega,Z9,Int.toNat_of_nonneg h]
def Tb.costs(t:Tb):Prop:=∀j,1<=j->j<=t.nf->0<=t.C 0 j
def NextR(t:Tb)(r c:Int)(d:Bool)(e:Int):Prop:=
  (¬(TPrp t/\t.costs)/\r=0/\c=0/\d=false/\e=1)\/
  (TPrp t/\t.costs/\YA t t.nb.toNat<0/\r=0/\c=0/\d=true/\e=0)\/
  (TPrp t/\t.costs/\0<=YA t t.nb.toNat/\Z9 t (YA t t.nb.toNat) t.nf.toNat<0/\r=0/\c=0/\d=false/\e=19)\/
  (TPrp t/\t.costs/\0<=YA t t.nb.toNat/\0<=Z9 t (YA t t.nb.toNat) t.nf.toNat/\r=YA t t.nb.toNat/\c=Z9 t (YA t t.nb.toNat) t.nf.toNat/\d=false/\e=0)
theorem NextR.same{t:Tb}{r' c':Int}{d':Bool}(h:NextR t r c d e)(h':NextR t r' c' d' e'):r=r'/\c=c'/\d=d'/\e=e':=by
 rcases h with⟨a1,a2,a3,a4,a5⟩|⟨a1,a2,a3,a4,a5,a6,a7⟩|⟨a1,a2,a3,a4,a5,a6,a7,a8⟩|⟨a1,a2,a3,a4,a5,a6,a7,a8⟩<;>rcases h' with⟨b1,b2,b3,b4,b5⟩|⟨b1,b2,b3,b4,b5,b6,b7⟩|⟨b1,b2,b3,b4,b5,b6,b7,b8⟩|⟨b1,b2,b3,b4,b5,b6,b7,b8⟩<;>first
   |(exfalso;omega)
   |(exfalso;exact a1 ⟨b1,b2⟩)
   |(exfalso;exact b1 ⟨a1,a2⟩)
   |(subst a4;subst b4;exact⟨by omega,Oa,rfl,Oa⟩)
   |(subst a6;subst b6;exact⟨by omega,Oa,rfl,Oa⟩)
   |(subst a7;subst b7;exact⟨by omega,Oa,rfl,Oa⟩)
def Yg(t:Tb)(r s i j:Int):Int:=if i=r/\j=s then t.den else if i=r then-t.C i j else if j=s then t.C i j else(t.C r s*t.C i j-t.C i s*t.C r j).tdiv t.den
def piv(t:Tb)(row col:Int):Tb where
  vars:=t.vars
  den:=if t.C (row+1) (col+1)<0 then-t.C (row+1) (col+1) else t.C (row+1) (col+1)
  nb:=t.nb
  nf:=t.nf
  nc:=t.nc
  B:=upd t.B row (t.F col)
  F:=upd t.F col (t.B row)
  ln:=t.ln
  C:=fun i j=>if t.C (row+1) (col+1)<0 then-Yg t (row+1) (col+1) i j else Yg t (row+1) (col+1) i j
def Tb.zero:Tb:=⟨0,0,0,0,0,fun _=>0,fun _=>0,fun _=>0,fun _ _=>0⟩
def UY(t:Tb)(row col:Int):Prop:=TPrp t/\0<=row/\row<t.nb/\0<=col/\col<t.nf/\t.C (row+1) (col+1)≠0
def Zmp(t:Tb)(r s i j:Int):Prop:=i≠r->j≠s->(t.C r s*t.C i j-t.C i s*t.C r j).tmod t.den=0
def Zc7(t:Tb)(row col:Int):Prop:=∀i j,0<=i->i<=t.nb->0<=j->j<=t.nf->Zmp t (row+1) (col+1) i j
def PivR (t:Tb) (row col:Int) (t':Tb) (e:Int):Prop:=
  (¬UY t row col/\t'=Tb.zero/\e=1)\/(UY t row col/\¬Zc7 t row col/\t'=Tb.zero/\e=4)\/(UY t row col/\Zc7 t row col/\¬TPrp (piv t row col)/\t'=Tb.zero/\e=2)\/
    (UY t row col/\Zc7 t row col/\TPrp (piv t row col)/\t'=piv t row col/\e=0)
theorem PivR.same{t t' t'':Tb}{row col:Int}(h:PivR t row col t' e)(h':PivR t row col t'' e'):t'=t''/\e=e':=by
 rcases h with⟨a1,a2,a3⟩|⟨a1,a2,a3,a4⟩|⟨a1,a2,a3,a4,a5⟩|⟨a1,a2,a3,a4,a5⟩<;>rcases h' with⟨b1,b2,b3⟩|⟨b1,b2,b3,b4⟩|⟨b1,b2,b3,b4,b5⟩|⟨b1,b2,b3,b4,b5⟩<;>first
   |contradiction
   |exact⟨by rw [a2,b2],Oa⟩
   |exact⟨by rw [a3,b3],Oa⟩
   |exact⟨by rw [a4,b4],Oa⟩
theorem Zgm{t:Tb}(h:TPrp t){s:Int}(r0:0<=r)(r1:r<=t.nb)(s0:0<=s)(s1:s<=t.nf)(i0:0<=i)(i1:i<=t.nb)(j0:0<=j)(j1:j<=t.nf): -9223372036854775807<=Yg t r s i j/\Yg t r s i j<=9223372036854775807:=by
 have a1:=h.cell r0 r1 s0 s1
 have a2:=h.cell i0 i1 j0 j1
 have a3:=h.cell i0 i1 s0 s1
 have a4:=h.cell r0 r1 j0 j1
 have m1:=Wx a1 a2
 have m2:=Wx a3 a4
 have d1:=h.d1;have d2:=h.d2
 have q:=YU (a:=t.C r s*t.C i j-t.C i s*t.C r j) (d:=t.den) (A:=2305843009213693952) d1 Oa
 unfold Yg
 split
 · omega
 · split
   · omega
   · split<;>omega
inductive Run:Nat->Tb->Tb->Int->Prop
  |stop {k:Nat} {t:Tb} {r c e:Int} {d:Bool} (h:NextR t r c d e) (hd:d=true\/e≠0):Run k t t e
  |lim {t:Tb} {r c:Int} (h:NextR t r c false 0):Run 0 t t 9
  |bad {k:Nat} {t t':Tb} {r c e:Int} (h:NextR t r c false 0) (hp:PivR t r c t' e) (he:e≠0):Run (k+1) t t e
  |go {k:Nat} {t t' u:Tb} {r c e:Int} (h:NextR t r c false 0) (hp:PivR t r c t' 0) (hr:Run k t' u e):Run (k+1) t u e
theorem Run.same{k:Nat}{t u:Tb}{e:Int}(h:Run k t u e):∀{u':Tb} {e':Int},Run k t u' e'->u=u'/\e=e':=by
 induction h with
 | stop h hd=>
   intro u' e' h'
   cases h' with
   |stop h2 hd2=>exact⟨rfl,(h.same h2).2.2.2⟩
   |lim h2=>have:=h.same h2;rcases hd with hd|hd;(rw [hd] at this;cases this.2.2.1);omega
   |bad h2=>have:=h.same h2;rcases hd with hd|hd;(rw [hd] at this;cases this.2.2.1);omega
   |go h2=>have:=h.same h2;rcases hd with hd|hd;(rw [hd] at this;cases this.2.2.1);omega
 | lim h=>
   intro u' e' h'
   cases h' with
   |stop h2 hd2=>have:=h.same h2;rcases hd2 with hd|hd;(rw [hd] at this;cases this.2.2.1);omega
   |lim h2=>exact⟨rfl,rfl⟩
 | bad h hp he=>
   intro u' e' h'
   cases h' with
   |stop h2 hd2=>have:=h.same h2;rcases hd2 with hd|hd;(rw [hd] at this;cases this.2.2.1);omega
   |bad h2 hp2 he2=>obtain⟨rfl,rfl,_,_⟩:=h.same h2;exact⟨rfl,(hp.same hp2).2⟩
   |go h2 hp2 hr2=>obtain⟨rfl,rfl,_,_⟩:=h.same h2;exact absurd (hp.same hp2).2 he
 | go h hp hr ih=>
   intro u' e' h'
   cases h' with
   |stop h2 hd2=>have:=h.same h2;rcases hd2 with hd|hd;(rw [hd] at this;cases this.2.2.1);omega
   |bad h2 hp2 he2=>obtain⟨rfl,rfl,_,_⟩:=h.same h2;exact absurd (hp2.same hp).2 he2
   | go h2 hp2 hr2=>
     obtain⟨rfl,rfl,_,_⟩:=h.same h2
     obtain⟨rfl,_⟩:=hp.same hp2
     exact ih hr2
structure Lp where
  n:Int
  m:Int
  k:Int
  c:Of
  ln:Of
  A:Og
  b:Of
structure LAt (w:World) (vc vA vb:Value) (vv:Int->Value) (p:Lp):Prop where
  c:Row w vc 1 p.n (ints p.c)
  A:MAt w vA p.m vv p.ln p.A
  b:Row w vb 1 p.k (ints p.b)
theorem LAt.below{w w':World}{vc vA vb:Value}{vv:Int->Value}{p:Lp}(h:LAt w vc vA vb vv p)(hb:Below w.heap.size w w'):LAt w' vc vA vb vv p:=⟨h.c.below hb,h.A.below hb,h.b.below hb⟩
structure LOk (p:Lp):Prop where
  n1:1<=p.n
  n2:p.n<=60
  m2:p.m<=16
  k:p.k=p.m
  c:∀j,0<=j->j<p.n->0<=p.c j/\p.c j<=1000000
  b:∀i,0<=i->i<p.m-> -1000000<=p.b i/\p.b i<=1000000
  rows:∀i,0<=i->i<p.m->p.ln i=p.n/\∀j,0<=j->j<p.n-> -1000000<=p.A i j/\p.A i j<=1000000
def Zw(p:Lp):Tb:=⟨p.n,1,p.m,p.n,p.m+1,fun i=>p.n+i,fun j=>j,fun _=>p.n+1,fun i j=>if i=0 then(if j=0 then 0 else p.c (j-1)) else if j=0 then-p.b (i-1) else p.A (i-1) (j-1)⟩
def StartR(p:Lp)(t:Tb)(e:Int):Prop:=(¬LOk p/\t=Tb.zero/\e=1)\/(LOk p/\t=Zw p/\e=0)
theorem Zof(d:Bool):Value.bool d=B (d=true):=by
 cases d
 · exact(ZA (by simp)).symm
 · exact(ZQ rfl).symm
theorem YG{l:List Ent}{vB vF vC xB xF xC:Value}{xv:Int->Value}{t u:Tb}{E1 E2 E3 E4:TypeId}(hO:TAt w vB vF vC vv t)(hS:Sat w0 w l)(i:Nat)
   (hi:l[i]? =some (.sem (Frame.alt (u=t/\xB=vB/\xF=vF/\xC=vC/\xv=vv) (Frame.bun [.own xB 1 E1 u.nb (ints u.B),.own xF 1 E2 u.nf (ints u.F),.own xC 1 E3 u.nc xv,.sem (Frame.rows E4 u.nc xv u.ln u.C)])))):TAt w xB xF xC xv u:=by
 rcases hS.holds _ (List.mem_of_getElem? hi) with h|⟨h,_⟩
 · obtain⟨rfl,rfl,rfl,rfl,rfl⟩:=h;exact hO
 · have h4:=h (.sem (Frame.rows E4 u.nc xv u.ln u.C)) (by simp)
   exact⟨(h (.own xB 1 E1 u.nb (ints u.B)) (by simp)).row,(h (.own xF 1 E2 u.nf (ints u.F)) (by simp)).row,(h (.own xC 1 E3 u.nc xv) (by simp)).row,fun k k0 k1=>(h4.1 k k0 k1).row,fun k k0 k1=>(h4.1 k k0 k1).roomy⟩
theorem NextR.rng{t:Tb}(h:NextR t r c d e): -1<=r/\r<=t.nb.toNat/\ -1<=c/\c<=t.nf.toNat:=by
 have h1:=YZ t t.nb.toNat
 have h2:=Wk t (YA t t.nb.toNat) t.nf.toNat
 rcases h with⟨_,h3,h4,_⟩|⟨_,_,_,h3,h4,_⟩|⟨_,_,_,_,h3,h4,_⟩|⟨_,_,_,_,h3,h4,_⟩<;>omega
theorem NextR.prp{t:Tb}(h:NextR t r c d e)(he:e≠1):TPrp t/\t.costs:=by
 rcases h with⟨_,_,_,_,h⟩|⟨h,h2,_⟩|⟨h,h2,_⟩|⟨h,h2,_⟩
 · exact absurd h he
 · exact⟨h,h2⟩
 · exact⟨h,h2⟩
 · exact⟨h,h2⟩
theorem Run.dims{t u:Tb}(h:Run k t u e):u.nb=t.nb/\u.nf=t.nf/\u.nc=t.nc/\u.vars=t.vars:=by
 induction h with
 |stop=>exact⟨rfl,rfl,rfl,rfl⟩
 |lim=>exact⟨rfl,rfl,rfl,rfl⟩
 |bad=>exact⟨rfl,rfl,rfl,rfl⟩
 | go h hp hr ih=>
   rcases hp with⟨_,_,h⟩|⟨_,_,_,h⟩|⟨_,_,_,_,h⟩|⟨_,_,_,rfl,_⟩
   · omega
   · omega
   · omega
   · exact ih
theorem Run.fin {t u:Tb} (h:Run k t u e) (he:e=0\/e=19):TPrp u/\u.costs/\(e=0->YA u u.nb.toNat<0)/\(e=19->0<=YA u u.nb.toNat/\Z9 u (YA u u.nb.toNat) u.nf.toNat<0):=by
 induction h with
 | stop h hd=>
   have:=h.prp Oa
   refine⟨this.1,this.2,fun e0=> ?_,fun e0=> ?_⟩
   · rcases h with⟨_,_,_,_,h⟩|⟨_,_,h,_⟩|⟨_,_,_,_,_,_,_,h⟩|⟨_,_,_,_,_,_,hd',h⟩
     · omega
     · exact h
     · omega
     · rcases hd with hd|hd
       · rw [hd] at hd';cases hd'
       · exact absurd e0 hd
   · rcases h with⟨_,_,_,_,h⟩|⟨_,_,_,_,_,_,h⟩|⟨_,_,h1,h2,_⟩|⟨_,_,_,_,_,_,_,h⟩
     · omega
     · omega
     · exact⟨h1,h2⟩
     · omega
 |lim=>omega
 | bad h hp he'=>
   rcases hp with⟨_,_,h⟩|⟨_,_,_,h⟩|⟨_,_,_,_,h⟩|⟨_,_,_,_,h⟩<;>omega
 |go h hp hr ih=>exact ih he
def rdX(u:Tb):Nat->Int->Int
  |0=>fun _=>0
  |k+1=>if u.B k<u.vars then upd (rdX u k) (u.B k) (u.C (k+1) 0) else rdX u k
def rdY(u:Tb):Nat->Int->Int
  |0=>fun _=>0
  |k+1=>if u.vars<=u.F k then upd (rdY u k) (u.F k-u.vars) (u.C 0 (k+1)) else rdY u k
theorem ZbK(u:Tb)(h:0<=i):rdX u (i+1).toNat=if u.B i<u.vars then upd (rdX u i.toNat) (u.B i) (u.C (i+1) 0) else rdX u i.toNat:=by
 rw [show(i+1).toNat=i.toNat+1 by omega,rdX,Int.toNat_of_nonneg h]
theorem ZbJ(u:Tb)(h:0<=i):rdY u (i+1).toNat=if u.vars<=u.F i then upd (rdY u i.toNat) (u.F i-u.vars) (u.C 0 (i+1)) else rdY u i.toNat:=by
 rw [show(i+1).toNat=i.toNat+1 by omega,rdY,Int.toNat_of_nonneg h]
structure So where
  n:Int
  m:Int
  X:Of
  Y:Of
  val:Int
  den:Int
def So.zero:So:=⟨0,0,fun _=>0,fun _=>0,0,0⟩
def XW(u:Tb):So:=⟨u.nf,u.nb,rdX u u.nb.toNat,rdY u u.nf.toNat,u.C 0 0,u.den⟩
def SolveR(p:Lp)(s:So)(e:Int):Prop:=(¬LOk p/\s=So.zero/\e=1)\/(LOk p/\∃u,Run 1000 (Zw p) u e/\((e≠0/\s=So.zero)\/(e=0/\s=XW u)))
theorem SolveR.same{p:Lp}{s s':So}{e e':Int}(h:SolveR p s e)(h':SolveR p s' e'):s=s'/\e=e':=by
 rcases h with⟨a1,a2,a3⟩|⟨a1,u,a2,a3⟩<;>rcases h' with⟨b1,b2,b3⟩|⟨b1,u',b2,b3⟩
 · exact⟨by rw [a2,b2],Oa⟩
 · exact absurd b1 a1
 · exact absurd a1 b1
 · obtain⟨rfl,rfl⟩:=a2.same b2
   rcases a3 with⟨a3,a4⟩|⟨a3,a4⟩<;>rcases b3 with⟨b3,b4⟩|⟨b3,b4⟩
   · exact⟨by rw [a4,b4],rfl⟩
   · exact absurd b3 a3
   · exact absurd a3 b3
   · exact⟨by rw [a4,b4],rfl⟩
end Go.Proofs.Gw
namespace Go.Proofs.Gw
open Go Go.RowKit
variable {i:Int} {f y:Of}
def Zc(f:Of):Nat->Int
  |0=>0
  |k+1=>Zc f k+f k
theorem ZF(f:Of)(h:0<=i):Zc f (i+1).toNat=Zc f i.toNat+f i:=by
 rw [show(i+1).toNat=i.toNat+1 by omega]
 simp only [Zc]
 rw [show((i.toNat:Nat):Int)=i by omega]
theorem Z1{f g:Of}:∀{n:Nat},(∀i,0<=i->i<(n:Int)->f i<=g i)->Zc f n<=Zc g n
 |0,_=>Int.le_refl _
 | n+1,h=>by
   have h1:=Z1 (n:=n) (fun i h0 h1=>h i h0 Oa)
   have h2:=h n Oa Oa
   simp only [Zc];omega
theorem Zg{g:Of}{n:Nat}(h:∀i,0<=i->i<(n:Int)->f i=g i):Zc f n=Zc g n:=
 Int.le_antisymm (Z1 fun i h0 h1=>Int.le_of_eq (h i h0 h1)) (Z1 fun i h0 h1=>Int.le_of_eq (h i h0 h1).symm)
theorem ZE:∀n:Nat,Zc (fun _=>0) n=0
 |0=>rfl
 |n+1=>by simp only [Zc,ZE n];rfl
theorem ZY{n:Nat}(h:∀i,0<=i->i<(n:Int)->0<=f i):0<=Zc f n:=by
 have:=Z1 (f:=fun _=>0) h
 rw [ZE] at this;exact this
theorem WO(c:Int):∀n:Nat,Zc (fun _=>c) n=n*c
 |0=>by simp [Zc]
 |n+1=>by simp only [Zc,WO c n];rw [Int.natCast_add,Int.add_mul];simp
theorem UU{A:Int}{n:Nat}(h:∀i,0<=i->i<(n:Int)->0<=f i/\f i<=A):0<=Zc f n/\Zc f n<=n*A:=by
 refine⟨ZY fun i h0 h1=>(h i h0 h1).1,?_⟩
 rw [<-WO];exact Z1 fun i h0 h1=>(h i h0 h1).2
theorem W7(f g:Of):∀n:Nat,Zc (fun i=>f i+g i) n=Zc f n+Zc g n
 |0=>rfl
 |n+1=>by simp only [Zc,W7 f g n];omega
theorem Ye(f:Of)(c:Int):∀n:Nat,Zc (fun i=>f i*c) n=Zc f n*c
 |0=>by simp [Zc]
 |n+1=>by simp only [Zc,Ye f c n];rw [Int.add_mul]
theorem Wr(f:Og)(n:Nat):∀m:Nat,Zc (fun k=>Zc (fun i=>f i k) n) m=Zc (fun i=>Zc (fun k=>f i k) m) n
 |0=>(ZE n).symm
 | m+1=>by
   simp only [Zc,Wr f n m]
   rw [<-W7]
theorem Xf{n:Nat}{j:Int}(h0:0<=j)(h1:j<(n:Int))(h:∀i,0<=i->i<(n:Int)->0<=f i):f j<=Zc f n:=by
 induction n with
 |zero=>omega
 | succ n ih=>
   simp only [Zc]
   have h2:=h n Oa Oa
   have h3:=ZY (n:=n) (fun i a b=>h i a Oa)
   by_cases e:j=n
   · subst e;omega
   · have:=ih Oa (fun i a b=>h i a Oa);omega
theorem X2(D y:Of):∀n:Nat,Tot D y n=Zc (fun i=>D i*y i) n
 |0=>rfl
 |n+1=>by simp only [Tot,Zc,X2 D y n]
def ZL(p:Prob)(a:Of)(n:Nat):Int:=Zc (fun i=>a i*(p.L i+p.kerf)) n
structure FitsP (p:Prob) (n:Int) (a:Of):Prop where
  ok:p.Ok
  eq:n=p.m
  all:∀i,0<=i->i<p.m->0<=a i/\a i<=2000
  used:ZL p a p.m.toNat<=p.stock+p.kerf
structure SoundP (p:Prob) (n:Int) (len:Of) (pt:Og) (cnt:Of):Prop where
  ok:p.Ok
  few:n<=1000
  all:∀i,0<=i->i<n->FitsP p (len i) (pt i)/\1<=cnt i/\cnt i<=1000
def X8(pt:Og)(cnt:Of)(n:Nat)(k:Int):Int:=Zc (fun i=>pt i k*cnt i) n
structure MeetsP (p:Prob) (n:Int) (len:Of) (pt:Og) (cnt:Of):Prop where
  s:SoundP p n len pt cnt
  all:∀k,0<=k->k<p.m->p.D k<=X8 pt cnt n.toNat k
theorem Zbm{p:Prob}(hp:p.Ok){y x:Of}(hx:∀i,0<=i->i<p.m->0<=x i/\x i<=p.D i):∀(j:Nat),(j:Int)<=p.m->∀c,Zc (fun i=>x i*(p.L i+p.kerf)) j<=c->Zc (fun i=>x i*y i) j<=Tab p y j c
 |0,_,c,_=>Int.le_refl _
 | j +1,hj,c,hc=>by
   have h1:=hx j Oa Oa
   have h2:=hp.all j Oa Oa
   unfold Prob.each at h2
   have hk:=hp.k1
   simp only [Zc] at hc⊢
   have h3:=Zbm hp hx (y:=y) j Oa (c-x j*(p.L j+p.kerf)) Oa
   have e:(((x j).toNat:Nat):Int)=x j:=Oa
   have h4:0<=Zc (fun i=>x i*(p.L i+p.kerf)) j:=ZY fun i a0 a1=>by
     have:=hx i a0 Oa
     have h5:=hp.all i a0 Oa
     unfold Prob.each at h5
     exact Int.mul_nonneg this.1 Oa
   have h5:=ZdJ (Tab p y j) (p.L j+p.kerf) (y j) (p.D j).toNat (x j).toNat c Oa (by rw [e];omega)
   rw [e] at h5
   simp only [Tab];omega
theorem Zjp{n:Nat}{a c:Of}{D:Int}(hD:0<=D)(ha:∀i,0<=i->i<(n:Int)->0<=a i)(hc:∀i,0<=i->i<(n:Int)->1<=c i)(h:D<=Zc (fun i=>a i*c i) n):D<=Zc (fun i=>min (a i) D*c i) n:=by
 have hnn:∀i,0<=i->i<(n:Int)->0<=min (a i) D*c i:=fun i h0 h1=>by
   have:=ha i h0 h1;have:=hc i h0 h1
   exact Int.mul_nonneg Oa Oa
 by_cases hex:∃i,0<=i/\i<(n:Int)/\D<=a i
 · obtain⟨i,h0,h1,h2⟩:=hex
   have h3:=Xf (f:=fun i=>min (a i) D*c i) h0 h1 hnn
   have h4:min (a i) D=D:=Oa
   simp only [h4] at h3
   have h5:D*1<=D*c i:=Int.mul_le_mul_of_nonneg_left (hc i h0 h1) hD
   omega
 · have:Zc (fun i=>min (a i) D*c i) n=Zc (fun i=>a i*c i) n:=Zg fun i h0 h1=>by
     have h2:¬D<=a i:=fun h2=>hex ⟨i,h0,h1,h2⟩
     rw [show min (a i) D=a i by omega]
   omega
theorem Rv{p:Prob}{n:Int}{a:Of}(h:FitsP p n a):Zc (fun k=>min (a k) (p.D k)*y k) p.m.toNat<=WI p y:=by
 have hp:=h.ok
 have hm:=hp.m1;have hk:=hp.k1
 refine Zbm hp (fun i h0 h1=> ?_) p.m.toNat Oa _ ?_
 · have:=h.all i h0 h1
   have h2:=hp.all i h0 h1
   unfold Prob.each at h2
   omega
 · refine Int.le_trans (Z1 fun i h0 h1=> ?_) h.used
   have:=h.all i h0 Oa
   have h2:=hp.all i h0 Oa
   unfold Prob.each at h2
   exact Int.mul_le_mul_of_nonneg_right Oa Oa
theorem ZeW{p:Prob}{n:Int}{q:Int}(h:Chk p n y q=0){l:Int}{len:Of}{pt:Og}{cnt:Of}(hl:0<=l)(hM:MeetsP p l len pt cnt):
   Yt p n y q<=Zc cnt l.toNat:=by
 obtain⟨hp,hfm,hn,hw⟩:=XQ h
 have hm:=hp.m1;have hq:=hfm.1
 have hpr:=hfm.priced hn
 rw [Yb h]
 have bJ:Tot p.D y p.m.toNat<=Zc cnt l.toNat*q:=by
   rw [X2]
   have s1:Zc (fun k=>p.D k*y k) p.m.toNat<=Zc (fun k=>Zc (fun i=>min (pt i k) (p.D k)*cnt i*y k) l.toNat) p.m.toNat:=Z1 fun k k0 k1=>by
     have h1:=hM.all k k0 Oa
     have h2:=hp.all k k0 Oa
     unfold Prob.each at h2
     have h3:=Zjp (n:=l.toNat) (a:=fun i=>pt i k) (c:=cnt) (D:=p.D k) Oa (fun i a0 a1=>((hM.s.all i a0 Oa).1.all k k0 Oa).1) (fun i a0 a1=>(hM.s.all i a0 Oa).2.1) h1
     have h4:=hpr k k0 Oa
     rw [Ye (fun i=>min (pt i k) (p.D k)*cnt i) (y k)]
     exact Int.mul_le_mul_of_nonneg_right h3 h4.1
   rw [Wr (fun i k=>min (pt i k) (p.D k)*cnt i*y k)] at s1
   refine Int.le_trans s1 ?_
   rw [<-Ye]
   refine Z1 fun i a0 a1=> ?_
   have h5:=hM.s.all i a0 Oa
   have h6:=Rv (y:=y) h5.1
   have e:Zc (fun k=>min (pt i k) (p.D k)*cnt i*y k) p.m.toNat=Zc (fun k=>min (pt i k) (p.D k)*y k) p.m.toNat*cnt i:=by
     rw [<-Ye]
     exact Zg fun k _ _=>by rw [Int.mul_assoc,Int.mul_comm (cnt i),<-Int.mul_assoc]
   rw [e,Int.mul_comm (cnt i)]
   exact Int.mul_le_mul_of_nonneg_right Oa Oa
 have h0:=(K7 hp hpr p.m Oa Oa).1
 unfold Bnd
 rw [Int.tdiv_eq_ediv_of_nonneg Oa]
 have h7:(Tot p.D y p.m.toNat+q-1)/q<Zc cnt l.toNat+1:=Int.ediv_lt_of_lt_mul Oa (by rw [Int.add_mul];omega)
 omega
def Ze(pv:Int->Value)(cnt:Of):Int->Value:=fun k=>if k%2=0 then pv (k/2) else .int Oi (cnt (k/2))
theorem ZiQ(pv:Int->Value)(cnt:Of){k:Int}(h:k=2*i):Ze pv cnt k=pv i:=by
 subst h;unfold Ze;rw [if_pos Oa];congr 1;omega
theorem ZdO(pv:Int->Value)(cnt:Of){k:Int}(h:k=2*i+1):Ze pv cnt k= .int Oi (cnt i):=by
 subst h;unfold Ze;rw [if_neg Oa];congr 2;omega
structure UAt (w:World) (v:Value) (n:Int) (pv:Int->Value) (len:Of) (pt:Og) (cnt:Of):Prop where
  row:Row w v 2 n (Ze pv cnt)
  p:∀i,0<=i->i<n->IAt w (pv i) (len i) (pt i)
  c:∀i,-9223372036854775808<=cnt i/\cnt i<=9223372036854775807
theorem UAt.below{w w':World}{v:Value}{n:Int}{pv:Int->Value}{len:Of}{pt:Og}{cnt:Of}(h:UAt w v n pv len pt cnt)(hb:Below w.heap.size w w'):UAt w' v n pv len pt cnt:=
 ⟨h.row.below hb,fun i h0 h1=>(h.p i h0 h1).below hb,h.c⟩
end Go.Proofs.Gw
namespace Go.Proofs.Gw
open Go Go.RowKit
theorem StartR.ok{p:Lp}{t:Tb}{e:Int}(h:StartR p t e)(he:e=0):LOk p/\t=Zw p:=by
 rcases h with⟨_,_,h⟩|⟨h1,h2,_⟩
 · omega
 · exact⟨h1,h2⟩
theorem StartR.err{p:Lp}{t:Tb}{e:Int}(h:StartR p t e)(he:e≠0):¬LOk p/\e=1:=by
 rcases h with⟨h1,_,h⟩|⟨h1,h2,h⟩
 · exact⟨h1,h⟩
 · exact absurd h he
def Zz(f g:Of)(n:Nat):Int:=Zc (fun k=>f k*g k) n
def wgt(A:Og)(y:Of)(n:Nat)(j:Int):Int:=Zc (fun i=>A i j*y i) n
structure ChkS (p:Lp) (s:So):Prop where
  ok:LOk p
  d1:1<=s.den
  d2:s.den<=1073741824
  v: -1073741824<=s.val/\s.val<=1073741824
  n:s.n=p.n
  m:s.m=p.m
  X:∀j,0<=j->j<p.n->0<=s.X j/\s.X j<=1073741824
  Y:∀i,0<=i->i<p.m->0<=s.Y i/\s.Y i<=1073741824
  rows:∀i,0<=i->i<p.m->p.b i*s.den<=Zz (p.A i) s.X p.n.toNat
  cols:∀j,0<=j->j<p.n->wgt p.A s.Y p.m.toNat j<=p.c j*s.den
  cX:Zz p.c s.X p.n.toNat=s.val
  bY:Zz p.b s.Y p.m.toNat=s.val
variable {e i j:Int} {g:Of} {k:Nat} {t:Tb}
theorem Z0{f:Of}{s:Int}:∀{n:Nat},0<=s->s<n->Zc f n=f s+Zc (fun j=>if j=s then 0 else f j) n
 |0,h0,h1=>Oa
 | n +1,h0,h1=>by
   rw [Zc,Zc]
   by_cases e:s=n
   · have:Zc (fun j=>if j=s then 0 else f j) n=Zc f n:=Zg fun i i0 i1=>by rw [if_neg Oa]
     rw [this,if_pos e.symm,e];omega
   · have:=Z0 (f:=f) (s:=s) (n:=n) h0 Oa
     rw [this,if_neg Oa];omega
theorem Xg{f g h:Of}{D A B:Int}:∀{n:Nat},(∀i,0<=i->i<(n:Int)->D*h i=A*f i-B*g i)->D*Zc h n=A*Zc f n-B*Zc g n
 |0,_=>by simp [Zc]
 | n+1,hh=>by
   have h1:=Xg (n:=n) (fun i i0 i1=>hh i i0 Oa)
   have h2:=hh n Oa Oa
   simp only [Zc]
   grind
def VQ(t:Tb)(k0:Int)(v:Of)(i:Int):Int:=t.C i 0*k0+Zc (fun j=>t.C i (j+1)*v (t.F j)) t.nf.toNat
def VC(t:Tb)(z:Int)(v:Of)(i:Int):Int:=if i=0 then z else v (t.B (i-1))
def Idt(t:Tb)(k0 z:Int)(v:Of):Prop:=∀i,0<=i->i<=t.nb->t.den*VC t z v i=VQ t k0 v i
def WF(t:Tb)(k0:Int)(v:Of)(s i:Int):Int:=t.C i 0*k0+Zc (fun j=>if j=s then 0 else t.C i (j+1)*v (t.F j)) t.nf.toNat
theorem RR(t:Tb)(k0:Int)(v:Of){s:Int}(i:Int)(s0:0<=s)(s1:s<t.nf):VQ t k0 v i=WF t k0 v s i+t.C i (s+1)*v (t.F s):=by
 unfold VQ WF
 rw [Z0 (s:=s) s0 Oa];omega
def sg(p:Int):Int:=if p<0 then-1 else 1
theorem TF(p:Int):sg p=1\/sg p= -1:=by unfold sg;split<;>simp
theorem UW(t:Tb)(row col i j:Int):(piv t row col).C i j=sg (t.C (row+1) (col+1))*Yg t (row+1) (col+1) i j:=by
 show(if _ then _ else _)=_
 unfold sg;split<;>simp
theorem Zd0(t:Tb)(row col:Int):(piv t row col).den=sg (t.C (row+1) (col+1))*t.C (row+1) (col+1):=by
 show(if _ then _ else _)=_
 unfold sg;split<;>simp
theorem UX{row col:Int}(hd:Zc7 t row col)(i0:0<=i)(i1:i<=t.nb)(j0:0<=j)(j1:j<=t.nf)(hi:i≠row+1)(hj:j≠col+1):
   t.den*Yg t (row+1) (col+1) i j=t.C (row+1) (col+1)*t.C i j-t.C i (col+1)*t.C (row+1) j:=by
 unfold Yg
 rw [if_neg Oa,if_neg hi,if_neg hj]
 exact Int.mul_tdiv_cancel' (Int.dvd_of_tmod_eq_zero (hd i j i0 i1 j0 j1 hi hj))
theorem Zeb {row col:Int} (ha:UY t row col) (hd:Zc7 t row col) (k0 z:Int) (v:Of):Idt t k0 z v↔Idt (piv t row col) k0 z v:=by
 obtain⟨hp,r0,r1,c0,c1,hne⟩:=ha
 have hD:=hp.d1
 have hnf:(piv t row col).nf=t.nf:=rfl
 have hF1:(piv t row col).F col=t.B row:=by show upd t.F col (t.B row) col=_;rw [ZC]
 have hF2:∀j,j≠col->(piv t row col).F j=t.F j:=fun j h=>by show upd t.F col (t.B row) j=_;rw [upd_ne _ _ h]
 have hB1:(piv t row col).B row=t.F col:=by show upd t.B row (t.F col) row=_;rw [ZC]
 have hB2:∀j,j≠row->(piv t row col).B j=t.B j:=fun j h=>by show upd t.B row (t.F col) j=_;rw [upd_ne _ _ h]
 have qv:∀i,VQ t k0 v i=WF t k0 v col i+t.C i (col+1)*v (t.F col):=fun i=>RR t k0 v i c0 c1
 have zZ:∀i,VQ (piv t row col) k0 v i=WF (piv t row col) k0 v col i+(piv t row col).C i (col+1)*v (t.B row):=fun i=>by
   rw [RR (piv t row col) k0 v i c0 c1,hF1]
 have hR :WF (piv t row col) k0 v col (row+1)= -(sg (t.C (row+1) (col+1))*WF t k0 v col (row+1)):=by
   unfold WF
   have e0:(piv t row col).C (row+1) 0=sg (t.C (row+1) (col+1))* -t.C (row+1) 0:=by
     rw [UW];unfold Yg;rw [if_neg Oa,if_pos rfl]
   have e1:=Xg (D:=1) (A:= -sg (t.C (row+1) (col+1))) (B:=0) (n:=t.nf.toNat) (h:=fun j=>if j=col then 0 else(piv t row col).C (row+1) (j+1)*v ((piv t row col).F j))
     (f:=fun j=>if j=col then 0 else t.C (row+1) (j+1)*v (t.F j)) (g:=fun _=>0) (fun j j0 j1=>by
       by_cases e:j=col
       · simp [e]
       · simp only [if_neg e]
         rw [hF2 j e,UW];unfold Yg;rw [if_neg Oa,if_pos rfl];grind)
   rw [e0,hnf]
   grind
 have hQ :∀i,0<=i->i<=t.nb->i≠row+1->t.den*WF (piv t row col) k0 v col i=sg (t.C (row+1) (col+1))*(t.C (row+1) (col+1)*WF t k0 v col i-t.C i (col+1)*WF t k0 v col (row+1)):=fun i i0 i1 hi=>by
   unfold WF
   have e0:t.den*(piv t row col).C i 0=sg (t.C (row+1) (col+1))*(t.C (row+1) (col+1)*t.C i 0-t.C i (col+1)*t.C (row+1) 0):=by
     have:=UX hd i0 i1 (j:=0) Oa Oa hi Oa
     rw [UW];grind
   have e1:=Xg (D:=t.den) (A:=sg (t.C (row+1) (col+1))*t.C (row+1) (col+1)) (B:=sg (t.C (row+1) (col+1))*t.C i (col+1)) (n:=t.nf.toNat) (h:=fun j=>if j=col then 0 else(piv t row col).C i (j+1)*v ((piv t row col).F j))
     (f:=fun j=>if j=col then 0 else t.C i (j+1)*v (t.F j)) (g:=fun j=>if j=col then 0 else t.C (row+1) (j+1)*v (t.F j)) (fun j j0 j1=>by
       by_cases e:j=col
       · simp [e]
       · simp only [if_neg e]
         have:=UX hd i0 i1 (j:=j+1) Oa Oa hi Oa
         rw [hF2 j e,UW];grind)
   rw [hnf]
   grind
 have hr':(piv t row col).C (row+1) (col+1)=sg (t.C (row+1) (col+1))*t.den:=by rw [UW];unfold Yg;rw [if_pos ⟨rfl,rfl⟩]
 have hc':∀i,i≠row+1->(piv t row col).C i (col+1)=sg (t.C (row+1) (col+1))*t.C i (col+1):=fun i hi=>by rw [UW];unfold Yg;rw [if_neg Oa,if_neg hi,if_pos rfl]
 have hl1:VC t z v (row+1)=v (t.B row):=by unfold VC;rw [if_neg Oa];congr 2;omega
 have fp:VC (piv t row col) z v (row+1)=v (t.F col):=by unfold VC;rw [if_neg Oa,show row+1-1=row by omega,hB1]
 have hl2:∀i,i≠row+1->VC (piv t row col) z v i=VC t z v i:=fun i hi=>by
   unfold VC;split
   · rfl
   · rw [hB2 _ Oa]
 have hs:=TF (t.C (row+1) (col+1))
 have zd:=Zd0 t row col
 generalize sg (t.C (row+1) (col+1))=σ at*
 constructor
 · intro h i i0 i1
   have er:=h (row+1) Oa Oa
   rw [hl1,qv] at er
   by_cases hi:i=row+1
   · subst hi
     rw [fp,zZ,hR,hr',zd]
     grind
   · have ei:=h i i0 i1
     rw [qv] at ei
     have q:=hQ i i0 i1 hi
     rw [hl2 i hi,zZ,hc' i hi,zd]
     refine Int.eq_of_mul_eq_mul_left (a:=t.den) Oa ?_
     grind
 · intro h i i0 i1
   have er:=h (row+1) Oa (show row+1<=t.nb by omega)
   rw [fp,zZ,hR,hr',zd] at er
   have er2:t.den*v (t.B row)=WF t k0 v col (row+1)+t.C (row+1) (col+1)*v (t.F col):=by
     rcases hs with rfl|rfl<;>grind
   by_cases hi:i=row+1
   · subst hi
     rw [hl1,qv];exact er2
   · have ei:=h i i0 i1
     have q:=hQ i i0 i1 hi
     rw [hl2 i hi,zZ,hc' i hi,zd] at ei
     rw [qv]
     refine Int.eq_of_mul_eq_mul_left (a:=t.C (row+1) (col+1)) hne ?_
     rcases hs with rfl|rfl<;>grind
theorem Zea{u:Tb}(h:Run k t u e)(k0 z:Int)(v:Of):Idt t k0 z v↔Idt u k0 z v:=by
 induction h with
 |stop=>exact Iff.rfl
 |lim=>exact Iff.rfl
 |bad=>exact Iff.rfl
 | go h hp hr ih=>
   rcases hp with⟨_,_,h⟩|⟨_,_,_,h⟩|⟨_,_,_,_,h⟩|⟨ha,hd,_,rfl,_⟩
   · omega
   · omega
   · omega
   · exact(Zeb ha hd k0 z v).trans ih
theorem idt_start{p:Lp}(hl:LOk p)(hm:0<=p.m)(k0 z:Int)(v:Of):Idt (Zw p) k0 z v↔(z=Zz p.c v p.n.toNat/\∀i,0<=i->i<p.m->v (p.n+i)=Zz (p.A i) v p.n.toNat-p.b i*k0):=by
 have hn:=hl.n1
 have e00:(Zw p).C 0 0=0:=rfl
 have e0:∀j,0<=j->(Zw p).C 0 (j+1)=p.c j:=fun j j0=>by
   show(if(0:Int)=0 then(if j+1=0 then 0 else p.c (j+1-1)) else(if j+1=0 then-p.b (0-1) else p.A (0-1) (j+1-1)))=_
   rw [if_pos rfl,if_neg Oa,show j+1-1=j by omega]
 have ei0:∀i,1<=i->(Zw p).C i 0= -p.b (i-1):=fun i i0=>by
   show(if i=0 then(if(0:Int)=0 then 0 else p.c (0-1)) else(if(0:Int)=0 then-p.b (i-1) else p.A (i-1) (0-1)))=_
   rw [if_neg Oa,if_pos rfl]
 have ei:∀i j,1<=i->0<=j->(Zw p).C i (j+1)=p.A (i-1) j:=fun i j i0 j0=>by
   show(if i=0 then(if j+1=0 then 0 else p.c (j+1-1)) else(if j+1=0 then-p.b (i-1) else p.A (i-1) (j+1-1)))=_
   rw [if_neg Oa,if_neg Oa,show j+1-1=j by omega]
 have r0:VQ (Zw p) k0 v 0=Zz p.c v p.n.toNat:=by
   unfold VQ
   rw [e00,Int.zero_mul,Int.zero_add]
   exact Zg fun j j0 j1=>by rw [e0 j j0];rfl
 have r1:∀i,1<=i->VQ (Zw p) k0 v i=Zz (p.A (i-1)) v p.n.toNat-p.b (i-1)*k0:=fun i i0=>by
   unfold VQ
   have:Zc (fun j=>(Zw p).C i (j+1)*v ((Zw p).F j)) (Zw p).nf.toNat=Zz (p.A (i-1)) v p.n.toNat:=
     Zg fun j j0 j1=>by rw [ei i j i0 j0];rfl
   rw [this,ei0 i i0,Int.neg_mul];omega
 have e:(Zw p).den=1:=rfl
 have enb:(Zw p).nb=p.m:=rfl
 constructor
 · intro h
   refine⟨?_,fun i i0 i1=> ?_⟩
   · have:=h 0 Oa Oa
     rw [r0] at this
     unfold VC at this
     rw [if_pos rfl,e] at this;omega
   · have:=h (i+1) Oa Oa
     rw [r1 _ Oa,show i+1-1=i by omega] at this
     unfold VC at this
     have e2:(Zw p).B i=p.n+i:=rfl
     rw [if_neg Oa,show i+1-1=i by omega,e,e2] at this;omega
 · rintro⟨h0,h1⟩ i i0 i1
   rw [e,Int.one_mul]
   unfold VC
   by_cases hi:i=0
   · subst hi;rw [if_pos rfl,r0];exact h0
   · rw [if_neg hi,r1 i Oa]
     have e2:(Zw p).B (i-1)=p.n+(i-1):=rfl
     rw [e2];exact h1 (i-1) Oa Oa
def bas(u:Tb):Nat->Int->Int
  |0=>fun _=>0
  |k+1=>upd (bas u k) (u.B k) (u.C (k+1) 0)
theorem ZcC(u:Tb){q:Int}:∀K:Nat,(∀i:Int,0<=i->i<K->u.B i≠q)->bas u K q=0
 |0,_=>rfl
 | k+1,h=>by
   unfold bas
   rw [upd_ne _ _ (fun e=>h k Oa Oa e.symm)]
   exact ZcC u k fun i i0 i1=>h i i0 Oa
theorem TPrp.injB(h:TPrp t)(i0:0<=i)(i1:i<t.nb)(j0:0<=j)(j1:j<t.nb)(e:t.B i=t.B j):i=j:=by
 have hn:=h.n1
 have:=h.perm.2 (t.nf+i) (t.nf+j) Oa Oa Oa Oa (by unfold cat;rw [if_neg Oa,if_neg Oa,show t.nf+i-t.nf=i by omega,show t.nf+j-t.nf=j by omega];exact e)
 omega
theorem TPrp.disj(h:TPrp t)(i0:0<=i)(i1:i<t.nb)(j0:0<=j)(j1:j<t.nf):t.B i≠t.F j:=fun e=>by
 have hn:=h.n1
 have:=h.perm.2 (t.nf+i) j Oa Oa Oa Oa (by unfold cat;rw [if_neg Oa,if_pos j1,show t.nf+i-t.nf=i by omega];exact e)
 omega
theorem Ziw{u:Tb}(h:TPrp u):∀(K:Nat),(K:Int)<=u.nb->∀i:Int,0<=i->i<K->bas u K (u.B i)=u.C (i+1) 0
 |0,_,i,i0,i1=>Oa
 | k +1,hK,i,i0,i1=>by
   unfold bas
   by_cases e:i=k
   · subst e;rw [ZC]
   · rw [upd_ne _ _ (fun e2=>e (h.injB i0 Oa Oa Oa e2))]
     exact Ziw h k Oa i i0 Oa
theorem Za8{u:Tb}(h:TPrp u)(zb:∀i:Int,0<=i->i<u.nb->0<=u.C (i+1) 0)(q:Int):∀(K:Nat),(K:Int)<=u.nb->0<=bas u K q/\bas u K q<=1073741824
 |0,_=>by unfold bas;omega
 | k +1,hK=>by
   unfold bas
   by_cases e:q=u.B k
   · rw [<-e,ZC]
     have h1:=zb k Oa Oa
     have hn:=h.n1
     have h2:=h.cell (i:=k+1) (j:=0) Oa Oa Oa Oa
     omega
   · rw [upd_ne _ _ e];exact Za8 h zb q k Oa
theorem Zai(u:Tb){j:Int}(hj:j<u.vars):∀K:Nat,rdX u K j=bas u K j
 |0=>rfl
 | k +1=>by
   unfold rdX bas
   by_cases h:u.B k<u.vars
   · rw [if_pos h]
     by_cases e:j=u.B k
     · rw [<-e,ZC,ZC]
     · rw [upd_ne _ _ e,upd_ne _ _ e];exact Zai u hj k
   · rw [if_neg h,upd_ne _ _ Oa];exact Zai u hj k
def rdG(u:Tb)(y0 g:Of):Nat->Int->Int
  |0=>y0
  |k+1=>if u.vars<=u.F k then upd (rdG u y0 g k) (u.F k-u.vars) (g k) else rdG u y0 g k
theorem ZdX(u:Tb):∀K:Nat,rdY u K=rdG u (fun _=>0) (fun j=>u.C 0 (j+1)) K
 |0=>rfl
 |k+1=>by unfold rdY rdG;rw [ZdX u k]
theorem Uu(u:Tb)(y0 g:Of){i:Int}:∀K:Nat,(∀k:Int,0<=k->k<K->u.F k≠u.vars+i)->rdG u y0 g K i=y0 i
 |0,_=>rfl
 | k+1,h=>by
   unfold rdG
   have hk:=h k Oa Oa
   split
   · rw [upd_ne _ _ Oa];exact Uu u y0 g k fun q q0 q1=>h q q0 Oa
   · exact Uu u y0 g k fun q q0 q1=>h q q0 Oa
theorem Tf{u:Tb}{y0 g:Of}{A:Int}(q:Int)(h0:0<=y0 q/\y0 q<=A):∀K:Nat,(∀k:Int,0<=k->k<K->0<=g k/\g k<=A)->0<=rdG u y0 g K q/\rdG u y0 g K q<=A
 |0,_=>h0
 | k +1,h=>by
   unfold rdG
   split
   · by_cases e:q=u.F k-u.vars
     · rw [<-e,ZC];exact h k Oa Oa
     · rw [upd_ne _ _ e];exact Tf q h0 k fun q q0 q1=>h q q0 Oa
   · exact Tf q h0 k fun q q0 q1=>h q q0 Oa
theorem Zcs(w y:Of){a:Int}{m:Nat}(i0:0<=i)(i1:i<m):Zz w (upd y i a) m=Zz w y m+w i*(a-y i):=by
 unfold Zz
 rw [Z0 (s:=i) i0 i1,Z0 (f:=fun k=>w k*y k) (s:=i) i0 i1]
 have:Zc (fun j=>if j=i then 0 else w j*upd y i a j) m=Zc (fun j=>if j=i then 0 else w j*y j) m:=Zg fun j j0 j1=>by
   by_cases e:j=i
   · rw [if_pos e,if_pos e]
   · rw [if_neg e,if_neg e,upd_ne _ _ e]
 rw [this,ZC];grind
theorem Zaj {u:Tb} (h:TPrp u) (hm:0<=u.nb) {y0 g:Of} (w:Of) (hf:∀k:Int,0<=k->k<u.nf->u.vars<=u.F k->y0 (u.F k-u.vars)=0):∀K:Nat,(K:Int)<=u.nf->
   Zz w (rdG u y0 g K) u.nb.toNat=Zz w y0 u.nb.toNat+Zc (fun k=>if u.vars<=u.F k then g k*w (u.F k-u.vars) else 0) K
 |0,_=>by simp [rdG,Zc]
 | k + 1,hK=>by
   have ih:=Zaj h hm w hf (g:=g) k Oa
   have hr:=h.rngF (i:=k) Oa Oa hm
   have hv:=h.v
   unfold rdG Zc
   by_cases hc:u.vars<=u.F k
   · rw [if_pos hc,if_pos hc,Zcs _ _ Oa Oa,ih]
     have:rdG u y0 g k (u.F k-u.vars)=0:=by
       rw [Uu u y0 g k fun q q0 q1 e=>by
         have:=h.injF (i:=q) (j:=k) q0 Oa Oa Oa hm Oa;omega]
       exact hf k Oa Oa hc
     rw [this];grind
   · rw [if_neg hc,if_neg hc,ih];omega
theorem Rb(f:Of){q:Int}{n:Nat}(q0:0<=q)(q1:q<n):Zz f (fun k=>if k=q then 1 else 0) n=f q:=by
 unfold Zz
 rw [Z0 (s:=q) q0 q1]
 show f q*(if q=q then 1 else 0)+_=_
 rw [if_pos rfl,Int.mul_one]
 have:Zc (fun j=>if j=q then 0 else f j*(fun k=>if k=q then 1 else 0) j) n=Zc (fun _=>0) n:=Zg fun j _ _=>by split<;>simp_all
 rw [this,ZE];omega
def VG(p:Lp)(x:Of)(k0 q:Int):Int:=if q<p.n then x q else Zz (p.A (q-p.n)) x p.n.toNat-p.b (q-p.n)*k0
theorem Zec{p:Lp}(hl:LOk p)(hm:0<=p.m){u:Tb}(h:Run k (Zw p) u e)(x:Of)(k0:Int):Idt u k0 (Zz p.c x p.n.toNat) (VG p x k0):=by
 refine(Zea h k0 _ _).1 ((idt_start hl hm k0 _ _).2 ⟨?_,fun i i0 i1=> ?_⟩)
 · exact Zg fun j j0 j1=>by unfold VG;rw [if_pos Oa]
 · have:Zz (p.A i) (VG p x k0) p.n.toNat=Zz (p.A i) x p.n.toNat:=Zg fun j j0 j1=>by unfold VG;rw [if_pos Oa]
   rw [this];unfold VG;rw [if_neg Oa,show p.n+i-p.n=i by omega]
theorem Zc1{p:Lp}{u:Tb}(hp:TPrp u)(hm:0<=u.nb)(hv:u.vars=p.n)(x:Of)(k0 i:Int){y0:Of}(hg:∀k:Int,0<=k->k<u.nf->g k=u.C i (k+1))(hf:∀k:Int,0<=k->k<u.nf->u.vars<=u.F k->y0 (u.F k-u.vars)=0):
   VQ u k0 (VG p x k0) i=u.C i 0*k0+Zc (fun k=>if u.vars<=u.F k then 0 else g k*x (u.F k)) u.nf.toNat+
     (Zz (fun i=>Zz (p.A i) x p.n.toNat-p.b i*k0) (rdG u y0 g u.nf.toNat) u.nb.toNat-Zz (fun i=>Zz (p.A i) x p.n.toNat-p.b i*k0) y0 u.nb.toNat):=by
 have hn:=hp.n1
 have h1:=Zaj hp hm (y0:=y0) (g:=g) (fun i=>Zz (p.A i) x p.n.toNat-p.b i*k0) hf u.nf.toNat Oa
 rw [h1]
 unfold VQ
 have h2:Zc (fun j=>u.C i (j+1)*VG p x k0 (u.F j)) u.nf.toNat=Zc (fun k=>(if u.vars<=u.F k then 0 else g k*x (u.F k))+(if u.vars<=u.F k then g k*(Zz (p.A (u.F k-u.vars)) x p.n.toNat-p.b (u.F k-u.vars)*k0) else 0)) u.nf.toNat:=
   Zg fun j j0 j1=>by
     unfold VG
     rw [hg j j0 Oa]
     by_cases hc:u.vars<=u.F j
     · rw [if_neg Oa,if_pos hc,if_pos hc,hv];omega
     · rw [if_pos Oa,if_neg hc,if_neg hc];omega
 rw [h2,W7];omega
theorem Zi5 {p:Lp} (hl:LOk p) (hm:0<=p.m) {u:Tb} (h:Run k (Zw p) u 0):ChkS p (XW u):=by
 obtain⟨hp,hco,hlv,_⟩:=h.fin (.inl rfl)
 have hd:=h.dims
 have d1:u.nb=p.m:=by rw [hd.1];rfl
 have d2:u.nf=p.n:=by rw [hd.2.1];rfl
 have d3:u.vars=p.n:=by rw [hd.2.2.2];rfl
 have hn:=hl.n1
 have lr:=YZ u u.nb.toNat
 have zb:∀i:Int,0<=i->i<u.nb->0<=u.C (i+1) 0:=fun i i0 i1=>(TX u u.nb.toNat).1 (by have:=hlv rfl;omega) i i0 Oa
 have hg0:∀k:Int,0<=k->k<u.nf->0<=u.C 0 (k+1)/\u.C 0 (k+1)<=1073741824:=fun k k0 k1=>⟨hco (k+1) Oa Oa,(hp.cell (i:=0) Oa Oa Oa Oa).2⟩
 have hid:Idt u u.den (u.C 0 0) (bas u u.nb.toNat):=fun i i0 i1=>by
   have hz:Zc (fun j=>u.C i (j+1)*bas u u.nb.toNat (u.F j)) u.nf.toNat=0:=by
     have:Zc (fun j=>u.C i (j+1)*bas u u.nb.toNat (u.F j)) u.nf.toNat=Zc (fun _=>0) u.nf.toNat:=Zg fun j j0 j1=>by
       rw [ZcC u _ fun q q0 q1=>hp.disj q0 Oa j0 Oa];omega
     rw [this,ZE]
   unfold VQ VC
   rw [hz]
   by_cases hi:i=0
   · subst hi;rw [if_pos rfl];grind
   · rw [if_neg hi,Ziw hp u.nb.toNat Oa (i-1) Oa Oa,show i-1+1=i by omega];grind
 obtain⟨hz,hs⟩:=(idt_start hl hm _ _ _).1 ((Zea h _ _ _).2 hid)
 have hX:∀j,0<=j->j<p.n->rdX u u.nb.toNat j=bas u u.nb.toNat j:=fun j j0 j1=>Zai u Oa _
 have dX:∀f:Of,Zz f (rdX u u.nb.toNat) p.n.toNat=Zz f (bas u u.nb.toNat) p.n.toNat:=fun f=>Zg fun j j0 j1=>by rw [hX j j0 Oa]
 have hY:(XW u).Y=rdG u (fun _=>0) (fun j=>u.C 0 (j+1)) u.nf.toNat:=by show rdY u _=_;rw [ZdX]
 have bs:∀w:Of,Zz w (fun _=>0) u.nb.toNat=0:=fun w=>by
   have:Zz w (fun _=>0) u.nb.toNat=Zc (fun _=>0) u.nb.toNat:=Zg fun j _ _=>by simp
   rw [this,ZE]
 have key:∀(x:Of) (k0:Int),u.den*Zz p.c x p.n.toNat=u.C 0 0*k0+Zc (fun k=>if u.vars<=u.F k then 0 else u.C 0 (k+1)*x (u.F k)) u.nf.toNat+Zz (fun i=>Zz (p.A i) x p.n.toNat-p.b i*k0) (XW u).Y u.nb.toNat:=fun x k0=>by
   have h1:=Zec hl hm h x k0 0 Oa Oa
   rw [Zc1 hp Oa d3 x k0 0 (y0:=fun _=>0) (g:=fun j=>u.C 0 (j+1)) (fun _ _ _=>rfl) (fun _ _ _ _=>rfl),bs,<-hY] at h1
   unfold VC at h1
   rw [if_pos rfl] at h1
   omega
 refine⟨hl,hp.d1,hp.d2,hp.cell (i:=0) Oa Oa Oa Oa,d2,d1,fun j j0 j1=> ?_,fun i i0 i1=> ?_,fun i i0 i1=> ?_,fun j j0 j1=> ?_,?_,?_⟩
 · show 0<=rdX u u.nb.toNat j/\rdX u u.nb.toNat j<=_
   rw [hX j j0 j1];exact Za8 hp zb j _ Oa
 · rw [hY];exact Tf i Oa _ fun k k0 k1=>hg0 k k0 Oa
 · show p.b i*u.den<=Zz (p.A i) (rdX u u.nb.toNat) _
   rw [dX]
   have h1:=hs i i0 i1
   have h2:=(Za8 hp zb (p.n+i) u.nb.toNat Oa).1
   omega
 · have h1:=key (fun k=>if k=j then 1 else 0) 0
   have h2:0<=Zc (fun k=>if u.vars<=u.F k then 0 else u.C 0 (k+1)*(if u.F k=j then 1 else 0)) u.nf.toNat:=ZY fun k k0 k1=>by
     have:=(hg0 k k0 Oa).1
     split
     · omega
     · split<;>omega
   have h3:Zz (fun i=>Zz (p.A i) (fun k=>if k=j then 1 else 0) p.n.toNat-p.b i*0) (XW u).Y u.nb.toNat=wgt p.A (XW u).Y p.m.toNat j:=by
     rw [d1];exact Zg fun i i0 i1=>by
       show(Zz (p.A i) (fun k=>if k=j then 1 else 0) p.n.toNat-p.b i*0)*_=_
       rw [Rb _ j0 Oa];simp
   rw [Rb _ j0 Oa,h3] at h1
   show _<=p.c j*u.den
   rw [Int.mul_comm (p.c j)];omega
 · show Zz p.c (rdX u u.nb.toNat) _=u.C 0 0
   rw [dX,<-hz]
 · show Zz p.b (XW u).Y _=u.C 0 0
   have h1:=key (fun _=>0) 1
   have z1:∀f:Of,Zz f (fun _=>0) p.n.toNat=0:=fun f=>by
     have:Zz f (fun _=>0) p.n.toNat=Zc (fun _=>0) p.n.toNat:=Zg fun j _ _=>by simp
     rw [this,ZE]
   have z2:Zc (fun k=>if u.vars<=u.F k then 0 else u.C 0 (k+1)*(fun _=>(0:Int)) (u.F k)) u.nf.toNat=0:=by
     have:Zc (fun k=>if u.vars<=u.F k then 0 else u.C 0 (k+1)*(fun _=>(0:Int)) (u.F k)) u.nf.toNat=Zc (fun _=>0) u.nf.toNat:=Zg fun j _ _=>by split<;>simp
     rw [this,ZE]
   have z3:Zz (fun i=>Zz (p.A i) (fun _=>0) p.n.toNat-p.b i*1) (XW u).Y u.nb.toNat= -Zz p.b (XW u).Y p.m.toNat:=by
     have:=Xg (D:=1) (A:= -1) (B:=0) (n:=p.m.toNat) (h:=fun i=>(Zz (p.A i) (fun _=>0) p.n.toNat-p.b i*1)*(XW u).Y i) (f:=fun i=>p.b i*(XW u).Y i) (g:=fun _=>0) (fun i i0 i1=>by rw [z1];grind)
     rw [d1]
     show Zc (fun i=>(Zz (p.A i) (fun _=>0) p.n.toNat-p.b i*1)*(XW u).Y i) p.m.toNat= -Zc (fun i=>p.b i*(XW u).Y i) p.m.toNat
     omega
   rw [z1,z2,z3] at h1
   omega
theorem T9(t:Tb)(r:Int):∀K:Nat,Z9 t r K<0->∀j:Int,0<=j->j<K->t.C (r+1) (j+1)<=0
 |0,_,j,j0,j1=>Oa
 | k +1,h,j,j0,j1=>by
   unfold Z9 at h
   split at h
   · rename_i hc
     by_cases e:j=k
     · rw [e];exact hc
     · exact T9 t r k h j j0 Oa
   · split at h
     · omega
     · split at h<;>omega
structure RefS (p:Lp) (y:Of):Prop where
  rng:∀i,0<=i->i<p.m->0<=y i/\y i<=1073741824
  cols:∀j,0<=j->j<p.n->wgt p.A y p.m.toNat j<=0
  pos:0<Zz p.b y p.m.toNat
def Zah(u:Tb)(r:Int):Of:=if u.vars<=u.B r then upd (fun _=>0) (u.B r-u.vars) u.den else fun _=>0
def TL(u:Tb)(r:Int):Of:=rdG u (Zah u r) (fun j=> -u.C (r+1) (j+1)) u.nf.toNat
theorem Zi4 {p:Lp} (hl:LOk p) (hm:0<=p.m) {u:Tb} (h:Run k (Zw p) u 19):RefS p (TL u (YA u u.nb.toNat)):=by
 obtain⟨hp,hco,_,hf⟩:=h.fin (.inr rfl)
 obtain⟨hr,he⟩:=hf rfl
 have hd:=h.dims
 have d1:u.nb=p.m:=by rw [hd.1];rfl
 have d2:u.nf=p.n:=by rw [hd.2.1];rfl
 have d3:u.vars=p.n:=by rw [hd.2.2.2];rfl
 have hn:=hl.n1
 have lr:=YZ u u.nb.toNat
 have zb:=(TX u u.nb.toNat).2 hr
 have jC:=T9 u (YA u u.nb.toNat) u.nf.toNat he
 generalize YA u u.nb.toNat=r at*
 have hd1:=hp.d1;have hd2:=hp.d2
 have hg:∀k:Int,0<=k->k<u.nf->0<= -u.C (r+1) (k+1)/\ -u.C (r+1) (k+1)<=1073741824:=fun k k0 k1=>⟨by have:=jC k k0 Oa;omega,by have:=(hp.cell (i:=r+1) (j:=k+1) Oa Oa Oa Oa).1;omega⟩
 have hrB:=hp.rngB (i:=r) Oa Oa
 have hv:=hp.v
 have h0:∀i,0<=Zah u r i/\Zah u r i<=1073741824:=fun i=>by
   unfold Zah;split
   · by_cases e:i=u.B r-u.vars
     · rw [<-e,ZC];omega
     · rw [upd_ne _ _ e];exact⟨Int.le_refl 0,show(0:Int)<=1073741824 by decide⟩
   · exact⟨Int.le_refl 0,show(0:Int)<=1073741824 by decide⟩
 have hfr:∀k:Int,0<=k->k<u.nf->u.vars<=u.F k->Zah u r (u.F k-u.vars)=0:=fun k k0 k1 hk=>by
   unfold Zah;split
   · exact upd_ne _ _ (by have:=hp.disj (i:=r) (j:=k) Oa Oa k0 k1;omega)
   · rfl
 have bs:∀w:Of,Zz w (Zah u r) u.nb.toNat=if u.vars<=u.B r then u.den*w (u.B r-u.vars) else 0:=fun w=>by
   have z:Zz w (fun _=>0) u.nb.toNat=0:=by
     have:Zz w (fun _=>0) u.nb.toNat=Zc (fun _=>0) u.nb.toNat:=Zg fun j _ _=>by simp
     rw [this,ZE]
   unfold Zah;split
   · rw [Zcs _ _ Oa Oa,z];grind
   · exact z
 have key:∀(x:Of) (k0:Int),(if u.vars<=u.B r then 0 else u.den*x (u.B r))+Zc (fun k=>if u.vars<=u.F k then 0 else-u.C (r+1) (k+1)*x (u.F k)) u.nf.toNat+Zz (fun i=>Zz (p.A i) x p.n.toNat-p.b i*k0) (TL u r) u.nb.toNat=u.C (r+1) 0*k0:=fun x k0=>by
   have h1:=Zec hl hm h x k0 (r+1) Oa Oa
   have h2:=Zaj hp Oa (y0:=Zah u r) (g:=fun j=> -u.C (r+1) (j+1)) (fun i=>Zz (p.A i) x p.n.toNat-p.b i*k0) hfr u.nf.toNat Oa
   have h3:Zc (fun j=>u.C (r+1) (j+1)*VG p x k0 (u.F j)) u.nf.toNat= -(Zc (fun k=>if u.vars<=u.F k then 0 else-u.C (r+1) (k+1)*x (u.F k)) u.nf.toNat)-Zc (fun k=>if u.vars<=u.F k then-u.C (r+1) (k+1)*(Zz (p.A (u.F k-u.vars)) x p.n.toNat-p.b (u.F k-u.vars)*k0) else 0) u.nf.toNat:=by
     have:=Xg (D:=1) (A:= -1) (B:=1) (n:=u.nf.toNat) (h:=fun j=>u.C (r+1) (j+1)*VG p x k0 (u.F j)) (f:=fun k=>if u.vars<=u.F k then 0 else-u.C (r+1) (k+1)*x (u.F k)) (g:=fun k=>if u.vars<=u.F k then-u.C (r+1) (k+1)*(Zz (p.A (u.F k-u.vars)) x p.n.toNat-p.b (u.F k-u.vars)*k0) else 0) (fun j j0 j1=>by
       unfold VG
       by_cases hc:u.vars<=u.F j
       · rw [if_neg Oa,if_pos hc,if_pos hc,d3];grind
       · rw [if_pos Oa,if_neg hc,if_neg hc];grind)
     omega
   unfold TL
   rw [h2,bs]
   unfold VQ VC at h1
   rw [h3,if_neg Oa,show r+1-1=r by omega] at h1
   by_cases hc:u.vars<=u.B r
   · rw [if_pos hc,if_pos hc]
     have:VG p x k0 (u.B r)=Zz (p.A (u.B r-u.vars)) x p.n.toNat-p.b (u.B r-u.vars)*k0:=by unfold VG;rw [if_neg Oa,d3]
     rw [this] at h1;omega
   · rw [if_neg hc,if_neg hc]
     have:VG p x k0 (u.B r)=x (u.B r):=by unfold VG;rw [if_pos Oa]
     rw [this] at h1;omega
 refine⟨fun i i0 i1=>Tf i (h0 i) _ fun k k0 k1=>hg k k0 Oa,fun j j0 j1=> ?_,?_⟩
 · have h1:=key (fun k=>if k=j then 1 else 0) 0
   have h2:0<=Zc (fun k=>if u.vars<=u.F k then 0 else-u.C (r+1) (k+1)*(if u.F k=j then 1 else 0)) u.nf.toNat:=ZY fun k k0 k1=>by
     have:=(hg k k0 Oa).1
     split
     · omega
     · split<;>omega
   have h3:Zz (fun i=>Zz (p.A i) (fun k=>if k=j then 1 else 0) p.n.toNat-p.b i*0) (TL u r) u.nb.toNat=wgt p.A (TL u r) p.m.toNat j:=by
     rw [d1];exact Zg fun i i0 i1=>by
       show(Zz (p.A i) (fun k=>if k=j then 1 else 0) p.n.toNat-p.b i*0)*_=_
       rw [Rb _ j0 Oa];simp
   have h4:0<=(if u.vars<=u.B r then 0 else u.den*(if u.B r=j then 1 else 0)):=by
     split
     · omega
     · split<;>omega
   rw [h3] at h1
   omega
 · have h1:=key (fun _=>0) 1
   have z1:∀f:Of,Zz f (fun _=>0) p.n.toNat=0:=fun f=>by
     have:Zz f (fun _=>0) p.n.toNat=Zc (fun _=>0) p.n.toNat:=Zg fun j _ _=>by simp
     rw [this,ZE]
   have z2:Zc (fun k=>if u.vars<=u.F k then 0 else-u.C (r+1) (k+1)*(fun _=>(0:Int)) (u.F k)) u.nf.toNat=0:=by
     have:Zc (fun k=>if u.vars<=u.F k then 0 else-u.C (r+1) (k+1)*(fun _=>(0:Int)) (u.F k)) u.nf.toNat=Zc (fun _=>0) u.nf.toNat:=Zg fun j _ _=>by split<;>simp
     rw [this,ZE]
   have z3:Zz (fun i=>Zz (p.A i) (fun _=>0) p.n.toNat-p.b i*1) (TL u r) u.nb.toNat= -Zz p.b (TL u r) p.m.toNat:=by
     have:=Xg (D:=1) (A:= -1) (B:=0) (n:=p.m.toNat) (h:=fun i=>(Zz (p.A i) (fun _=>0) p.n.toNat-p.b i*1)*(TL u r) i) (f:=fun i=>p.b i*(TL u r) i) (g:=fun _=>0) (fun i i0 i1=>by rw [z1];grind)
     rw [d1]
     show Zc (fun i=>(Zz (p.A i) (fun _=>0) p.n.toNat-p.b i*1)*(TL u r) i) p.m.toNat= -Zc (fun i=>p.b i*(TL u r) i) p.m.toNat
     omega
   have z4:(if u.vars<=u.B r then 0 else u.den*(fun _=>(0:Int)) (u.B r))=0:=by split<;>simp
   rw [z2,z3,z4] at h1
   omega
theorem SolveR.chk{p:Lp}(hm:0<=p.m){s:So}(h:SolveR p s e)(he:e=0):ChkS p s:=by
 rcases h with⟨_,_,h⟩|⟨hl,u,hr,⟨h,_⟩|⟨_,rfl⟩⟩
 · omega
 · exact absurd he h
 · subst he;exact Zi5 hl hm hr
theorem SolveR.none{p:Lp}(hm:0<=p.m){s:So}(h:SolveR p s e)(he:e=19):∃y,RefS p y:=by
 rcases h with⟨_,_,h⟩|⟨hl,u,hr,_⟩
 · omega
 · subst he;exact⟨_,Zi4 hl hm hr⟩
theorem ZpV{A:Og}{x y b c:Of}{n m:Nat}(hx:∀j:Int,0<=j->j<n->0<=x j)(hy:∀i:Int,0<=i->i<m->0<=y i)
   (hc:∀j:Int,0<=j->j<n->wgt A y m j<=c j) (hb:∀i:Int,0<=i->i<m->b i<=Zz (A i) x n):Zz b y m<=Zz c x n:=by
 have h1:Zz b y m<=Zc (fun i=>Zz (A i) x n*y i) m:=Z1 fun i i0 i1=>Int.mul_le_mul_of_nonneg_right (hb i i0 i1) (hy i i0 i1)
 have h2:Zc (fun i=>Zz (A i) x n*y i) m=Zc (fun j=>wgt A y m j*x j) n:=by
   have e1:Zc (fun i=>Zz (A i) x n*y i) m=Zc (fun i=>Zc (fun j=>A i j*x j*y i) n) m:=Zg fun i _ _=>(Ye _ _ _).symm
   have e2:Zc (fun j=>wgt A y m j*x j) n=Zc (fun j=>Zc (fun i=>A i j*x j*y i) m) n:=Zg fun j _ _=>by
     have:=Ye (fun i=>A i j*y i) (x j) m
     unfold wgt
     rw [<-this]
     exact Zg fun i _ _=>by grind
   rw [e1,e2]
   exact(Wr (fun i k=>A k i*x i*y k) n m)
 have h3:Zc (fun j=>wgt A y m j*x j) n<=Zz c x n:=Z1 fun j j0 j1=>Int.mul_le_mul_of_nonneg_right (hc j j0 j1) (hx j j0 j1)
 omega
theorem Zdp(f g:Of)(a:Int)(n:Nat):Zz (fun k=>f k*a) g n=Zz f g n*a:=by
 unfold Zz
 rw [<-Ye]
 exact Zg fun i _ _=>by grind
theorem Zgf{p:Lp}{y:Of}(hr:RefS p y)(hn:0<=p.n)(hm:0<=p.m){x:Of}{a:Int}(ha:0<=a)(hx:∀j,0<=j->j<p.n->0<=x j)(hb:∀i,0<=i->i<p.m->p.b i*a<=Zz (p.A i) x p.n.toNat):a=0:=by
 have h:=ZpV (A:=p.A) (x:=x) (y:=y) (b:=fun i=>p.b i*a) (c:=fun _=>0) (n:=p.n.toNat) (m:=p.m.toNat) (fun j j0 j1=>hx j j0 Oa) (fun i i0 i1=>(hr.rng i i0 Oa).1)
   (fun j j0 j1=>hr.cols j j0 Oa) (fun i i0 i1=>hb i i0 Oa)
 have z:Zz (fun _=>0) x p.n.toNat=0:=by
   have:Zz (fun _=>0) x p.n.toNat=Zc (fun _=>0) p.n.toNat:=Zg fun j _ _=>by simp
   rw [this,ZE]
 rw [Zdp,z] at h
 have hp:=hr.pos
 rcases Int.lt_or_eq_of_le ha with h1|h1
 · have:=Int.mul_pos hp h1;omega
 · exact h1.symm
end Go.Proofs.Gw
namespace Go.Proofs.YtpnamgfdakfccaaGreat
open Go.Shelf
noncomputable abbrev Om:=Tryz.prog
def Zb6:Go.Shelf.Ren:=⟨fun|189=>293|125=>108|257=>314|128=>194|129=>195|294=>326|295=>327|296=>328|297=>329|298=>330|299=>331|216=>332|300=>333|301=>334|328=>339|329=>255|330=>256|331=>340|332=>341|215=>253|343=>343|n=>n,fun|28=>22|3=>3|46=>192|0=>0|51=>272|53=>274|4=>4|183=>265|182=>264|131=>269|5=>5|9=>9|218=>318|222=>322|228=>353|229=>354|n=>n,fun|n=>n⟩
theorem Zd7:Go.Proofs.Lays.n189 Om Zb6:={
 mixed:=Gw.Oc
 f125:=Tryz.func108.trans (congrArg some (by kernel_rfl))
 f128:=Tryz.func194.trans (congrArg some (by kernel_rfl))
 f129:=Tryz.func195.trans (congrArg some (by kernel_rfl))
 f189:=Tryz.func293.trans (congrArg some (by kernel_rfl))
 f215:=Tryz.func253.trans (congrArg some (by kernel_rfl))
 f216:=Tryz.func332.trans (congrArg some (by kernel_rfl))
 f257:=Tryz.func314.trans (congrArg some (by kernel_rfl))
 f294:=Tryz.func326.trans (congrArg some (by kernel_rfl))
 f295:=Tryz.func327.trans (congrArg some (by kernel_rfl))
 f296:=Tryz.func328.trans (congrArg some (by kernel_rfl))
 f297:=Tryz.func329.trans (congrArg some (by kernel_rfl))
 f298:=Tryz.func330.trans (congrArg some (by kernel_rfl))
 f299:=Tryz.func331.trans (congrArg some (by kernel_rfl))
 f300:=Tryz.func333.trans (congrArg some (by kernel_rfl))
 f301:=Tryz.func334.trans (congrArg some (by kernel_rfl))
 f328:=Tryz.func339.trans (congrArg some (by kernel_rfl))
 f329:=Tryz.func255.trans (congrArg some (by kernel_rfl))
 f330:=Tryz.func256.trans (congrArg some (by kernel_rfl))
 f331:=Tryz.func340.trans (congrArg some (by kernel_rfl))
 f332:=Tryz.func341.trans (congrArg some (by kernel_rfl))
 f343:=Tryz.func343.trans (congrArg some (by kernel_rfl))
 t0:=Tryz.underlying0
 a0:=Tryz.isAgg0
 z0:=Tryz.sizeOf0
 v0:=Tryz.zeroValue0
 t3:=Tryz.underlying3
 a3:=Tryz.isAgg3
 z3:=Tryz.sizeOf3
 v3:=Tryz.zeroValue3
 t4:=Tryz.underlying4
 a4:=Tryz.isAgg4
 z4:=Tryz.sizeOf4
 v4:=Tryz.zeroValue4
 t5:=Tryz.underlying5
 a5:=Tryz.isAgg5
 z5:=Tryz.sizeOf5
 v5:=Tryz.zeroValue5
 t9:=Tryz.underlying9
 a9:=Tryz.isAgg9
 z9:=Tryz.sizeOf9
 v9:=Tryz.zeroValue9
 t28:=Tryz.underlying22
 a28:=Tryz.isAgg22
 z28:=Tryz.sizeOf22
 v28:=Tryz.zeroValue22
 t46:=Tryz.underlying192
 a46:=Tryz.isAgg192
 z46:=Tryz.sizeOf192
 v46:=Tryz.zeroValue192
 t51:=Tryz.underlying272
 a51:=Tryz.isAgg272
 z51:=Tryz.sizeOf272
 v51:=Tryz.zeroValue272
 t53:=Tryz.underlying274
 a53:=Tryz.isAgg274
 z53:=Tryz.sizeOf274
 v53:=Tryz.zeroValue274
 t131:=Tryz.underlying269
 a131:=Tryz.isAgg269
 z131:=Tryz.sizeOf269
 v131:=Tryz.zeroValue269
 t182:=Tryz.underlying264
 a182:=Tryz.isAgg264
 z182:=Tryz.sizeOf264
 v182:=Tryz.zeroValue264
 t183:=Tryz.underlying265
 a183:=Tryz.isAgg265
 z183:=Tryz.sizeOf265
 v183:=Tryz.zeroValue265
 t218:=Tryz.underlying318
 a218:=Tryz.isAgg318
 z218:=Tryz.sizeOf318
 v218:=Tryz.zeroValue318
 t222:=Tryz.underlying322
 a222:=Tryz.isAgg322
 z222:=Tryz.sizeOf322
 v222:=Tryz.zeroValue322
 t228:=Tryz.underlying353
 a228:=Tryz.isAgg353
 z228:=Tryz.sizeOf353
 v228:=Tryz.zeroValue353
 t229:=Tryz.underlying354
 a229:=Tryz.isAgg354
 z229:=Tryz.sizeOf354
 v229:=Tryz.zeroValue354}
open Go.Sort Go.RowKit in
theorem slices_Sort_int(blk off cap:Nat)(zs:List Int)(w:World)(hH:Holds (Value.int .i64) w blk off zs.toArray)(jH:blk<w.heap.size)(hsz:zs.length<4611686018427387904):
 Calls Om 293 #[.slice (some ⟨blk,off,none⟩) zs.length cap] w fun e w'=>
   e= .returned (.tuple #[])/\∃n os,w'=grow (putRow (Value.int .i64) (Sort.ahead w n) blk off (zs.mergeSort fun x y=>decide (x<=y)).toArray) os:=Any.slices_Sort_int Zd7 blk off cap zs w hH jH hsz
def Zb5:Go.Shelf.Ren:=⟨fun|212=>231|263=>284|264=>285|n=>n,fun|46=>192|51=>272|146=>341|53=>274|148=>343|n=>n,fun|n=>n⟩
theorem Zjy:Go.Proofs.Lays.n212 Om Zb5:={
 mixed:=Gw.Oc
 f212:=Tryz.func231.trans (congrArg some (by kernel_rfl))
 f263:=Tryz.func284.trans (congrArg some (by kernel_rfl))
 f264:=Tryz.func285.trans (congrArg some (by kernel_rfl))
 t46:=Tryz.underlying192
 a46:=Tryz.isAgg192
 z46:=Tryz.sizeOf192
 v46:=Tryz.zeroValue192
 t51:=Tryz.underlying272
 a51:=Tryz.isAgg272
 z51:=Tryz.sizeOf272
 v51:=Tryz.zeroValue272
 t53:=Tryz.underlying274
 a53:=Tryz.isAgg274
 z53:=Tryz.sizeOf274
 v53:=Tryz.zeroValue274
 t146:=Tryz.underlying341
 a146:=Tryz.isAgg341
 z146:=Tryz.sizeOf341
 v146:=Tryz.zeroValue341
 t148:=Tryz.underlying343
 a148:=Tryz.isAgg343
 z148:=Tryz.sizeOf343
 v148:=Tryz.zeroValue343}
open Go.RowKit Go.Lib in
theorem Tryz.bits_Mul(x y:Nat)(hx:x<18446744073709551616)(hy:y<18446744073709551616)(w:World):
 Calls Om 231 #[.int .u64 x,.int .u64 y] w fun e w'=>e= .returned (.tuple #[.int .u64 ((x*y/18446744073709551616:Nat):Int),.int .u64 ((x*y%18446744073709551616:Nat):Int)])/\w'=w:=Any.bits_Mul Zjy x y hx hy w
def Rz:Go.Shelf.Ren:=⟨fun|15=>66|n=>n,fun|22=>22|3=>3|4=>4|n=>n,fun|n=>n⟩
theorem UB:Go.Proofs.Lays2.n15 Om Rz:={
 mixed:=Gw.Oc
 f15:=Tryz.func66.trans (congrArg some (by kernel_rfl))
 t3:=Tryz.underlying3
 a3:=Tryz.isAgg3
 z3:=Tryz.sizeOf3
 v3:=Tryz.zeroValue3
 t4:=Tryz.underlying4
 a4:=Tryz.isAgg4
 z4:=Tryz.sizeOf4
 v4:=Tryz.zeroValue4
 t22:=Tryz.underlying22
 a22:=Tryz.isAgg22
 z22:=Tryz.sizeOf22
 v22:=Tryz.zeroValue22
 i3:=by kernel_rfl}
open Go.RowKit Go.Lib in
theorem slices_Clone_int(b off n c:Nat)(zs:List Int)(w:World)(hz:n<=zs.length)(dM:n*8<=140737488355328)(hc:∀j,j<zs.length->w.cell? ⟨b,off+j,none⟩=some (.int Gw.Oi (zs.getD j 0))):
 Calls Om 66 #[.slice (some ⟨b,off,none⟩) n c] w fun e w'=>∃v',e= .returned v'/\w'.ownsRow w.heap.size 3 1 v' n ((zs.take n).map (Value.int .i64))/\v'≠ Gw.Oh/\Below w.heap.size w w':=Any.slices_Clone_int UB b off n c zs w hz dM hc
open Go.RowKit Go.Lib in
theorem slices_Clone_int_nil(n c:Nat)(w:World):
 Calls Om 66 #[.slice none n c] w fun e w'=>e= .returned Gw.Oh/\w'=w:=Any.slices_Clone_int_nil UB n c w
open Go.RowKit Go.Lib in
theorem slices_Clone_int_zero(a:Addr)(c:Nat)(w:World):
 Calls Om 66 #[.slice (some a) 0 c] w fun e w'=>∃v',e= .returned v'/\w'.ownsRow w.heap.size 3 1 v' 0 []/\v'≠ Gw.Oh/\Below w.heap.size w w':=Any.slices_Clone_int_zero UB a c w
open Go.RowKit Go.Sort in
theorem slices_Sort_int_none(p:Option Addr)(cap:Nat)(w:World):
 Calls Om 293 #[.slice p 0 cap] w fun e w'=>e= .returned (.tuple #[])/\w'=w:=Any.slices_Sort_int_none Zd7 p cap w
def VE:Go.Shelf.Ren:=⟨fun|41=>86|n=>n,fun|22=>52|23=>22|4=>4|n=>n,fun|n=>n⟩
theorem WT:Go.Proofs.SlLaysE0.n41 Om VE:={
 mixed:=Gw.Oc
 f41:=⟨Tryz.f86.name,by decide,Tryz.func86.trans (congrArg some (by kernel_rfl))⟩
 t4:=Tryz.underlying4
 a4:=Tryz.isAgg4
 z4:=Tryz.sizeOf4
 v4:=Tryz.zeroValue4
 t22:=Tryz.underlying52
 a22:=Tryz.isAgg52
 z22:=Tryz.sizeOf52
 v22:=Tryz.zeroValue52}
open Go.RowKit Go.Lib in
theorem Uq(i0:TypeInfo)(z:Value)(size bytes:Nat)(hi:Tryz.prog.info? 22=some i0)(hz0:i0.zero=some z)(hz1:i0.size=size)(hz2:i0.bytes=bytes)(hzs:z.cells.size=size)(hsz:0<size)(z23:∀w,(Go.sizeOf 22).run Om w= .ok size w)(b off n c:Nat)(news:List Value)(w:World)(hl:news.length=n*size)(hn:n<=maxLen)(dM:n*bytes<=140737488355328)(hc:∀j u,news[j]? =some u->w.cell? ⟨b,off+j,none⟩=some u)(h1:∀u∈news,u.oneCell'=true):
 Calls Om 86 #[.slice (some ⟨b,off,none⟩) n c] w fun e w'=>∃v',e= .returned v'/\w'.ownsRow w.heap.size 22 size v' n news/\v'≠ Gw.Oh/\Below w.heap.size w w':=AnyE.slices_Clone WT i0 z size bytes hi hz0 hz1 hz2 hzs hsz z23 b off n c news w hl hn dM hc h1
open Go.RowKit Go.Lib in
theorem WP(n c:Nat)(w:World):
 Calls Om 86 #[.slice none n c] w fun e w'=>e= .returned Gw.Oh/\w'=w:=AnyE.slices_Clone_nil WT n c w
end Go.Proofs.YtpnamgfdakfccaaGreat
