import Derived.WalkKit
import Derived.WalkLawsBesides
import Derived.OrdersHeld
import Derived.StillTail
import Derived.Deep.RegionHeld3
import Derived.Sort.OwnSortedInts
import Derived.Shelf.Slices.CompactI
import Derived.Laws.CopyRow
import Derived.Laws.IdiomCopy
import Derived.Shelf.Small.Bits
import Derived.Shelf.Strconv.Itoa0
import Derived.Shelf.Sort.Plain
import Derived.Shelf.Bits.Mul64
import Derived.Ground.Names2Prog
import Derived.Shelf.Slices.Clone
import Derived.Shelf.Slices.SearchI
import Derived.Shelf.Slices.In.SortNone
import Derived.Ground.SlgnProg
import Derived.Shelf.SlicesE.Clone
import Derived.Test.YtkichmnjjblodaaGreatProg
import Derived.RangeFuncBox
import Derived.RangeFuncLeaves
import Derived.Shelf.Abstract
import Derived.OwnWalkIn
import Derived.TacticsInMore
import Derived.LoopNIn
import Derived.LoopIn
import Derived.Maps.AppendAt
set_option linter.unusedVariables false
set_option linter.unusedSimpArgs false
set_option maxRecDepth 20000
set_option maxHeartbeats 4000000
namespace Go.Proofs.Gw
open Go Go.RowKit
theorem Oa{p:Prop}(h:p:=by omega):p:=h
theorem Ob{p:Prop}(h:p:=by kernel_rfl):p:=h
theorem Oc{p:Prop}(h:¬¬p):p:=Classical.not_not.1 h
theorem Od{p:Prop}(h:p:=by first|assumption|exact Classical.not_not.1 ‹_›):p:=h
abbrev Oe:=Int->Int
abbrev Of:=Int->Int->Int
abbrev Og:Value:=.slice none 0 0
abbrev Oh:=IntKind.i64
abbrev Oq(a:Nat):Value:=.pointer (some ⟨a,0,none⟩)
def I64(n:Int):Prop:= -9223372036854775808<=n/\n<=9223372036854775807
theorem I64.wrap{n:Int}(h:I64 n):IntKind.i64.wrap n=n:=by
 obtain⟨h1,D⟩:=h
 rw [IntKind.wrap_i64];omega
noncomputable def B(p:Prop):Value:= .bool (@decide p (Classical.propDecidable p))
theorem Kz(p:Prop) [Decidable p]:Value.bool (decide p)=B p:=by
 unfold B;congr
theorem ZP{p:Prop}(h:p):B p= .bool true:=by simp [B,h]
theorem B_false{p:Prop}(h:¬p):B p= .bool false:=by simp [B,h]
theorem Zn{p q:Prop}(h:p↔q):B p=B q:=by rw [propext h]
theorem ZT{p:Prop}(h:p):Value.bool true=B p:=(ZP h).symm
theorem false_B{p:Prop}(h:¬p):Value.bool false=B p:=(B_false h).symm
theorem Zfc{a b:Nat}(h:a≠b):Nat.beq a b=false:=by
 cases D:Nat.beq a b with
 |false=>rfl
 |true=>exact absurd (Nat.eq_of_beq_eq_true D) h
def lk:List (Nat×Value)->Nat->Option Value
  | [],_=>none
  |(k,v)::r,t=>bif Nat.beq k t then some v else lk r t
def evL(L:List (Nat×Value)):Operand->Option Value
  | .tmp t=>lk L t
  | .const v=>some v
  | .global g=>some (Oq g)
  | .func f=>some (.func (.func f) #[] #[])
structure Fr (a:Act) (n:Nat) (ds:List Deferred) (L:List (Nat×Value)):Prop where
  size:a.tmps.size=n
  defers:a.defers=ds
  get:∀t v,lk L t=some v->a.tmps.getD t undef=v
def Agr(L:List (Nat×Value))(ρ:Operand->Value):Prop:=∀x v,evL L x=some v->ρ x=v
theorem Fr.iu{a:Act}{n:Nat}{ds:List Deferred}{L:List (Nat×Value)}(h:Fr a n ds L):Agr L a.eval:=fun x v D=>by
 cases x with
 |tmp t=>exact h.get t v D
 |const u=>exact Option.some.inj D
 |global g=>exact Option.some.inj D
 |func f=>exact Option.some.inj D
theorem Fr.put{a:Act}{n:Nat}{ds:List Deferred}{L:List (Nat×Value)}(h:Fr a n ds L){d:Nat}(hd:d<n)(v:Value):Fr (a.put (some d) v) n ds ((d,v)::L):=by
 refine⟨by simp [Act.put,h.size],by simp [Act.put,h.defers],fun t u D=> ?_⟩
 simp only [lk] at D
 by_cases e:d=t
 · subst e
   rw [Nat.beq_refl] at D
   simp only [cond_true,Option.some.injEq] at D
   subst D
   simp [Act.put,Array.getD,h.size,hd]
 · have:Nat.beq d t=false:=Zfc e
   rw [this] at D
   simp only [cond_false] at D
   have:=h.get t u D
   rw [<-this]
   simp only [Act.put,Array.getD_eq_getD_getElem?,Array.getElem?_setIfInBounds]
   rw [if_neg e]
theorem Fr.known{a:Act}{n:Nat}{ds:List Deferred}{L:List (Nat×Value)}(h:Fr a n ds L){d:Nat}{p:Prop}(hd:lk L d=some (B p)){t:Bool}(F:B p= .bool t):Fr a n ds ((d,.bool t)::L):=by
 refine⟨h.size,h.defers,fun x u D=> ?_⟩
 simp only [lk] at D
 by_cases e:d=x
 · subst e
   rw [Nat.beq_refl] at D
   simp only [cond_true,Option.some.injEq] at D
   subst D
   rw [<-F]
   exact h.get d _ hd
 · have:Nat.beq d x=false:=Zfc e
   rw [this] at D
   exact h.get x u D
theorem Fr.as{a:Act}{n:Nat}{ds:List Deferred}{L:List (Nat×Value)}(h:Fr a n ds L){d:Nat}{v:Value}(hd:lk L d=some v){u:Value}(e:v=u):Fr a n ds ((d,u)::L):=by
 subst e
 refine⟨h.size,h.defers,fun x u D=> ?_⟩
 simp only [lk] at D
 by_cases e:d=x
 · subst e
   rw [Nat.beq_refl] at D
   simp only [cond_true,Option.some.injEq] at D
   subst D
   exact h.get d _ hd
 · have:Nat.beq d x=false:=Zfc e
   rw [this] at D
   exact h.get x u D
theorem Fr.enter{vs:Array Value}{n:Nat}(hn:vs.size<=n){L:List (Nat×Value)}(F:∀t v,lk L t=some v->vs[t]? =some v):
   Fr {tmps:=vs++Array.replicate (n-vs.size) undef,defers:= []} n [] L:=by
 refine⟨by simp;omega,rfl,fun t v D=> ?_⟩
 have:=F t v D
 have hlt:t<vs.size:=(Array.getElem?_eq_some_iff.1 this).1
 simp only [Array.getD_eq_getD_getElem?,Array.getElem?_append,hlt,if_true,this,Option.getD_some]
section
variable {P:Program} {l:List Oper} {Q:Exit->Act->World->Prop} {a:Act} {w:World} {rest:List Oper} {o:Oper} {n:Nat} {ds:List Deferred} {L:List (Nat×Value)}
def Want (l:List Oper) (L:List (Nat×Value)) (o:Oper) (b:Bool):Prop:=
  (o.guard=none/\b=true)\/(∃j p oj dj t,o.guard=some (j,p)/\l[j]? =some oj/\oj.dst=some dj/\lk L dj=some (.bool t)/\(t==p)=b)\/
    ∃j p oj dj,o.guard=some (j,p)/\l[j]? =some oj/\oj.dst=some dj/\lk L dj=some undef/\b=false
theorem Want.off{j F:Nat}{p:Bool}{D:Oper}(h1:o.guard=some (j,p))(J:l[j]? =some D)(I:D.dst=some F)(G:lk L F=some undef):Want l L o false:= .inr (.inr ⟨j,p,D,F,h1,J,I,G,rfl⟩)
theorem Want.on{j F:Nat}{p t b:Bool}{D:Oper}(h1:o.guard=some (j,p))(O:l[j]? =some D)(J:D.dst=some F)(I:lk L F=some (.bool t))(G:(t==p)=b):Want l L o b:= .inr (.inl ⟨j,p,D,F,t,h1,O,J,I,G⟩)
theorem Want.free(h:o.guard=none):Want l L o true:= .inl ⟨h,rfl⟩
theorem Want.wanted{b:Bool}(G:Fr a n ds L)(h:Want l L o b):Region.wanted o (yielded l.toArray a.tmps)=b:=by
 rcases h with⟨h,rfl⟩|⟨j,p,oj,dj,t,h1,h2,h3,h4,h5⟩|⟨j,p,oj,dj,h1,h2,h3,h4,rfl⟩
 · simp [Region.wanted,h]
 · have D:=G.get dj _ h4
   have I:a.tmps[dj]? =some (.bool t):=by
     rw [Array.getD_eq_getD_getElem?] at D
     cases F:a.tmps[dj]? with
     |none=>rw [F] at D;simp [undef] at D
     |some u=>rw [F] at D;simp at D;rw [D]
   simp only [Region.wanted,h1,yielded,List.getElem?_toArray,h2,Option.bind_some,h3,I,<-h5]
   cases t<;>cases p<;>rfl
 · have D:=G.get dj _ h4
   rw [Array.getD_eq_getD_getElem?] at D
   simp only [Region.wanted,h1,yielded,List.getElem?_toArray,h2,Option.bind_some,h3]
   cases F:a.tmps[dj]? with
   |none=>simp
   |some u=>rw [F] at D;simp at D;subst D;simp [undef]
def Runs(P:Program)(L:List (Nat×Value))(w:World)(o:Oper)(r:Next)(w':World):Prop:=∀ρ,Agr L ρ->(execOp ρ o).run P w= .ok r w'
theorem Zfh{d:Nat}{v:Value}{w':World}(F:Fr a n ds L)(I:Want l L o true)(hd:o.dst=some d)(D:Nat.blt d n=true)(hr:Runs P L w o (.value v) w')
   (K:∀G,Fr G n ds ((d,v)::L)->wpList P l.toArray Q rest G w'):wpList P l.toArray Q (o::rest) a w:=by
 unfold wpList
 rw [if_pos (I.wanted F)]
 refine .inl ?_
 unfold Oper.wp
 rw [hr _ F.iu,Oper.upon_value,hd]
 exact K _ (F.put (by simpa [Nat.blt_eq] using D) v)
theorem Zj7{w':World}(D:Fr a n ds L)(F:Want l L o true)(hd:o.dst=none)(hr:Runs P L w o .skip w')
   (K:wpList P l.toArray Q rest a w'):wpList P l.toArray Q (o::rest) a w:=by
 unfold wpList
 rw [if_pos (F.wanted D)]
 refine .inl ?_
 unfold Oper.wp
 rw [hr _ D.iu,Oper.upon_skip,hd]
 exact K
theorem Zj6{d:Nat}(F:Fr a n ds L)(I:Want l L o false)(hd:o.dst=some d)(D:Nat.blt d n=true)
   (K:∀G,Fr G n ds ((d,undef)::L)->wpList P l.toArray Q rest G w):wpList P l.toArray Q (o::rest) a w:=by
 unfold wpList
 rw [if_neg (by rw [I.wanted F];simp),hd]
 exact K _ (F.put (by simpa [Nat.blt_eq] using D) undef)
theorem Zh5{d:Nat}{f:FuncId}{args:Array Value}{R:Value->World->Prop}(F:Fr a n ds L)(I:Want l L o true)(hd:o.dst=some d)(D:Nat.blt d n=true)(hr:Runs P L w o (.enter f args) w)
   (hc:Calls P f args w fun e w'=>∃v,e= .returned v/\R v w')
   (K:∀v w',R v w'->∀G,Fr G n ds ((d,v)::L)->wpList P l.toArray Q rest G w'):wpList P l.toArray Q (o::rest) a w:=by
 unfold wpList
 rw [if_pos (I.wanted F)]
 refine .inl ?_
 unfold Oper.wp
 rw [hr _ F.iu,Oper.upon_enter]
 refine hc.mono fun e w' ⟨v,he,hR⟩=> ?_
 subst he
 rw [hd]
 exact K v w' hR _ (F.put (by simpa [Nat.blt_eq] using D) v)
end
section
variable {P:Program} {Q:Exit->Act->World->Prop} {a:Act} {w:World} {n:Nat} {ds:List Deferred} {L:List (Nat×Value)} {x y:Code} {c:Operand}
theorem Znu{p:Prop}(F:Fr a n ds L)(hc:evL L c=some (B p))(D:p->x.wp P Q a w)(hf:¬p->y.wp P Q a w):(Code.cond c x y).wp P Q a w:=by
 have:=F.iu _ _ hc
 by_cases hp:p
 · exact wp_cond_true (by rw [this,ZP hp]) (D hp)
 · exact wp_cond_false (by rw [this,B_false hp]) (hf hp)
theorem ZoC(F:Fr a n ds L)(hc:evL L c=some (.bool true))(D:x.wp P Q a w):(Code.cond c x y).wp P Q a w:=wp_cond_true (F.iu _ _ hc) D
theorem ZoD(F:Fr a n ds L)(hc:evL L c=some (.bool false))(D:y.wp P Q a w):(Code.cond c x y).wp P Q a w:=wp_cond_false (F.iu _ _ hc) D
theorem Ziy {D:Code} (I:Nat->Act->World->Prop) {m:Nat} (h0:I m a w)
   (V:∀m a w,I m a w->D.wp P (Exit.then (fun Y w'=>∃m',m'<m/\I m' Y w') Q) a w):(Code.loop D).wp P Q a w:=by
 intro b k cs
 have aa:∀m a w,I m a w->
     ∃e Y w',Q e Y w'/\Arrives P (lone (b.at a (.code D:: .inLoop D::k)) cs w) b k cs e Y w':=by
   intro m
   induction m using Nat.strongRecOn with
   | _ m ih=>
     intro a w hI
     obtain⟨e,G,F,U,O⟩:=V m a w hI b (.inLoop D::k) cs
     cases e with
     | normal=>
       obtain⟨m',hlt,X⟩:=U
       obtain⟨e₂,a₂,Z,W,J⟩:=ih m' hlt G F X
       exact⟨e₂,a₂,Z,W,.of_steps (Steps.trans O (.one step_inLoop)) J⟩
     |exit id=>exact⟨_,G,F,U,.pass (x:= .inLoop D) rfl (fun _ _=> .inl (by simp)) O⟩
     |goto l=>exact⟨_,G,F,U,.pass (x:= .inLoop D) rfl (fun _ _=> .inl (by simp)) O⟩
     |ret=>exact⟨_,G,F,U,.pass (x:= .inLoop D) rfl (fun _ _=> .inl (by simp)) O⟩
     |panic ch=>exact⟨_,G,F,U,.pass (x:= .inLoop D) rfl (fun _ _=> .inl (by simp)) O⟩
     |outgrown=>exact⟨_,G,F,U,.pass (x:= .inLoop D) rfl (fun _ _=> .inl (by simp)) O⟩
 obtain⟨e,Y,w',U,O⟩:=aa m a w h0
 exact⟨e,Y,w',U,.of_steps (.one step_loop) O⟩
theorem ZkI{x:Code}{Q':Exit->Act->World->Prop}(J:Act->World->Prop)(h:x.wp P (Exit.then J (fun e a w=>e≠ .normal/\Q' e a w)) a w)(k:∀a w,J a w->Q' .normal a w):x.wp P Q' a w:=
 wp_mono h fun e a w q=>by cases e<;>first|exact k _ _ q|exact q.2
theorem ZoA{fn:Func}{R:Ending->World->Prop}{t:Nat}{v:Value}(D:Fr a n [] L)(hr:fn.results= #[.tmp t])(hv:lk L t=some v)(h:R (.returned v) w):bodyPost P fn R .ret a w:=
 ⟨D.defers,v,by rw [results_tmp hr,D.get t v hv],h⟩
theorem Zoz{fn:Func}{R:Ending->World->Prop}{t u:Nat}{v x:Value}(D:Fr a n [] L)(hr:fn.results= #[.tmp t,.tmp u])(hv:lk L t=some v)(F:lk L u=some x)(h:R (.returned (.tuple #[v,x])) w):bodyPost P fn R .ret a w:=
 ⟨D.defers,_,by rw [results_tmp2 hr,D.get t v hv,D.get u x F],h⟩
theorem ZbB{f:FuncId}{fn:Func}{c:Code}{args:Array Value}{R:Ending->World->Prop}(hf:P.funcs[f]? =some fn)(D:fn.body=some c)(hn:fn.ntmps=n)
   (F:Fr {tmps:=args++Array.replicate (n-args.size) undef,defers:= []} n [] L)
   (h:∀a,Fr a n [] L->c.wp P (bodyPost P fn R) a w):Calls P f args w R:=
 calls_of_wp hf D (by rw [hn];exact h _ F)
end
end Go.Proofs.Gw
namespace Go.Proofs.Gw
open Go Go.RowKit
variable {c:Int->Value} {cs:List Value} {g:Nat} {v:Value} {w w' w0:World}
def Slh(v:Value)(n:Int):Prop:=0<=n/\n<=140737488355328/\∃a cap,v= .slice a n.toNat cap/\(n=0\/∃b off,a=some ⟨b,off,none⟩)
def cad(v:Value)(k:Int):Addr:=match v with
  | .slice (some a) _ _=>⟨a.block,a.off+k.toNat,none⟩
  |_=>⟨0,0,none⟩
def Row(w:World)(v:Value)(s:Nat)(n:Int)(c:Int->Value):Prop:=
  Slh v n/\∀k:Nat,(k:Int)<n*s->w.cell? (cad v k)=some (c k)
theorem Row.cf{s:Nat}{n:Int}(h:Row w v s n c):Slh v n:=h.1
theorem Row.cell{w:World}{v:Value}{s:Nat}{n:Int}{c:Int->Value}(h:Row w v s n c){k:Int}(D:0<=k)(h1:k<n*s):w.cell? (cad v k)=some (c k):=by
 obtain⟨j,rfl⟩:=Int.eq_ofNat_of_zero_le D
 exact h.2 j h1
theorem Row.below{s:Nat}{n:Int}(h:Row w v s n c)(F:Below w.heap.size w w'):Row w' v s n c:=
 ⟨h.1,fun k D=>by
   have:=h.2 k D
   rw [F.cell (World.block_lt_of_cell? w _ this)];exact this⟩
theorem Row.congr{s:Nat}{n:Int}{d:Int->Value}(h:Row w v s n c)(e:∀k,0<=k->k<n*s->c k=d k):Row w v s n d:=
 ⟨h.1,fun k D=>by rw [h.2 k D,e k Oa D]⟩
theorem Slh.n0{n:Int}(h:Slh v n):0<=n:=h.1
theorem Slh.n1{n:Int}(h:Slh v n):n<=140737488355328:=h.2.1
def ints(f:Oe):Int->Value:=fun k=> .int Oh (f k)
def upd{α:Type}(f:Int->α)(k:Int)(x:α):Int->α:=fun j=>if j=k then x else f j
def cat{α:Type}(n:Int)(f g:Int->α):Int->α:=fun j=>if j<n then f j else g (j-n)
theorem Zy(f:Oe)(k x:Int):upd (ints f) k (.int Oh x)=ints (upd f k x):=by
 funext j;simp only [upd,ints];split<;>rfl
theorem Zgs(n:Int)(f g:Oe):cat n (ints f) (ints g)=ints (cat n f g):=by
 funext j;simp only [cat,ints];split<;>rfl
structure Frame where
  holds:World->Prop
  has:Nat->Prop
  keep:∀{w w':World},holds w->(∀g,has g->w'.heap[g]? =w.heap[g]?)->holds w'
  lt:∀{w:World} {g:Nat},holds w->has g->g<w.heap.size
inductive Ent where
  |blk (g:Nat) (cs:List Value)
  |own (v:Value) (s:Nat) (E:TypeId) (n:Int) (c:Int->Value)
  |sem (F:Frame)
def Ent.has:Ent->Nat->Prop
  | .blk g _,k=>g=k
  | .own v _ _ _ _,k=>v.ownBlock=some k
  | .sem F,k=>F.has k
def Ent.holds(w:World):Ent->Prop
  | .blk g cs=>∃T,w.heap[g]? =some (.cells cs.toArray T (0,0))
  | .own v s E n c=>0<=n/\n<=140737488355328/\((v=Og/\n=0)\/∃g cap cur,v= .slice (some ⟨g,0,none⟩) n.toNat cap/\w.heap[g]? =some (.cells cur E (0,0))/\
      n.toNat<=cap/\cap<=maxLen/\cur.size=cap*s/\∀k:Nat,(k:Int)<n*s->cur[k]? =some (c k))
  | .sem F=>F.holds w
theorem Ent.holds.keep{e:Ent}{w w':World}(h:e.holds w)(D:∀g,e.has g->w'.heap[g]? =w.heap[g]?):e.holds w':=by
 cases e with
 |blk g cs=>obtain⟨T,h⟩:=h;exact⟨T,by rw [D g rfl];exact h⟩
 | own v s E n c=>
   obtain⟨G,h1,h|⟨g,cap,cur,rfl,I,h⟩⟩:=h
   · exact⟨G,h1,.inl h⟩
   · exact⟨G,h1,.inr ⟨g,cap,cur,rfl,by rw [D g rfl];exact I,h⟩⟩
 |sem F=>exact F.keep h D
theorem Ent.holds.lt{e:Ent}{w:World}(h:e.holds w){g:Nat}(D:e.has g):g<w.heap.size:=by
 cases e with
 |blk G cs=>obtain⟨T,h⟩:=h;cases D;exact(Array.getElem?_eq_some_iff.1 h).1
 | own v s E n c=>
   obtain⟨_,_,h|⟨G,cap,cur,rfl,h,_⟩⟩:=h
   · obtain⟨rfl,_⟩:=h;simp [Ent.has,Value.ownBlock] at D
   · simp [Ent.has,Value.ownBlock] at D;subst D;exact(Array.getElem?_eq_some_iff.1 h).1
 |sem F=>exact F.lt h D
def Apart(d e:Ent):Prop:=∀g,d.has g->¬e.has g
structure Sat (w0 w:World) (l:List Ent):Prop where
  below:Below w0.heap.size w0 w
  holds:∀e∈l,e.holds w
  new:∀e∈l,∀g,e.has g->w0.heap.size<=g
  sep:l.Pairwise Apart
theorem Sat.start(w:World):Sat w w []:=⟨Below.refl _ _,by simp,by simp,.nil⟩
theorem Sat.sub{l m:List Ent}(h:Sat w0 w l)(D:m.Sublist l):Sat w0 w m:=
 ⟨h.below,fun e F=>h.holds e (D.subset F),fun e F=>h.new e (D.subset F),h.sep.sublist D⟩
theorem Sat.draw{l:List Ent}(h:Sat w0 w l):Sat w0 w.drew l:=
 ⟨h.below.drew,fun e D=>(h.holds e D).keep fun _ _=>rfl,h.new,h.sep⟩
theorem Sat.size{w0 w:World}{l:List Ent}(h:Sat w0 w l):w0.heap.size<=w.heap.size:=h.below.size
theorem Sat.comp{l m:List Ent}(h:Sat w0 w l)(k:Sat w w' m):Sat w0 w' (l++m):=by
 refine⟨h.below.trans (k.below.mono h.size),fun e D=> ?_,fun e D g F=> ?_,?_⟩
 · rcases List.mem_append.1 D with D|D
   · exact(h.holds e D).keep fun g F=>k.below.block g ((h.holds e D).lt F)
   · exact k.holds e D
 · rcases List.mem_append.1 D with D|D
   · exact h.new e D g F
   · exact Nat.le_trans h.size (k.new e D g F)
 · refine List.pairwise_append.2 ⟨h.sep,k.sep,fun d hd e D g F G=> ?_⟩
   have h1:=(h.holds d hd).lt F
   have I:=k.new e D g G
   omega
theorem Sat.alloc{w0 w:World}{l:List Ent}(h:Sat w0 w l)(o:Obj){e:Ent}(G:e.holds (w.alloc o))(D:∀g,e.has g->g=w.heap.size):Sat w0 (w.alloc o) (l++ [e]):=
 h.comp (m:= [e]) ⟨(Below.refl _ _).alloc (Nat.le_refl _) _,by simpa using G,fun d hd g F=>by rw [List.mem_singleton] at hd;subst hd;exact Nat.le_of_eq (D g F).symm,List.pairwise_singleton _ _⟩
theorem Sat.box{l:List Ent}(h:Sat w0 w l)(cs:List Value)(T:TypeId):Sat w0 (w.alloc (.cells cs.toArray T)) (l++ [.blk w.heap.size cs]):=
 h.alloc _ ⟨T,heap_alloc_new w _⟩ (fun g D=>(D:w.heap.size=g).symm)
theorem Sat.turn {l1 l2:List Ent} {d e:Ent} (h:Sat w0 w (l1++d::l2)) (X:∀k,k<w.heap.size->¬d.has k->w'.heap[k]? =w.heap[k]?) (ht:w'.tape=w.tape) (ho:w'.os=w.os) (hp:w'.output=w.output) (Z:w.heap.size<=w'.heap.size)
   (he:e.holds w') (I:∀g,e.has g->d.has g\/w.heap.size<=g):Sat w0 w' (l1++e::l2):=by
 have hd:d∈l1++d::l2:=by simp
 have J:=List.pairwise_append.1 h.sep
 have Y:=List.pairwise_cons.1 J.2.1
 refine⟨h.below.trans ⟨ho,ht,hp,Z,fun k hk=>X k (Nat.lt_of_lt_of_le hk h.size) fun V=> ?_⟩,fun x D=> ?_,fun x D g G=> ?_,?_⟩
 · have:=h.new d hd k V;omega
 · rcases List.mem_append.1 D with D|D
   · have O:=h.holds x (by simp [D])
     exact O.keep fun g G=>X g (O.lt G) fun V=>J.2.2 x D d (by simp) g G V
   · rcases List.mem_cons.1 D with rfl|D
     · exact he
     · have O:=h.holds x (by simp [D])
       exact O.keep fun g G=>X g (O.lt G) fun V=>Y.1 x D g V G
 · rcases List.mem_append.1 D with D|D
   · exact h.new x (by simp [D]) g G
   · rcases List.mem_cons.1 D with rfl|D
     · rcases I g G with F|F
       · exact h.new d hd g F
       · exact Nat.le_trans h.size F
     · exact h.new x (by simp [D]) g G
 · refine List.pairwise_append.2 ⟨J.1,List.pairwise_cons.2 ⟨fun x D g G F=> ?_,Y.2⟩,fun x D y W g G F=> ?_⟩
   · rcases I g G with U|U
     · exact Y.1 x D g U F
     · have:=(h.holds x (by simp [D])).lt F;omega
   · rcases List.mem_cons.1 W with rfl|W
     · rcases I g F with U|U
       · exact J.2.2 x D d (by simp) g G U
       · have:=(h.holds x (by simp [D])).lt G;omega
     · exact J.2.2 x D y (by simp [W]) g G F
theorem Sat.get{l1 l2:List Ent}{d:Ent}(h:Sat w0 w (l1++d::l2)):d.holds w:=h.holds d (by simp)
theorem Ent.holds.cell{g:Nat}{cs:List Value}{w:World}(h:(Ent.blk g cs).holds w){o:Nat}{v:Value}(hv:cs[o]? =some v):w.cell? ⟨g,o,none⟩=some v:=by
 obtain⟨T,h⟩:=h
 simp [World.cell?,h,hv]
theorem Ent.holds.free(h:(Ent.blk g cs).holds w)(o:Nat):w.frozen? ⟨g,o,none⟩=false:=by
 obtain⟨T,h⟩:=h
 simp [World.frozen?,h]
theorem Sat.lx{l1 l2:List Ent}(h:Sat w0 w (l1++ .blk g cs::l2))(o:Nat)(v:Value):
   Sat w0 (w.setCell ⟨g,o,none⟩ v) (l1++ .blk g (cs.set o v)::l2):=by
 refine h.turn (d:= .blk g cs) (fun k _ D=>Below.heap_setCell _ _ _ _ fun e=>D (by rw [e];rfl)) rfl rfl rfl (by simp [World.setCell]) ?_ (fun _ h=> .inl h)
 obtain⟨T,F⟩:=h.get
 refine⟨T,?_⟩
 simp [World.setCell,Array.getElem?_modify,F]
theorem Ent.holds.row{s:Nat}{E:TypeId}{n:Int}(h:(Ent.own v s E n c).holds w):Row w v s n c:=by
 obtain⟨F,h1,⟨rfl,rfl⟩|⟨g,cap,cur,rfl,G,U,O,J,I⟩⟩:=h
 · exact⟨⟨F,h1,_,_,rfl,.inl rfl⟩,fun k D=>by rw [Int.zero_mul] at D;omega⟩
 · refine⟨⟨F,h1,_,_,rfl,.inr ⟨_,_,rfl⟩⟩,fun k D=> ?_⟩
   simp [cad,World.cell?,G,I k D]
theorem Ent.holds.freeRow{s:Nat}{E:TypeId}{n:Int}(h:(Ent.own v s E n c).holds w)(k:Int):v=Og\/w.frozen? (cad v k)=false:=by
 obtain⟨O,h1,⟨rfl,rfl⟩|⟨g,cap,cur,rfl,D,J,I,G,F⟩⟩:=h
 · exact .inl rfl
 · right;simp [cad,World.frozen?,D]
theorem Ent.holds.congr{s:Nat}{E:TypeId}{n:Int}{d:Int->Value}(h:(Ent.own v s E n c).holds w)(e:∀k,0<=k->k<n*s->c k=d k):(Ent.own v s E n d).holds w:=by
 obtain⟨F,h1,h|⟨g,cap,cur,rfl,G,U,O,J,I⟩⟩:=h
 · exact⟨F,h1,.inl h⟩
 · exact⟨F,h1,.inr ⟨g,cap,cur,rfl,G,U,O,J,fun k D=>by rw [I k D,e k Oa D]⟩⟩
theorem Sat.j7 {l1 l2:List Ent} {s:Nat} {E:TypeId} {n:Int} (h:Sat w0 w (l1++ .own v s E n c::l2)) (k:Int) (Y:0<=k) (h1:k<n*s) (x:Value):
   Sat w0 (w.setCell (cad v k) x) (l1++ .own v s E n (upd c k x)::l2):=by
 obtain⟨j,rfl⟩:=Int.eq_ofNat_of_zero_le Y
 obtain⟨F,D,⟨rfl,rfl⟩|⟨g,cap,cur,rfl,U,X,W,V,I⟩⟩:=h.get
 · rw [Int.zero_mul] at h1;omega
 · refine h.turn (fun k _ J=>Below.heap_setCell _ _ _ _ fun e=>J (by rw [e];simp [Ent.has,Value.ownBlock,cad])) rfl rfl rfl (by simp [World.setCell]) ?_ (fun _ h=> .inl h)
   refine⟨F,D,.inr ⟨g,cap,cur.setIfInBounds j x,rfl,?_,X,W,by simp [V],fun i hi=> ?_⟩⟩
   · simp [World.setCell,Array.getElem?_modify,U,cad]
   · have O:=I j h1
     have G:=(Array.getElem?_eq_some_iff.1 O).1
     rw [Array.getElem?_setIfInBounds]
     by_cases e:j=i
     · subst e;simp [upd,G]
     · rw [if_neg e,I i hi]
       simp only [upd]
       rw [if_neg Oa]
def cellsOf(c:Int->Value)(m:Nat):List Value:=(List.range m).map fun(k:Nat)=>c (k:Int)
theorem cellsOf_get(c:Int->Value)(m k:Nat):(cellsOf c m)[k]? =if k<m then some (c k) else none:=by
 unfold cellsOf
 by_cases h:k<m
 · simp [h]
 · simp [h]
theorem ZY(c:Int->Value)(m:Nat):(cellsOf c m).length=m:=by simp [cellsOf]
theorem Ent.holds.owns{s:Nat}{E:TypeId}{n:Int}(h:(Ent.own v s E n c).holds w)(base:Nat)(J:∀g,v.ownBlock=some g->base<=g):
   w.ownsRow base E s v n.toNat (cellsOf c (n.toNat*s)):=by
 obtain⟨V,h1,⟨rfl,rfl⟩|⟨g,cap,cur,rfl,I,F,U,D,O⟩⟩:=h
 · exact⟨by simp [cellsOf],.inl ⟨rfl,rfl⟩⟩
 · refine⟨by simp [cellsOf],.inr ⟨g,cap,cur,rfl,J g rfl,I,F,U,D,?_⟩⟩
   have G:n.toNat*s<=cur.size:=by rw [D];exact Nat.mul_le_mul_right _ F
   apply List.ext_getElem?
   intro k
   rw [cellsOf_get,List.getElem?_take]
   by_cases hk:k<n.toNat*s
   · have e:((n.toNat*s:Nat):Int)=n*s:=by rw [Int.natCast_mul,Int.toNat_of_nonneg V]
     rw [if_pos hk,if_pos hk,Array.getElem?_toList,O k Oa]
   · rw [if_neg hk,if_neg hk]
theorem Ent.holds.ic{s:Nat}{E:TypeId}{n:Int}{base:Nat}(F:0<=n)(h1:n<=140737488355328)(h:w.ownsRow base E s v n.toNat (cellsOf c (n.toNat*s))):(Ent.own v s E n c).holds w:=by
 obtain⟨_,⟨rfl,h⟩|⟨g,cap,cur,rfl,W,G,U,O,J,I⟩⟩:=h
 · exact⟨F,h1,.inl ⟨rfl,Oa⟩⟩
 · refine⟨F,h1,.inr ⟨g,cap,cur,rfl,G,U,O,J,fun k V=> ?_⟩⟩
   have D:k<n.toNat*s:=by
     have:((n.toNat*s:Nat):Int)=n*s:=by rw [Int.natCast_mul,Int.toNat_of_nonneg F]
     omega
   have:=congrArg (fun l=>l[k]?) I
   simp only [List.getElem?_take,cellsOf_get,D,if_true,Array.getElem?_toList] at this
   exact this
end Go.Proofs.Gw
namespace Go.Proofs.Gw
open Go Go.RowKit
def ZR(P:Program)(T:TypeId):Bool:=
  match P.underlying T with
  |some (.struct _)|some (.array _ _)|none=>false
  |some _=>(P.info? T).map (·.size)==some 1
def ZC(P:Program)(T:TypeId):Option Nat:=
  match P.underlying T with
  |some (.struct _)=>(P.info? T).map (·.size)
  |_=>none
def Zv (P:Program) (T:TypeId) (f:Nat):Option Nat:=
  match P.underlying T with
  | some (.struct fs)=>match fs[f]? with
    | some d=>match P.info? d.type with
      |some i=>if i.size=0 then none else some d.offset
      |none=>none
    |none=>none
  |_=>none
def ZJ(P:Program)(T:TypeId):Option (TypeId×Nat):=
  match P.underlying T with
  |some (.slice E)=>(P.info? E).map fun i=>(E,i.size)
  |_=>none
def ZV(P:Program)(E:TypeId):Option (Value×Nat×Nat):=
  match P.info? E with
  |some i=>i.zero.map fun z=>(z,i.size,i.bytes)
  |none=>none
def Zc(P:Program)(f:FuncId):Bool:=
  match P.funcs[f]? with
  |some fn=>fn.body.isSome&& !(fn.name== "runtime.NumGoroutine")
  |none=>false
section
variable {P:Program} {L:List (Nat×Value)} {w w0:World} {o:Oper} {x y z:Operand} {T T':TypeId}
theorem Zim{v:Value}(F:o.op= .move x)(D:evL L x=some v):Runs P L w o (.value v) w:=fun ρ h=>by
 simp [execOp,F,h x v D]
theorem Zef{v:Value}(F:o.op= .assign x)(D:evL L x=some v):Runs P L w o (.value v) w:=fun ρ h=>by
 simp [execOp,F,h x v D]
theorem Zed{v:Value}(G:o.op= .pick x y z)(F:evL L x=some (.bool true))(D:evL L y=some v):Runs P L w o (.value v) w:=fun ρ h=>by
 simp [execOp,G,h _ _ F,h _ _ D,asBool]
theorem Zee{v:Value}(G:o.op= .pick x y z)(F:evL L x=some (.bool false))(D:evL L z=some v):Runs P L w o (.value v) w:=fun ρ h=>by
 simp [execOp,G,h _ _ F,h _ _ D,asBool]
section
variable {m n r:Int}
theorem Zkz(G:o.op= .binOp .add T x y T')(F:evL L x=some (.int Oh m))(D:evL L y=some (.int Oh n))(e:r=m+n)(hr:I64 r):Runs P L w o (.value (.int Oh r)) w:=fun ρ h=>by
 subst e
 simp [execOp,G,h _ _ F,h _ _ D,go_sem,Op.intArith,hr.wrap]
theorem Zkh(G:o.op= .binOp .sub T x y T')(F:evL L x=some (.int Oh m))(D:evL L y=some (.int Oh n))(e:r=m-n)(hr:I64 r):Runs P L w o (.value (.int Oh r)) w:=fun ρ h=>by
 subst e
 simp [execOp,G,h _ _ F,h _ _ D,go_sem,Op.intArith,hr.wrap]
theorem Zkn(G:o.op= .binOp .mul T x y T')(F:evL L x=some (.int Oh m))(D:evL L y=some (.int Oh n))(e:r=m*n)(hr:I64 r):Runs P L w o (.value (.int Oh r)) w:=fun ρ h=>by
 subst e
 simp [execOp,G,h _ _ F,h _ _ D,go_sem,Op.intArith,hr.wrap]
theorem Zkj(G:o.op= .binOp .quo T x y T')(F:evL L x=some (.int Oh m))(D:evL L y=some (.int Oh n))(hn:n≠0)(e:r=m.tdiv n)(hr:I64 r):Runs P L w o (.value (.int Oh r)) w:=fun ρ h=>by
 subst e
 simp [execOp,G,h _ _ F,h _ _ D,go_sem,Op.intDiv,hn,hr.wrap]
theorem Zki(G:o.op= .binOp .rem T x y T')(F:evL L x=some (.int Oh m))(D:evL L y=some (.int Oh n))(hn:n≠0)(e:r=m.tmod n):Runs P L w o (.value (.int Oh r)) w:=fun ρ h=>by
 subst e
 simp [execOp,G,h _ _ F,h _ _ D,go_sem,Op.intDiv,hn]
theorem Zkm(F:o.op= .unOp .neg T x)(D:evL L x=some (.int Oh m))(e:r= -m)(hr:I64 r):Runs P L w o (.value (.int Oh r)) w:=fun ρ h=>by
 subst e
 have:=hr.wrap
 simp [execOp,F,h _ _ D,Op.unary,Op.intArith,this]
variable {k:IntKind}
theorem Zkq(G:o.op= .binOp .lss T x y T')(F:evL L x=some (.int k m))(D:evL L y=some (.int k n)):Runs P L w o (.value (B (m<n))) w:=fun ρ h=>by
 rw [<-Kz];simp [execOp,G,h _ _ F,h _ _ D,go_sem]
theorem Zks(G:o.op= .binOp .leq T x y T')(F:evL L x=some (.int k m))(D:evL L y=some (.int k n)):Runs P L w o (.value (B (m<=n))) w:=fun ρ h=>by
 rw [<-Kz];simp [execOp,G,h _ _ F,h _ _ D,go_sem]
theorem Zku(G:o.op= .binOp .gtr T x y T')(F:evL L x=some (.int k m))(D:evL L y=some (.int k n)):Runs P L w o (.value (B (n<m))) w:=fun ρ h=>by
 rw [<-Kz];simp [execOp,G,h _ _ F,h _ _ D,go_sem]
theorem Zkv(G:o.op= .binOp .geq T x y T')(F:evL L x=some (.int k m))(D:evL L y=some (.int k n)):Runs P L w o (.value (B (n<=m))) w:=fun ρ h=>by
 rw [<-Kz];simp [execOp,G,h _ _ F,h _ _ D,go_sem]
theorem Zji(m n:Int):(m==n)=decide (m=n):=by
 rw [Bool.eq_iff_iff];simp
theorem Zjh(m n:Int):(m !=n)=decide (m≠n):=by
 rw [Bool.eq_iff_iff];simp
theorem Zkw(G:o.op= .binOp .eql T x y T')(F:evL L x=some (.int k m))(D:evL L y=some (.int k n)):Runs P L w o (.value (B (m=n))) w:=fun ρ h=>by
 rw [<-Kz];simp [execOp,G,h _ _ F,h _ _ D,go_sem,Zji]
theorem Zkl(G:o.op= .binOp .neq T x y T')(F:evL L x=some (.int k m))(D:evL L y=some (.int k n)):Runs P L w o (.value (B (m≠n))) w:=fun ρ h=>by
 rw [<-Kz];simp [execOp,G,h _ _ F,h _ _ D,go_sem,Zjh]
theorem Zkk{p:Prop}(F:o.op= .unOp .not T x)(D:evL L x=some (B p)):Runs P L w o (.value (B (¬p))) w:=fun ρ h=>by
 have e:Op.unary .not (B p)=pure (B (¬p)):=by
   by_cases hp:p
   · rw [ZP hp,B_false (fun h=>h hp)];rfl
   · rw [B_false hp,ZP hp];rfl
 simp [execOp,F,h _ _ D,e]
theorem ZfH(F:o.op= .unOp .not T x)(D:evL L x=some (.bool true)):Runs P L w o (.value (.bool false)) w:=fun ρ h=>by
 simp [execOp,F,h _ _ D,Op.unary]
theorem ZfI(F:o.op= .unOp .not T x)(D:evL L x=some (.bool false)):Runs P L w o (.value (.bool true)) w:=fun ρ h=>by
 simp [execOp,F,h _ _ D,Op.unary]
theorem Zkp{ts:Array TypeId}(G:o.op= .call {callee:= .builtin .max,args:= #[x,y],argTypes:=ts})(F:evL L x=some (.int k m))(D:evL L y=some (.int k n))(e:r=max m n):Runs P L w o (.value (.int k r)) w:=fun ρ h=>by
 subst e
 have:(if n>m then n else m)=max m n:=by rw [Int.max_def];split<;>split<;>omega
 simp [execOp,G,resolve,invoke,builtin,h _ _ F,h _ _ D,Builtin.max_,Builtin.max2,this]
theorem Zko{ts:Array TypeId}(G:o.op= .call {callee:= .builtin .min,args:= #[x,y],argTypes:=ts})(F:evL L x=some (.int k m))(D:evL L y=some (.int k n))(e:r=min m n):Runs P L w o (.value (.int k r)) w:=fun ρ h=>by
 subst e
 have:(if n<m then n else m)=min m n:=by rw [Int.min_def];split<;>split<;>omega
 simp [execOp,G,resolve,invoke,builtin,h _ _ F,h _ _ D,Builtin.min_,Builtin.min2,this]
end
theorem Z8{T E:TypeId}{s:Nat}(h:ZJ P T=some (E,s)):P.underlying T=some (.slice E)/\∃i,P.info? E=some i/\i.size=s:=by
 unfold ZJ at h
 split at h
 · rename_i F D
   cases hi:P.info? F with
   |none=>simp [hi] at h
   |some i=>simp [hi] at h;obtain⟨rfl,rfl⟩:=h;exact⟨D,i,hi,rfl⟩
 · cases h
theorem Zkt{v:Value}{n:Int}{E:TypeId}{s:Nat}(I:o.op= .call {callee:= .builtin .len,args:= #[x],argTypes:= #[T]})(G:ZJ P T=some (E,s))(D:evL L x=some v)(hv:Slh v n):
   Runs P L w o (.value (.int Oh n)) w:=fun ρ h=>by
 obtain⟨F,_⟩:=Z8 G
 obtain⟨J,h1,a,cap,rfl,_⟩:=hv
 have e:goInt (max n 0)= .int Oh n:=by rw [Int.max_eq_left J];rfl
 simp [execOp,I,resolve,invoke,builtin,h _ _ D,Builtin.len_,run_underlying F,e]
theorem Addr.add_eq(a:Addr)(h:a.spot=none)(k:Nat):a.add k=⟨a.block,a.off+k,none⟩:=by
 unfold Addr.add
 split
 · rename_i e;subst e;cases a;simp at h;simp [h]
 · rfl
theorem ZfJ{v:Value}{n i k:Int}{E:TypeId}{s:Nat}(V:o.op= .indexAddr T x y)(U:ZJ P T=some (E,s))(J:evL L x=some v)(I:evL L y=some (.int Oh i))(hv:Slh v n)(F:0<=i)(h1:i<n)(e:k=i*s):
   Runs P L w o (.value (.pointer (some (cad v k)))) w:=fun ρ h=>by
 subst e
 obtain⟨O,D,hi,rfl⟩:=Z8 U
 obtain⟨hn,_,a,cap,rfl,W|⟨b,off,rfl⟩⟩:=hv
 · omega
 · have hlt:¬max n 0<=i:=Oa
   have G:(i*(D.size:Int)).toNat=i.toNat*D.size:=by
     obtain⟨j,rfl⟩:=Int.eq_ofNat_of_zero_le F
     rw [<-Int.natCast_mul];exact Int.toNat_natCast _
   simp [execOp,V,h _ _ J,h _ _ I,Instr.indexAt,run_underlying O,asIntOf,sizeOf,typeInfo,hi,cad,Addr.add_eq,G,F]
   exact fun h=>absurd h hlt
theorem ZfA {T:TypeId} {f off:Nat} (h:Zv P T f=some off):∃(D:Array Field) (d:Field) (i:TypeInfo),P.underlying T=some (.struct D)/\D[f]? =some d/\P.info? d.type=some i/\i.size≠0/\d.offset=off:=by
 unfold Zv at h
 split at h
 · rename_i D F
   split at h
   · rename_i d hd
     split at h
     · rename_i i hi
       split at h
       · cases h
       · rename_i G;cases h;exact⟨D,d,i,F,hd,hi,G,rfl⟩
     · cases h
   · cases h
 · cases h
theorem Zbv{a b:Addr}{f off:Nat}(J:o.op= .fieldAddr T x f)(G:Zv P T f=some off)(D:evL L x=some (.pointer (some a)))(O:a.add off=b):
   Runs P L w o (.value (.pointer (some b))) w:=fun ρ h=>by
 subst O
 obtain⟨U,d,i,F,hd,hi,I,rfl⟩:=ZfA G
 simp [execOp,J,h _ _ D,Instr.fieldAt,run_underlying F,hd,Instr.sureAddr,fieldPlace,sizeOf,typeInfo,hi,I]
theorem ZdC{v:Value}{n:Int}(hv:Slh v n){k:Int}(F:0<=k)(hn:0<n)(off:Nat):(cad v k).add off=cad v (k+off):=by
 obtain⟨_,_,a,cap,rfl,D|⟨b,o,rfl⟩⟩:=hv
 · omega
 · rw [Addr.add_eq _ rfl]
   have:(k+off).toNat=k.toNat+off:=Oa
   simp [cad,this,Nat.add_assoc]
theorem W6{T:TypeId}(h:ZR P T=true):(∃d,P.underlying T=some d/\(isAgg T).run P w= .ok false w)/\∃i,P.info? T=some i/\i.size=1:=by
 unfold ZR at h
 split at h
 · cases h
 · cases h
 · cases h
 · rename_i d h1 F D
   refine⟨⟨d,D,?_⟩,?_⟩
   · unfold isAgg
     rw [Sem.run_bind,run_underlying D,Result.andThen_ok]
     cases d<;>first|rfl|(exact absurd rfl (h1 _))|(exact absurd rfl (F _ _))
   · cases hi:P.info? T with
     |none=>simp [hi] at h
     |some i=>simp [hi] at h;exact⟨i,rfl,h⟩
theorem Zah{a:Addr}{v:Value}(G:o.op= .load T x)(F:ZR P T=true)(D:evL L x=some (.pointer (some a)))(hc:w.cell? a=some v):Runs P L w o (.value v) w:=fun ρ h=>by
 obtain⟨⟨d,J,I⟩,_⟩:=W6 (w:=w) F
 simp [execOp,G,h _ _ D,Instr.loadAt,Instr.sureAddr,loadVar,I,hc]
theorem Xy{T:TypeId}{n:Nat}(h:ZC P T=some n):(isAgg T).run P w= .ok true w/\(sizeOf T).run P w= .ok n w:=by
 unfold ZC at h
 split at h
 · rename_i F D
   cases hi:P.info? T with
   |none=>simp [hi] at h
   | some i=>
     simp [hi] at h;subst h
     exact⟨by unfold isAgg;rw [Sem.run_bind,run_underlying D];rfl,by simp [sizeOf,typeInfo,hi]⟩
 · cases h
theorem Up{a:Addr}{cs:List Value}(G:o.op= .load T x)(F:ZC P T=some cs.length)(D:evL L x=some (.pointer (some a)))(hc:∀j v,cs[j]? =some v->w.cell? (a.add j)=some v):Runs P L w o (.value (.agg cs.toArray)) w:=fun ρ h=>by
 obtain⟨h1,I⟩:=Xy (w:=w) F
 simp [execOp,G,h _ _ D,Instr.loadAt,Instr.sureAddr,loadVar,h1,I,run_loadCells_list (P:=P) w a cs hc]
theorem Ent.holds.cells{g:Nat}{cs:List Value}(h:(Ent.blk g cs).holds w):∀j v,cs[j]? =some v->w.cell? ((⟨g,0,none⟩:Addr).add j)=some v:=fun j v hv=>by
 rw [Addr.add_eq _ rfl]
 have:=h.cell hv
 simpa using this
theorem TV{a:Addr}{v u:Value}(O:o.op= .store T x y)(J:ZR P T=true)(I:evL L x=some (.pointer (some a)))(G:evL L y=some v)(hv:v.oneCell'=true)(hc:w.cell? a=some u)(hf:w.frozen? a=false):
   Runs P L w o .skip (w.setCell a v):=fun ρ h=>by
 obtain⟨_,i,hi,D⟩:=W6 (w:=w) J
 have F:v.cells= #[v]:=by cases v<;>first|rfl|(simp [Value.oneCell'] at hv)
 have U:a.add 0=a:=by simp [Addr.add]
 simp [execOp,O,h _ _ I,h _ _ G,Instr.storeAt,Instr.sureAddr,storeVar,sizeOf,typeInfo,hi,D,F,storeCells,U,run_store P w a v _ hv,hc,hf]
theorem Zae{l1 l2:List Ent}{g k:Nat}{cs:List Value}{v u:Value}(J:o.op= .store T x y)(I:ZR P T=true)(D:Sat w0 w (l1++ .blk g cs::l2))(G:evL L x=some (.pointer (some ⟨g,k,none⟩)))(F:evL L y=some v)
   (hv:v.oneCell'=true) (O:cs[k]? =some u):∃w',Runs P L w o .skip w'/\Sat w0 w' (l1++ .blk g (cs.set k v)::l2):=
 ⟨_,TV J I G F hv (D.get.cell O) (D.get.free k),D.lx k v⟩
theorem Zad{l1 l2:List Ent}{v u:Value}{s:Nat}{E:TypeId}{n k:Int}{c:Int->Value}(O:o.op= .store T x y)(J:ZR P T=true)(D:Sat w0 w (l1++ .own v s E n c::l2))(I:evL L x=some (.pointer (some (cad v k))))(G:evL L y=some u)
   (hv:u.oneCell'=true) (F:0<=k) (h1:k<n*s):∃w',Runs P L w o .skip w'/\Sat w0 w' (l1++ .own v s E n (upd c k u)::l2):=by
 refine⟨_,TV O J I G hv (D.get.row.cell F h1) ?_,D.j7 k F h1 u⟩
 rcases D.get.freeRow k with h|h
 · obtain⟨_,_,⟨_,rfl⟩|⟨g,cap,cur,rfl,_⟩⟩:=D.get
   · rw [Int.zero_mul] at h1;omega
   · cases h
 · exact h
theorem TF (g:Nat) (E:TypeId):∀(vs:List Value) (k:Nat) (cur:List Value) (w:World),w.heap[g]? =some (.cells cur.toArray E (0,0))->k+vs.length<=cur.length->(∀v∈vs,v.oneCell'=true)->
   ∃w',(storeCells ⟨g,0,none⟩ vs k).run P w= .ok () w'/\w'.heap[g]? =some (.cells (cur.take k++vs++cur.drop (k+vs.length)).toArray E (0,0))/\(∀j,j≠g->w'.heap[j]? =w.heap[j]?)/\w'.tape=w.tape/\w'.os=w.os/\w'.output=w.output/\w'.heap.size=w.heap.size
 | [],k,cur,w,hg,hk,_=>⟨w,rfl,by simp [hg],fun _ _=>rfl,rfl,rfl,rfl,rfl⟩
 | v ::vs,k,cur,w,hg,hk,h1=>by
   simp only [List.length_cons] at hk
   have hv:=h1 v (by simp)
   have hlt:k<cur.length:=Oa
   have hc:w.cell? ⟨g,k,none⟩=some cur[k]:=by simp [World.cell?,hg,hlt]
   have hf:w.frozen? ⟨g,k,none⟩=false:=by simp [World.frozen?,hg]
   have D:(w.setCell ⟨g,k,none⟩ v).heap[g]? =some (.cells (cur.set k v).toArray E (0,0)):=by simp [World.setCell,Array.getElem?_modify,hg]
   obtain⟨w',X,W,V,U,O,J,I⟩:=TF g E vs (k+1) (cur.set k v) (w.setCell ⟨g,k,none⟩ v) D (by simp;omega) (fun u G=>h1 u (by simp [G]))
   refine⟨w',?_,?_,fun j F=> ?_,U,O,J,?_⟩
   · have e0:(⟨g,0,none⟩:Addr).add k=⟨g,k,none⟩:=by rw [Addr.add_eq _ rfl];simp
     simp only [storeCells,Sem.run_bind,e0]
     rw [run_store P w _ v _ hv,hc]
     simp only [hf]
     exact X
   · rw [W]
     congr 3
     have Z:(cur.set k v).take (k+1)=cur.take k++ [v]:=by
       rw [List.take_set,List.take_succ_eq_append_getElem hlt,List.set_append_right _ _ (by simp;omega)]
       simp [Nat.min_eq_left (Nat.le_of_lt hlt)]
     have Y:(cur.set k v).drop (k+1+vs.length)=cur.drop (k+(v::vs).length):=by
       rw [List.drop_set_of_lt Oa];congr 1;simp;omega
     rw [Z,Y];simp
   · rw [V j F];exact Below.heap_setCell _ _ _ _ F
   · rw [I];simp [World.setCell]
theorem XJ{E:TypeId}{z:Value}{s b:Nat}(h:ZV P E=some (z,s,b)):∃i,P.info? E=some i/\i.zero=some z/\i.size=s/\i.bytes=b:=by
 unfold ZV at h
 split at h
 · rename_i i hi
   cases D:i.zero with
   |none=>simp [D] at h
   |some z'=>simp [D] at h;obtain⟨rfl,rfl,rfl⟩:=h;exact⟨i,hi,D,rfl,rfl⟩
 · cases h
theorem Zkx{l:List Ent}{v:Value}{cs:List Value}(F:o.op= .box T x)(G:Sat w0 w l)(D:evL L x=some v)(hc:v.cells=cs.toArray):
   ∃u w',Runs P L w o (.value u) w'/\∃g,u= Oq g/\Sat w0 w' (l++ [.blk g cs]):=by
 refine⟨_,w.alloc (.cells cs.toArray T),fun ρ h=> ?_,w.heap.size,rfl,G.box cs T⟩
 simp [execOp,F,h _ _ D,Instr.box,newVar,newRow,hc]
theorem ZfM{l:List Ent}{z:Value}{s b:Nat}{cs:List Value}(G:o.op= .alloc T)(F:ZV P T=some (z,s,b))(I:Sat w0 w l)(hc:z.cells=cs.toArray):
   ∃u w',Runs P L w o (.value u) w'/\∃g,u= Oq g/\Sat w0 w' (l++ [.blk g cs]):=by
 refine⟨_,w.alloc (.cells cs.toArray T),fun ρ h=> ?_,w.heap.size,rfl,I.box cs T⟩
 obtain⟨i,hi,D,_⟩:=XJ F
 simp [execOp,G,Instr.alloc,zeroValue,typeInfo,hi,D,newVar,newRow,hc]
theorem K1{w:World}{E:TypeId}{s:Nat}{n:Int}{c:Int->Value}{cur:Array Value}(F:0<=n)(h1:n<=140737488355328)(D:cur.size=n.toNat*s)(hc:∀k:Nat,(k:Int)<n*s->cur[k]? =some (c k)):
   (Ent.own (.slice (some ⟨w.heap.size,0,none⟩) n.toNat n.toNat) s E n c).holds (w.alloc (.cells cur E)):=
 ⟨F,h1,.inr ⟨_,_,_,rfl,heap_alloc_new w _,Nat.le_refl _,by unfold maxLen;omega,D,hc⟩⟩
theorem Zin{l:List Ent}{E:TypeId}{s b:Nat}{n:Int}{D:Value}(ho:o.op= .makeSlice T x y)(Z:ZJ P T=some (E,s))(he:ZV P E=some (D,s,b))(V:D.cells= #[D])(hs:s=1)(hS:Sat w0 w l)
   (X:evL L x=some (.int Oh n)) (W:evL L y=some (.int Oh n)) (J:0<=n) (hb:b*n<=140737488355328) (h1:n<=140737488355328):
   ∃u w',Runs P L w o (.value u) w'/\Sat w0 w' (l++ [.own u s E n (fun _=>D)])/\Slh u n:=by
 subst hs
 obtain⟨Y,_⟩:=Z8 Z
 obtain⟨i,hi,G,F,I⟩:=XJ he
 · have U:∀w:World,(Instr.makeSlice T (.int Oh n) (.int Oh n)).run P w= .ok (.slice (some ⟨w.heap.size,0,none⟩) n.toNat n.toNat) (w.alloc (.cells (madeCells D.cells (n.toNat*i.size)) E)):=fun w=>
     run_make w T E i D Y hi G .i64 .i64 n n J (Int.le_refl _) (by rw [I];omega) Oa
   refine⟨_,w.alloc (.cells (madeCells D.cells (n.toNat*i.size)) E),fun ρ h=> ?_,hS.alloc _ (K1 (s:=1) J h1 (by simp [madeCells,F]) ?_) ?_,⟨J,h1,_,_,rfl,.inr ⟨_,_,rfl⟩⟩⟩
   · simp [execOp,ho,h _ _ X,h _ _ W,U]
   · intro k hk
     have:k<n.toNat*i.size:=by rw [F];omega
     rw [V]
     simp [madeCells,this,Nat.mod_one]
   · intro g O;simp [Ent.has,Value.ownBlock] at O;exact O.symm
theorem Zkr{l:List Ent}{E:TypeId}{s b len:Nat}{D:Array (Nat×Operand)}{pv:List (Nat×Value)}{cs:List Value}{n:Int}{c:Int->Value}{F:Value}(Y:o.op= .buildSlice T len D)(W:ZJ P T=some (E,s))(he:ZV P E=some (F,s,b))(hS:Sat w0 w l)
   (X:∀ρ,Agr L ρ->(D.toList.map fun x=>(x.1,ρ x.2))=pv) (hf:Instr.fill (fun i=>some (i*s,s)) ((Array.range (len*s)).map fun j=>F.cells[j%F.cells.size]!) pv=some cs.toArray)
   (hl:len*s<=16777216) (J:len*s≠0) (hn:n=len) (O:cs.length=len*s) (hc:∀k:Nat,(k:Int)<n*s->cs[k]? =some (c k)) (h1:n<=140737488355328):
   ∃u w',Runs P L w o (.value u) w'/\Sat w0 w' (l++ [.own u s E n c])/\Slh u n:=by
 obtain⟨V,_⟩:=Z8 W
 obtain⟨i,hi,G,rfl,aa⟩:=XJ he
 have e:n.toNat=len:=Oa
 refine⟨.slice (some ⟨w.heap.size,0,none⟩) n.toNat n.toNat,w.alloc (.cells cs.toArray E),fun ρ h=> ?_,hS.alloc _ (K1 (s:=i.size) Oa h1 (by rw [e];simpa using O) (fun k Z=>by simpa using hc k Z)) ?_,⟨by omega,h1,_,_,rfl,.inr ⟨_,_,rfl⟩⟩⟩
 · have I:=X ρ h
   have d8:¬16777216<len*i.size:=Oa
   simp [execOp,Y,Instr.buildSlice,run_underlying V,sizeOf,typeInfo,hi,J,d8,zeroValue,G,I,hf,newRow,e]
 · intro g U;simp [Ent.has,Value.ownBlock] at U;exact U.symm
theorem Zio{l:List Ent}{E:TypeId}{s:Nat}{c:Int->Value}(I:o.op= .buildSlice T 0 #[])(G:ZJ P T=some (E,s))(O:Sat w0 w l):
   ∃u w',Runs P L w o (.value u) w'/\Sat w0 w' (l++ [.own u s E 0 c])/\Slh u 0:=by
 obtain⟨F,i,hi,rfl⟩:=Z8 G
 refine⟨.slice (some ⟨w.heap.size,0,none⟩) 0 0,w.alloc (.cells #[] E),fun ρ h=> ?_,O.alloc _ (K1 (n:=0) (s:=i.size) Oa Oa (by simp) (fun k J=>by rw [Int.zero_mul] at J;omega)) ?_,⟨by omega,Oa,_,_,rfl,.inr ⟨_,_,rfl⟩⟩⟩
 · simp [execOp,I,Instr.buildSlice,run_underlying F,sizeOf,typeInfo,hi,Instr.fill,newRow]
   exact congrArg (fun c=>w.alloc (.cells c E)) (by simp [Array.range])
 · intro g D;simp [Ent.has,Value.ownBlock] at D;exact D.symm
end
end Go.Proofs.Gw
namespace Go.Proofs.Gw
open Go Go.RowKit
section
variable {P:Program} {l:List Oper} {Q:Exit->Act->World->Prop} {a:Act} {w:World} {rest:List Oper} {o:Oper} {n:Nat} {ds:List Deferred} {L:List (Nat×Value)}
theorem Zj8{d:Nat}{R:Value->World->Prop}(J:Fr a n ds L)(G:Want l L o true)(hd:o.dst=some d)(D:Nat.blt d n=true)(hr:∃v w',Runs P L w o (.value v) w'/\R v w')
   (K:∀v w',R v w'->∀F,Fr F n ds ((d,v)::L)->wpList P l.toArray Q rest F w'):wpList P l.toArray Q (o::rest) a w:=by
 obtain⟨v,w',hr,I⟩:=hr
 exact Zfh J G hd D hr (K v w' I)
theorem Zh4{R:World->Prop}(G:Fr a n ds L)(D:Want l L o true)(hd:o.dst=none)(hr:∃w',Runs P L w o .skip w'/\R w')
   (K:∀w',R w'->wpList P l.toArray Q rest a w'):wpList P l.toArray Q (o::rest) a w:=by
 obtain⟨w',hr,F⟩:=hr
 exact Zj7 G D hd hr (K w' F)
theorem ZdM{p:Prop}{d:Nat}{G:Prop}(D:Fr a n ds L)(hd:lk L d=some (B p))(F:p->Fr a n ds ((d,.bool true)::L)->G)(hf:¬p->Fr a n ds ((d,.bool false)::L)->G):G:=by
 by_cases hp:p
 · exact F hp (D.known hd (ZP hp))
 · exact hf hp (D.known hd (B_false hp))
end
section
variable {P:Program} {L:List (Nat×Value)} {w w0:World} {o:Oper} {x y z:Operand} {T T':TypeId}
def UU(L:List (Nat×Value))(xs:Array Operand)(vs:List Value):Prop:=∀ρ,Agr L ρ->xs.map ρ=vs.toArray
theorem ZbI:UU L #[] []:=fun _ _=>by simp
theorem Wu{F:List Operand}{v:Value}{vs:List Value}(G:evL L x=some v)(h:UU L F.toArray vs):UU L (x::F).toArray (v::vs):=fun ρ D=>by
 have h1:=congrArg Array.toList (h ρ D)
 have I:=D x v G
 simp only [List.map_toArray] at h1⊢
 rw [List.map_cons,I,h1]
theorem Zdm{g:FuncId}{J:Array Operand}{ts:Array TypeId}{vs:List Value}{cap:Array Value}{D:Array Value}(V:o.op= .call {callee:= .value x,args:=J,argTypes:=ts})(U:evL L x=some (.func (.func g) #[] cap))(F:Zc P g=true)(W:UU L J vs)
   (e:vs.toArray++cap=D):Runs P L w o (.enter g D) w:=fun ρ h=>by
 subst e
 have h1:=W ρ h
 unfold Zc at F
 cases hf:P.funcs[g]? with
 |none=>simp [hf] at F
 | some fn=>
   simp only [hf,Bool.and_eq_true,Bool.not_eq_true'] at F
   obtain⟨O,hn⟩:=F
   have I:fn.body≠none:=by intro e;rw [e] at O;simp at O
   have G:fn.name≠ "runtime.NumGoroutine" :=by simpa using hn
   simp [execOp,V,resolve,h _ _ U,Deferred.ofValue,invoke,callFunc,hf,G,I,h1]
theorem Zck{k:Nat}{vs:List Value}{v:Value}(F:o.op= .extract x k)(D:evL L x=some (.tuple vs.toArray))(hv:vs[k]? =some v):Runs P L w o (.value v) w:=fun ρ h=>by
 simp [execOp,F,h _ _ D,Instr.extract,hv]
theorem Zbr{f:Fn}{vs:List Value}{D:Array Operand}(F:o.op= .makeFunc f #[] D)(G:UU L D vs):Runs P L w o (.value (.func f #[] vs.toArray)) w:=fun ρ h=>by
 have h1:=G ρ h
 simp [execOp,F,Instr.makeFunc,h1]
theorem Zky{r:Next}{w':World}(G:∀cs b,o.op≠ .select cs b)(F:(o.op.operands.toList.all fun x=>(evL L x).isSome)=true)(hr:(execOp (fun x=>(evL L x).getD undef) o).run P w= .ok r w'):Runs P L w o r w':=fun ρ h=>by
 rw [<-hr,execOp_congr o G fun x D=> ?_]
 have:=List.all_eq_true.1 F x (by simpa using D)
 obtain⟨v,hv⟩:=Option.isSome_iff_exists.1 this
 rw [hv,h x v hv];rfl
theorem Zek{s:Nat}{n m:Int}{c d:Int->Value}(D:0<=n)(h1:0<=m):cellsOf c (n.toNat*s)++cellsOf d (m.toNat*s)=cellsOf (cat (n*s) c d) ((n+m).toNat*s):=by
 have e:(n+m).toNat*s=n.toNat*s+m.toNat*s:=by rw [<-Nat.add_mul];congr 1;omega
 have F:((n.toNat*s:Nat):Int)=n*s:=by rw [Int.natCast_mul,Int.toNat_of_nonneg D]
 apply List.ext_getElem?
 intro k
 rw [List.getElem?_append,cellsOf_get,cellsOf_get,cellsOf_get,ZY,e]
 by_cases hk:k<n.toNat*s
 · rw [if_pos hk,if_pos hk,if_pos Oa]
   simp only [cat];rw [if_pos Oa]
 · rw [if_neg hk]
   by_cases hk2:k<n.toNat*s+m.toNat*s
   · rw [if_pos Oa,if_pos hk2]
     simp only [cat];rw [if_neg Oa]
     congr 2;omega
   · rw [if_neg Oa,if_neg hk2]
theorem Zay(w:World)(base:Nat)(t e:TypeId)(i:TypeInfo)(z:Value)(size F:Nat)(ht:P.underlying t=some (.slice e))(hi:P.info? e=some i)(hz:i.zero=some z)
   (yV:i.size=size) (I:i.bytes=F) (X:z.cells.size=size) (Y:0<size)
   (v:Value) (n:Nat) (O:List Value) (V:w.ownsRow base e size v n O)
   (a:Addr) (m c:Nat) (D:List Value) (Z:D.length=m*size) (yX:∀j u,D[j]? =some u->w.cell? (a.add j)=some u) (h1:∀u∈D,u.oneCell'=true)
   (J:n+m<=maxLen) (aT:(n+m)*F<=140737488355328) (gU:base<=w.heap.size) (W:TypeId):
   ∃ U w',(Builtin.append_ #[t,t] W #[v,.slice (some a) m c]).run P w= .ok U w'/\w'.ownsRow base e size U (n+m) (O++D)/\w.grownBy w' v.ownBlock/\
     (U.ownBlock=v.ownBlock\/∀g,U.ownBlock=some g->w.heap.size<=g):=by
 obtain⟨U,w',hr,h2,h3,_⟩:=run_append_own (P:=P) w base t W e i z size F ht hi hz yV I X Y v n O V a m c D Z yX h1 J aT gU
 refine⟨U,w',hr,h2,h3,?_⟩
 rcases V.2 with⟨rfl,rfl⟩|⟨g,cap,cur,rfl,hbg,hg,hnc,hcm,hcs,kv⟩
 · obtain⟨v2,w2,G,h4,_⟩:=run_append_own (P:=P) w w.heap.size t W e i z size F ht hi hz yV I X Y Og 0 O ⟨V.1,.inl ⟨rfl,rfl⟩⟩ a m c D Z yX h1 J aT (Nat.le_refl _)
   rw [hr] at G
   cases G
   exact .inr fun g hg=>(h4.lt g hg).1
 · subst yV
   by_cases hroom:n+m<=cap
   · have q9:n*i.size+D.length<=cur.size:=by rw [Z,hcs,<-Nat.add_mul];exact Nat.mul_le_mul_right _ hroom
     have G:=run_append_room (P:=P) w t W e i ht hi g n cap cur hg a m c D Z yX h1 hroom q9
     rw [hr] at G
     cases G
     exact .inl rfl
   · subst I
     have jy:n+m<=9223372036854775807:=by simp only [maxLen] at J;omega
     have holds:∀j u,O[j]? =some u->w.cell? ((⟨g,0,none⟩:Addr).add j)=some u:=V.cells (g:=g) rfl
     have G:=run_append_grow (P:=P) w t W e i z ht hi hz ⟨g,0,none⟩ n cap O V.1 holds a m c D Z yX Oa Oa (growslice_fits Oa aT)
     rw [hr] at G
     cases G
     exact .inr fun g hg=>by simp [Value.ownBlock] at hg;omega
theorem Apart.symm{d e:Ent}(h:Apart d e):Apart e d:=fun g D hd=>h g hd D
theorem Sat.perm{l m:List Ent}(h:Sat w0 w l)(D:l.Perm m):Sat w0 w m:=
 ⟨h.below,fun e F=>h.holds e (D.mem_iff.2 F),fun e F=>h.new e (D.mem_iff.2 F),(D.pairwise_iff (fun h=>Apart.symm h)).1 h.sep⟩
theorem Kd {l1 l2:List Ent} {v u:Value} {E:TypeId} {s b:Nat} {n m:Int} {c d:Int->Value} {X:Value} (ho:o.op= .call {callee:= .builtin .append,args:= #[x,y],argTypes:= #[T,T]}) (ht:ZJ P T=some (E,s)) (he:ZV P E=some (X,s,b)) (hz:X.cells.size=s) (hs:0<s)
   (V:Sat w0 w (l1++ .own v s E n c::l2)) (hx:evL L x=some v) (hy:evL L y=some u) (hu:Row w u s m d) (h1:∀k,0<=k->k<m*s->(d k).oneCell'=true) (hb:b*(n+m)<=140737488355328) (ae:n+m<=140737488355328):
   ∃r w',Runs P L w o (.value r) w'/\Sat w0 w' (l1++ .own r s E (n+m) (cat (n*s) c d)::l2)/\Slh r (n+m):=by
 obtain⟨I,_⟩:=Z8 ht
 obtain⟨i,hi,ab,ac,ah⟩:=XJ he
 have G:=V.get
 obtain⟨U,ai,_⟩:=G
 have D:=hu.cf.n0
 have Y:=V.get.owns w0.heap.size (fun g G=>V.new (.own v s E n c) (by simp) g G)
 have en:n.toNat+m.toNat=(n+m).toNat:=Oa
 have eb:(n.toNat+m.toNat)*b<=140737488355328:=by
   have:(((n.toNat+m.toNat)*b:Nat):Int)=b*(n+m):=by rw [Int.natCast_mul,Int.natCast_add,Int.toNat_of_nonneg U,Int.toNat_of_nonneg D,Int.mul_comm]
   omega
 have aa:∃r w',(∀(Z:TypeId),(Builtin.append_ #[T,T] Z #[v,u]).run P w= .ok r w')/\w'.ownsRow w0.heap.size E s r (n.toNat+m.toNat) (cellsOf c (n.toNat*s)++cellsOf d (m.toNat*s))/\w.grownBy w' v.ownBlock/\(r.ownBlock=v.ownBlock\/∀g,r.ownBlock=some g->w.heap.size<=g):=by
   obtain⟨_,aj,a,cap,rfl,h⟩:=hu.cf
   have ag:(cellsOf d (m.toNat*s)).length=m.toNat*s:=ZY _ _
   cases a with
   | some ad=>
     have ez:∀j t,(cellsOf d (m.toNat*s))[j]? =some t->w.cell? (ad.add j)=some t:=by
       intro j t F
       rw [cellsOf_get] at F
       split at F
       · rename_i hlt
         have e':((m.toNat*s:Nat):Int)=m*s:=by rw [Int.natCast_mul,Int.toNat_of_nonneg D]
         have:=hu.2 j Oa
         cases F
         rw [<-this]
         rcases h with h|⟨b',off,h⟩
         · subst h;simp at hlt
         · cases h;rw [Addr.add_eq _ rfl];simp [cad]
       · cases F
     have qm:∀t∈cellsOf d (m.toNat*s),t.oneCell'=true:=by
       intro t ht
       obtain⟨j,F⟩:=List.getElem?_of_mem ht
       rw [cellsOf_get] at F
       split at F
       · rename_i hlt
         have e':((m.toNat*s:Nat):Int)=m*s:=by rw [Int.natCast_mul,Int.toNat_of_nonneg D]
         cases F;exact h1 j Oa Oa
       · cases F
     obtain⟨r,w',hr,W,O,J⟩:=Zay (P:=P) w w0.heap.size T E i X s b I hi ab ac ah hz hs v n.toNat _ Y ad m.toNat cap _ ag ez qm (by unfold maxLen;omega) eb V.size 0
     refine⟨r,w',fun Z=> ?_,W,O,J⟩
     rw [<-hr];rfl
   | none=>
     have hm:m=0:=by rcases h with h|⟨_,_,h⟩;exact h;cases h
     subst hm
     refine⟨v,w,fun Z=> ?_,by simpa [cellsOf] using Y,⟨rfl,rfl,rfl,Nat.le_refl _,fun _ _ _=>rfl⟩,.inl rfl⟩
     obtain⟨_,⟨rfl,_⟩|⟨g,cp,cur,rfl,_,G,af,_⟩⟩:=Y
     · simp [Builtin.append_,run_underlying I,sizeOf,typeInfo,hi,Builtin.lenOf,Builtin.firstCells]
     · simp [Builtin.append_,run_underlying I,sizeOf,typeInfo,hi,Builtin.lenOf,Builtin.firstCells,af,storeCells]
 obtain⟨r,w',hr,W,O,J⟩:=aa
 rw [Zek U D,en] at W
 have hE:(Ent.own r s E (n+m) (cat (n*s) c d)).holds w':=Ent.holds.ic Oa ae W
 refine⟨r,w',fun ρ h=> ?_,?_,hE.row.cf⟩
 · simp [execOp,ho,resolve,invoke,builtin,h _ _ hx,h _ _ hy,hr]
 · exact V.turn (fun k hl hk=>O.block k hl (fun e=>hk e.symm)) O.tape O.os O.output O.size hE (fun g G=>by
     simp only [Ent.has] at G⊢
     rcases J with J|J
     · exact .inl (by rw [<-J];exact G)
     · exact .inr (J g G))
end
end Go.Proofs.Gw
namespace Go.Proofs.Gw
open Go Go.RowKit
section
variable {P:Program} {ops:Array Oper} {Q:Exit->Act->World->Prop} {S A:World->Prop} {brk:Nat}
def SA(S A:World->Prop)(brk:Nat)(listed:Array Bool)(w:World):Prop:=(listed.getD brk false=false->S w)/\A w
def wpB (P:Program) (ops:Array Oper) (Q:Exit->Act->World->Prop) (S A:World->Prop) (brk:Nat):Nat->Array Bool->Act->World->Prop
  |0,listed,a,w=>Region.ready .any ops listed= []/\Q .normal a w
  | fuel+1,listed,a,w=>
    (Region.ready .any ops listed= []->Q .normal a w)/\
    ∀i∈Region.ready .any ops listed,wpOp P ops Q i (fun a' w'=>SA S A brk (listed.setIfInBounds i true) w'/\wpB P ops Q S A brk fuel (listed.setIfInBounds i true) a' w') a w
theorem VG:∀(fuel:Nat) (listed:Array Bool) (a:Act) (w:World),wpB P ops Q S A brk fuel listed a w->wpAny P .any ops Q fuel listed a w
 |0,_,_,_,h=>h
 |fuel+1,_,_,_,h=>⟨h.1,fun i hi=>wpOp_mono (fun F w' D=>VG fuel _ F w' D.2) (h.2 i hi)⟩
theorem WH{listed:Array Bool}{i j:Nat}(b:Bool)(h:i≠j):(listed.setIfInBounds i true).getD j b=listed.getD j b:=by
 simp only [Array.getD_eq_getD_getElem?,Array.getElem?_setIfInBounds_ne h]
def Closed(ops:Array Oper)(listed:Array Bool):Prop:=
  listed.size=ops.size/\∀j oj,ops[j]? =some oj->listed.getD j false=true->∀e∈oj.after,Region.binds .any e=true->listed.getD e.on false=true
theorem Closed.start:Closed ops (Array.replicate ops.size false):=⟨by simp,fun j F _ D=>by
 rw [getD_replicate_false] at D;cases D⟩
theorem Closed.set{listed:Array Bool}{i:Nat}(h:Closed ops listed)(hi:i∈Region.ready .any ops listed):Closed ops (listed.setIfInBounds i true):=by
 obtain⟨_,oi,F,U⟩:=mem_ready.1 hi
 refine⟨by simp [h.1],fun j G D I e J O=> ?_⟩
 by_cases hij:i=j
 · subst hij
   have:G=oi:=Option.some.inj (D.symm.trans F)
   subst this
   exact getD_set_true (U e J O)
 · rw [WH false hij] at I
   exact getD_set_true (h.2 j G D I e J O)
def KH(ops:Array Oper)(brk i:Nat):Bool:=
  Region.waitsFor .any ops brk i||(List.range ops.size).any fun m=>Region.waitsFor .any ops brk m&&(Region.waitsFor .any ops m i||(List.range ops.size).any fun m'=>Region.waitsFor .any ops m m'&&Region.waitsFor .any ops m' i)
theorem Closed.wait{listed:Array Bool}(h:Closed ops listed){j i:Nat}(G:Region.waitsFor .any ops j i=true)(I:listed.getD j false=true):listed.getD i false=true:=by
 obtain⟨F,D,e,J,O,rfl⟩:=Region.waitsFor_spec G
 exact h.2 j F D I e J O
theorem Closed.waits{listed:Array Bool}(h:Closed ops listed){j i:Nat}(D:KH ops j i=true)(J:listed.getD j false=true):listed.getD i false=true:=by
 unfold KH at D
 rw [Bool.or_eq_true] at D
 rcases D with D|D
 · exact h.wait D J
 · obtain⟨m,_,G⟩:=List.any_eq_true.1 D
   rw [Bool.and_eq_true,Bool.or_eq_true] at G
   have h1:=h.wait G.1 J
   rcases G.2 with I|I
   · exact h.wait I h1
   · obtain⟨O,_,F⟩:=List.any_eq_true.1 I
     rw [Bool.and_eq_true] at F
     exact h.wait F.2 (h.wait F.1 h1)
theorem SA.up{listed:Array Bool}{w:World}{i:Nat}(h:SA S A brk listed w)(D:i≠brk):SA S A brk (listed.setIfInBounds i true) w:=⟨fun F=>h.1 (by rw [WH false D] at F;exact F),h.2⟩
theorem SA.down{listed:Array Bool}{w:World}{i:Nat}(h:SA S A brk (listed.setIfInBounds i true) w)(D:i≠brk):SA S A brk listed w:=⟨fun F=>h.1 (by rw [WH false D];exact F),h.2⟩
theorem Vj {S':World->Prop} {i:Nat} {G:Oper} {v:Value} (hi:ops[i]? =some G) (fI:∀(j:Nat) (o:Oper) cs b,ops[j]? =some o->o.op≠ .select cs b)
   (hQ:∀c a w,Q (.panic c) (a.put G.dst v) w->Q (.panic c) a w) (J:i≠brk)
   (Z:∀(listed:Array Bool) (w:World),Closed ops listed->listed.getD i true=false->SA S A brk listed w->S' w):
   ∀ (fuel:Nat) (listed:Array Bool) (a:Act) (w:World),
     (∀j F,ops[j]? =some F->j≠i->listed.getD j true=false->(∀e∈F.after,Region.binds .any e=true->e.on≠i)->G.apart ops F=true)->
     i∈Region.ready .any ops listed->YieldsIf P ops S' G v a->Closed ops listed->SA S A brk listed w->
     wpB P ops Q S A brk fuel (listed.setIfInBounds i true) (a.put G.dst v) w->wpB P ops Q S A brk (fuel+1) listed a w:=by
 intro fuel
 induction fuel with
 | zero=>
   intro listed a w _ hr Y D X H
   refine⟨fun h=>(by rw [h] at hr;cases hr),fun j U=> ?_⟩
   by_cases hji:j=i
   · subst hji;exact Y.wpOp hi (Z _ _ D (mem_ready.1 hr).1 X) ⟨X.up J,H⟩
   · have:=ready_mono U hji
     rw [H.1] at this
     cases this
 | succ fuel ih=>
   intro listed a w dw hr Y D X H
   refine⟨fun h=>(by rw [h] at hr;cases hr),fun j U=> ?_⟩
   by_cases hji:j=i
   · subst hji;exact Y.wpOp hi (Z _ _ D (mem_ready.1 hr).1 X) ⟨X.up J,H⟩
   · have h1:=H.2 j (ready_mono U hji)
     obtain⟨gF,F,I,qa⟩:=mem_ready.1 U
     have d8:∀e∈F.after,Region.binds .any e=true->e.on≠i:=fun e he hb ad=>by
       have h1:=qa e he hb
       have h0:=(mem_ready.1 hr).1
       rw [ad] at h1
       rcases Nat.lt_or_ge i listed.size with h'|h'
       · simp [h'] at h0 h1;rw [h0] at h1;cases h1
       · simp [Array.getElem?_eq_none h'] at h1
     have h2:=wpOp_putIf I (dw j F I hji gF d8) (fun cs b=>fI i G cs b hi) (fun cs b=>fI j F cs b I) hQ Y h1
     have ep:∀k ok,ops[k]? =some ok->k≠i->(listed.setIfInBounds j true).getD k true=false->
         (∀e∈ok.after,Region.binds .any e=true->e.on≠i)->G.apart ops ok=true:=fun k ok Z ac O ab=>by
       refine dw k ok Z ac ?_ ab
       by_cases hjk:j=k
       · subst hjk;exact gF
       · rw [getD_set_ne true hjk] at O;exact O
     have gQ:(listed.setIfInBounds i true).setIfInBounds j true=(listed.setIfInBounds j true).setIfInBounds i true:=Array.setIfInBounds_comm _ _ (Ne.symm hji)
     refine wpOp_mono (fun a' w' h3=> ?_) h2
     obtain⟨aa,W,h4⟩:=h3
     rw [gQ] at W h4
     have V:SA S A brk (listed.setIfInBounds j true) w':=W.down J
     exact⟨V,ih (listed.setIfInBounds j true) a' w' ep (ready_mono hr (Ne.symm hji)) aa (D.set U) V h4⟩
theorem ZeJ{listed:Array Bool}{a:Act}{w:World}(hr:Region.ready .any ops listed= [])(h:Q .normal a w):∀fuel,wpB P ops Q S A brk fuel listed a w
 |0=>⟨hr,h⟩
 |_+1=>⟨fun _=>h,by rw [hr];simp⟩
end
section
variable {P:Program} {l:List Oper} {Q:Exit->Act->World->Prop} {S A:World->Prop} {brk:Nat} {a:Act} {w:World} {n:Nat} {ds:List Deferred} {L:List (Nat×Value)} {o:Oper} {listed:Array Bool} {fuel i:Nat}
theorem ZfT{id:Nat}(S A:World->Prop)(brk:Nat)(D:P.follows .mixedOrders=true)(F:S w.drew)(G:A w.drew)(hn:l.length=fuel)
   (h:S w.drew->A w.drew->Closed l.toArray (Array.replicate fuel false)->wpB P l.toArray (NoPanic Q) S A brk fuel (Array.replicate fuel false) a w.drew):(Code.region id l.toArray true).wp P Q a w:=by
 subst hn
 refine wp_region_noPanic (wp_region_any D ?_)
 have:=h F G (by have:=Closed.start (ops:=l.toArray);simpa using this)
 have I:=VG _ _ _ _ this
 simpa using I
theorem We{v:Value}{D:Option Tmp}:∀c (a:Act) (w:World),NoPanic Q (.panic c) (a.put D v) w->NoPanic Q (.panic c) a w:=fun _ _ _ h=>h.elim
def WG(l:List Oper)(listed:Array Bool)(i:Nat):Bool:=Region.noSelect l.toArray&&Region.free .any l.toArray listed i&&(Region.ready .any l.toArray listed).contains i
theorem Runs.j6(D:Fr a n ds L){S':World->Prop}(F:Want l L o true){v:Value}(hr:∀w,S' w->Runs P L w o (.value v) w):YieldsIf P l.toArray S' o v a:=
 .inl ⟨F.wanted D,fun w G=>hr w G _ D.iu⟩
theorem WN(hc:Closed l.toArray listed)(D:WG l listed i=true):Closed l.toArray (listed.setIfInBounds i true):=by
 unfold WG at D
 rw [Bool.and_eq_true,Bool.and_eq_true] at D
 exact hc.set (by simpa using D.2)
theorem ZkF{d:Nat}{v:Value}(V:Fr a n ds L)(hc:Closed l.toArray listed)(U:SA S A brk listed w)(i:Nat)(hi:l[i]? =some o)(X:Want l L o true)(hd:o.dst=some d)(I:Nat.blt d n=true)(D:WG l listed i=true)(G:Nat.beq i brk=false)
   (hr:∀w,Runs P L w o (.value v) w)
   (K:∀W,Fr W n ds ((d,v)::L)->Closed l.toArray (listed.setIfInBounds i true)->SA S A brk (listed.setIfInBounds i true) w->wpB P l.toArray (NoPanic Q) S A brk fuel (listed.setIfInBounds i true) W w):wpB P l.toArray (NoPanic Q) S A brk (fuel+1) listed a w:=by
 have O:i≠brk:=fun e=>by subst e;simp at G
 have J:=WN hc D
 unfold WG at D
 rw [Bool.and_eq_true,Bool.and_eq_true] at D
 have F:l.toArray[i]? =some o:=by simpa using hi
 refine Vj (S':=fun _=>True) F (Region.noSelect_spec D.1.1) We O (fun _ _ _ _ _=>trivial) fuel listed a w (Region.free_spec F D.1.2) (by simpa using D.2) (Runs.j6 V X fun w _=>hr w) hc U ?_
 have:=K _ (V.put (by simpa [Nat.blt_eq] using I) v) J (U.up O)
 rw [hd];exact this
theorem ZkG{d:Nat}(V:Fr a n ds L)(hc:Closed l.toArray listed)(U:SA S A brk listed w)(i:Nat)(hi:l[i]? =some o)(X:Want l L o false)(hd:o.dst=some d)(I:Nat.blt d n=true)(D:WG l listed i=true)(G:Nat.beq i brk=false)
   (K:∀W,Fr W n ds ((d,undef)::L)->Closed l.toArray (listed.setIfInBounds i true)->SA S A brk (listed.setIfInBounds i true) w->wpB P l.toArray (NoPanic Q) S A brk fuel (listed.setIfInBounds i true) W w):wpB P l.toArray (NoPanic Q) S A brk (fuel+1) listed a w:=by
 have O:i≠brk:=fun e=>by subst e;simp at G
 have J:=WN hc D
 unfold WG at D
 rw [Bool.and_eq_true,Bool.and_eq_true] at D
 have F:l.toArray[i]? =some o:=by simpa using hi
 refine Vj (S':=fun _=>True) F (Region.noSelect_spec D.1.1) We O (fun _ _ _ _ _=>trivial) fuel listed a w (Region.free_spec F D.1.2) (by simpa using D.2) (.inr ⟨X.wanted V,rfl⟩) hc U ?_
 have:=K _ (V.put (by simpa [Nat.blt_eq] using I) undef) J (U.up O)
 rw [hd];exact this
theorem Ziq {d:Nat} {v:Value} (hF:Fr a n ds L) (hc:Closed l.toArray listed) (hS:SA S A brk listed w) (i:Nat) (hi:l[i]? =some o) (hg:Want l L o true) (hd:o.dst=some d) (V:Nat.blt d n=true) (F:WG l listed i=true) (U:Nat.beq i brk=false)
   (D:(Nat.ble l.length brk||KH l.toArray brk i)=true) (hr:∀w,S w->Runs P L w o (.value v) w)
   (K:∀a',Fr a' n ds ((d,v)::L)->Closed l.toArray (listed.setIfInBounds i true)->SA S A brk (listed.setIfInBounds i true) w->wpB P l.toArray (NoPanic Q) S A brk fuel (listed.setIfInBounds i true) a' w):wpB P l.toArray (NoPanic Q) S A brk (fuel+1) listed a w:=by
 have Z:i≠brk:=fun e=>by subst e;simp at U
 have W:=WN hc F
 unfold WG at F
 rw [Bool.and_eq_true,Bool.and_eq_true] at F
 have I:l.toArray[i]? =some o:=by simpa using hi
 refine Vj (S':=S) I (Region.noSelect_spec F.1.1) We Z (fun ls w' J G X=>X.1 ?_) fuel listed a w (Region.free_spec I F.1.2) (by simpa using F.2) (Runs.j6 hF hg hr) hc hS ?_
 · rw [Bool.or_eq_true] at D
   rcases D with D|D
   · have hb:l.length<=brk:=Nat.le_of_ble_eq_true D
     have O:=J.1
     rw [Array.getD_eq_getD_getElem?,Array.getElem?_eq_none (by rw [O];simpa using hb)];rfl
   · cases hq:ls.getD brk false with
     |false=>rfl
     | true=>
       have h1:=J.waits D hq
       rcases Nat.lt_or_ge i ls.size with Y|Y
       · simp [Y] at G h1;rw [G] at h1;cases h1
       · simp [Array.getElem?_eq_none Y] at h1
 have:=K _ (hF.put (by simpa [Nat.blt_eq] using V) v) W (hS.up Z)
 rw [hd];exact this
theorem ZfU{d:Nat}{v:Value}(W:Fr a n ds L)(hc:Closed l.toArray listed)(V:SA S A brk listed w)(i:Nat)(hi:l[i]? =some o)(Z:Want l L o true)(hd:o.dst=some d)(I:Nat.blt d n=true)(D:WG l listed i=true)(G:Nat.beq i brk=false)
   (hr:∀w,A w->Runs P L w o (.value v) w)
   (K:∀X,Fr X n ds ((d,v)::L)->Closed l.toArray (listed.setIfInBounds i true)->SA S A brk (listed.setIfInBounds i true) w->wpB P l.toArray (NoPanic Q) S A brk fuel (listed.setIfInBounds i true) X w):wpB P l.toArray (NoPanic Q) S A brk (fuel+1) listed a w:=by
 have U:i≠brk:=fun e=>by subst e;simp at G
 have J:=WN hc D
 unfold WG at D
 rw [Bool.and_eq_true,Bool.and_eq_true] at D
 have F:l.toArray[i]? =some o:=by simpa using hi
 refine Vj (S':=A) F (Region.noSelect_spec D.1.1) We U (fun ls w' aa Y O=>O.2) fuel listed a w (Region.free_spec F D.1.2) (by simpa using D.2) (Runs.j6 W Z hr) hc V ?_
 have:=K _ (W.put (by simpa [Nat.blt_eq] using I) v) J (V.up U)
 rw [hd];exact this
theorem KG(hc:Closed l.toArray listed)(i:Nat)(hr:Region.ready .any l.toArray listed= [i])(h:Closed l.toArray (listed.setIfInBounds i true)->wpOp P l.toArray (NoPanic Q) i (fun G w'=>SA S A brk (listed.setIfInBounds i true) w'/\wpB P l.toArray (NoPanic Q) S A brk fuel (listed.setIfInBounds i true) G w') a w):
   wpB P l.toArray (NoPanic Q) S A brk (fuel+1) listed a w:=
 ⟨fun F=>(by rw [hr] at F;cases F),fun j D=>by
   rw [hr] at D
   obtain rfl:=List.mem_singleton.1 D
   exact h (hc.set (by rw [hr];exact D))⟩
theorem ZkH{d:Nat}{R:Value->World->Prop}(O:Fr a n ds L)(hc:Closed l.toArray listed)(i:Nat)(hi:l[i]? =some o)(V:Want l L o true)(hd:o.dst=some d)(G:Nat.blt d n=true)(D:Region.ready .any l.toArray listed= [i])(hr:∃v w',Runs P L w o (.value v) w'/\R v w')
   (K:∀v w',R v w'->∀U,Fr U n ds ((d,v)::L)->Closed l.toArray (listed.setIfInBounds i true)->SA S A brk (listed.setIfInBounds i true) w'/\(SA S A brk (listed.setIfInBounds i true) w'->wpB P l.toArray (NoPanic Q) S A brk fuel (listed.setIfInBounds i true) U w')):wpB P l.toArray (NoPanic Q) S A brk (fuel+1) listed a w:=by
 refine KG hc i D fun I=> ?_
 obtain⟨v,w',hr,W⟩:=hr
 have F:l.toArray[i]? =some o:=by simpa using hi
 unfold wpOp
 rw [F]
 simp only [V.wanted O,if_true]
 refine .inl ?_
 unfold Oper.wp
 rw [hr _ O.iu,Oper.upon_value,hd]
 have J:=K v w' W _ (O.put (by simpa [Nat.blt_eq] using G) v) I
 exact⟨J.1,J.2 J.1⟩
theorem Zis{R:World->Prop}(J:Fr a n ds L)(hc:Closed l.toArray listed)(i:Nat)(hi:l[i]? =some o)(O:Want l L o true)(hd:o.dst=none)(D:Region.ready .any l.toArray listed= [i])(hr:∃w',Runs P L w o .skip w'/\R w')
   (K:∀w',R w'->Closed l.toArray (listed.setIfInBounds i true)->SA S A brk (listed.setIfInBounds i true) w'/\(SA S A brk (listed.setIfInBounds i true) w'->wpB P l.toArray (NoPanic Q) S A brk fuel (listed.setIfInBounds i true) a w')):wpB P l.toArray (NoPanic Q) S A brk (fuel+1) listed a w:=by
 refine KG hc i D fun G=> ?_
 obtain⟨w',hr,U⟩:=hr
 have F:l.toArray[i]? =some o:=by simpa using hi
 unfold wpOp
 rw [F]
 simp only [O.wanted J,if_true]
 refine .inl ?_
 unfold Oper.wp
 rw [hr _ J.iu,Oper.upon_skip,hd]
 have I:=K w' U G
 exact⟨I.1,I.2 I.1⟩
theorem Ziu{d:Nat}{f:FuncId}{args:Array Value}{R:Value->World->Prop}(O:Fr a n ds L)(hc:Closed l.toArray listed)(i:Nat)(hi:l[i]? =some o)(W:Want l L o true)(hd:o.dst=some d)(G:Nat.blt d n=true)(D:Region.ready .any l.toArray listed= [i])(hr:Runs P L w o (.enter f args) w)
   (V:Calls P f args w fun e w'=>∃v,e= .returned v/\R v w')
   (K:∀v w',R v w'->∀U,Fr U n ds ((d,v)::L)->Closed l.toArray (listed.setIfInBounds i true)->SA S A brk (listed.setIfInBounds i true) w'/\(SA S A brk (listed.setIfInBounds i true) w'->wpB P l.toArray (NoPanic Q) S A brk fuel (listed.setIfInBounds i true) U w')):wpB P l.toArray (NoPanic Q) S A brk (fuel+1) listed a w:=by
 refine KG hc i D fun I=> ?_
 have F:l.toArray[i]? =some o:=by simpa using hi
 unfold wpOp
 rw [F]
 simp only [W.wanted O,if_true]
 refine .inl ?_
 unfold Oper.wp
 rw [hr _ O.iu,Oper.upon_enter]
 refine V.mono fun e w' ⟨v,he,hR⟩=> ?_
 subst he
 rw [hd]
 have J:=K v w' hR _ (O.put (by simpa [Nat.blt_eq] using G) v) I
 exact⟨J.1,J.2 J.1⟩
def ZbN(P:Program)(l:List Oper)(Q:Exit->Act->World->Prop)(S A:World->Prop)(brk fuel:Nat)(listed:Array Bool)(a:Act)(w:World)(i:Nat):Prop:=
  Closed l.toArray (listed.setIfInBounds i true)->wpOp P l.toArray (NoPanic Q) i (fun a' w'=>SA S A brk (listed.setIfInBounds i true) w'/\wpB P l.toArray (NoPanic Q) S A brk fuel (listed.setIfInBounds i true) a' w') a w
def ZbU(P:Program)(l:List Oper)(Q:Exit->Act->World->Prop)(S A:World->Prop)(brk fuel:Nat)(listed:Array Bool)(a:Act)(w:World)(r:List Nat):Prop:=∀i∈r,ZbN P l Q S A brk fuel listed a w i
theorem Zkd:ZbU P l Q S A brk fuel listed a w []:=fun i hi=>by cases hi
theorem Zik{r:List Nat}(h:ZbN P l Q S A brk fuel listed a w i)(hr:ZbU P l Q S A brk fuel listed a w r):ZbU P l Q S A brk fuel listed a w (i::r):=fun j D=>by
 rcases List.mem_cons.1 D with rfl|D
 · exact h
 · exact hr j D
theorem Zir{r:List Nat}(hc:Closed l.toArray listed)(hn:r≠ [])(hr:Region.ready .any l.toArray listed=r)(h:ZbU P l Q S A brk fuel listed a w r):wpB P l.toArray (NoPanic Q) S A brk (fuel+1) listed a w:=
 ⟨fun F=>absurd (hr.symm.trans F) hn,fun j D=>h j (hr▸D) (hc.set D)⟩
theorem Zke{d:Nat}{R:Value->World->Prop}(J:Fr a n ds L)(i:Nat)(hi:l[i]? =some o)(U:Want l L o true)(hd:o.dst=some d)(F:Nat.blt d n=true)(hr:∃v w',Runs P L w o (.value v) w'/\R v w')
   (K:∀v w',R v w'->∀O,Fr O n ds ((d,v)::L)->Closed l.toArray (listed.setIfInBounds i true)->SA S A brk (listed.setIfInBounds i true) w'/\(SA S A brk (listed.setIfInBounds i true) w'->wpB P l.toArray (NoPanic Q) S A brk fuel (listed.setIfInBounds i true) O w')):ZbN P l Q S A brk fuel listed a w i:=fun G=>by
 obtain⟨v,w',hr,V⟩:=hr
 have D:l.toArray[i]? =some o:=by simpa using hi
 unfold wpOp
 rw [D]
 simp only [U.wanted J,if_true]
 refine .inl ?_
 unfold Oper.wp
 rw [hr _ J.iu,Oper.upon_value,hd]
 have I:=K v w' V _ (J.put (by simpa [Nat.blt_eq] using F) v) G
 exact⟨I.1,I.2 I.1⟩
theorem Zil{d:Nat}{f:FuncId}{args:Array Value}{R:Value->World->Prop}(J:Fr a n ds L)(i:Nat)(hi:l[i]? =some o)(V:Want l L o true)(hd:o.dst=some d)(F:Nat.blt d n=true)(hr:Runs P L w o (.enter f args) w)
   (U:Calls P f args w fun e w'=>∃v,e= .returned v/\R v w')
   (K:∀v w',R v w'->∀O,Fr O n ds ((d,v)::L)->Closed l.toArray (listed.setIfInBounds i true)->SA S A brk (listed.setIfInBounds i true) w'/\(SA S A brk (listed.setIfInBounds i true) w'->wpB P l.toArray (NoPanic Q) S A brk fuel (listed.setIfInBounds i true) O w')):ZbN P l Q S A brk fuel listed a w i:=fun G=>by
 have D:l.toArray[i]? =some o:=by simpa using hi
 unfold wpOp
 rw [D]
 simp only [V.wanted J,if_true]
 refine .inl ?_
 unfold Oper.wp
 rw [hr _ J.iu,Oper.upon_enter]
 refine U.mono fun e w' ⟨v,he,hR⟩=> ?_
 subst he
 rw [hd]
 have I:=K v w' hR _ (J.put (by simpa [Nat.blt_eq] using F) v) G
 exact⟨I.1,I.2 I.1⟩
theorem Zit(hr:Region.ready .any l.toArray listed= [])(h:Q .normal a w):wpB P l.toArray (NoPanic Q) S A brk fuel listed a w:=ZeJ hr (NoPanic.normal h) fuel
end
end Go.Proofs.Gw
namespace Go.Proofs.Gw
open Go Go.RowKit
theorem Yf{α:Type}{l:List α}{i:Nat}{e:α}(h:l[i]? =some e):l=l.take i++e::l.drop (i+1):=by
 induction l generalizing i with
 |nil=>simp at h
 | cons x l ih=>
   cases i with
   |zero=>simp at h;subst h;rfl
   |succ i=>simp at h;have:=ih h;simp only [List.take_succ_cons,List.drop_succ_cons,List.cons_append];rw [<-this]
theorem YN{α:Type}{l:List α}{i:Nat}{e:α}(h:l[i]? =some e)(d:α):l.set i d=l.take i++d::l.drop (i+1):=by
 induction l generalizing i with
 |nil=>simp at h
 | cons x l ih=>
   cases i with
   |zero=>rfl
   |succ i=>simp at h;have:=ih h;simp only [List.take_succ_cons,List.drop_succ_cons,List.cons_append,List.set_cons_succ];rw [<-this]
section
variable {P:Program} {L:List (Nat×Value)} {w w0:World} {o:Oper} {x y:Operand} {T:TypeId} {l:List Ent}
theorem Sat.gw(h:Sat w0 w l)(i:Nat){g:Nat}{cs:List Value}{k:Nat}{v:Value}(hi:l[i]? =some (.blk g cs))(D:cs[k]? =some v):w.cell? ⟨g,k,none⟩=some v:=
 (h.holds _ (List.mem_of_getElem? hi)).cell D
theorem Sat.c7(h:Sat w0 w l)(i:Nat){v:Value}{s:Nat}{E:TypeId}{n:Int}{c:Int->Value}(hi:l[i]? =some (.own v s E n c)):Row w v s n c:=
 (h.holds _ (List.mem_of_getElem? hi)).row
theorem Zbu(i:Nat){g k:Nat}{cs:List Value}{v:Value}(G:o.op= .load T x)(F:ZR P T=true)(D:evL L x=some (.pointer (some ⟨g,k,none⟩)))(J:Sat w0 w l)(hi:l[i]? =some (.blk g cs))(I:cs[k]? =some v):Runs P L w o (.value v) w:=
 Zah G F D (J.gw i hi I)
theorem Zag(i:Nat){g:Nat}{cs:List Value}{k:Nat}(G:o.op= .load T x)(F:ZC P T=some k)(D:evL L x=some (Oq g))(J:Sat w0 w l)(hi:l[i]? =some (.blk g cs))(I:cs.length=k):Runs P L w o (.value (.agg cs.toArray)) w:=
 Up G (by rw [F,I]) D (J.holds _ (List.mem_of_getElem? hi)).cells
theorem Zbs{s:Nat}{n k:Int}{c:Int->Value}{v u:Value}(G:o.op= .load T x)(F:ZR P T=true)(D:evL L x=some (.pointer (some (cad v k))))(I:Row w v s n c)(J:0<=k)(h1:k<n*s)(e:c k=u):Runs P L w o (.value u) w:=
 Zah G F D (by rw [<-e];exact I.cell J h1)
theorem ZjY(i:Nat){g k:Nat}{cs:List Value}{v u:Value}(J:o.op= .store T x y)(I:ZR P T=true)(U:Sat w0 w l)(hi:l[i]? =some (.blk g cs))(G:evL L x=some (.pointer (some ⟨g,k,none⟩)))(F:evL L y=some v)
   (hv:v.oneCell'=true) (O:cs[k]? =some u):∃w',Runs P L w o .skip w'/\Sat w0 w' (l.set i (.blk g (cs.set k v))):=by
 have D:=U
 rw [Yf hi] at D
 rw [YN hi]
 exact Zae J I D G F hv O
theorem ZhF(i:Nat){g k:Nat}{cs ds:List Value}(W:o.op= .store T x y)(V:ZC P T=some k)(I:Sat w0 w l)(hi:l[i]? =some (.blk g cs))(U:evL L x=some (Oq g))(O:evL L y=some (.agg ds.toArray))
   (G:(cs.length,ds.length)=(k,k)) (hd:∀v∈ds,v.oneCell'=true):∃w',Runs P L w o .skip w'/\Sat w0 w' (l.set i (.blk g ds)):=by
 have h1:cs.length=k:=congrArg Prod.fst G
 have J:ds.length=k:=congrArg Prod.snd G
 subst h1
 obtain⟨_,F⟩:=Xy (w:=w) V
 obtain⟨E,Y⟩:=I.holds _ (List.mem_of_getElem? hi)
 obtain⟨w',h3,h4,h5,h6,h7,Z,h9⟩:=TF (P:=P) g E ds 0 cs w Y Oa hd
 refine⟨w',fun ρ h=> ?_,?_⟩
 · simp [execOp,W,h _ _ U,h _ _ O,Instr.storeAt,Instr.sureAddr,storeVar,Value.cells,F,J,h3]
 · have D:=I
   rw [Yf hi] at D
   rw [YN hi]
   refine D.turn (fun j _ X=>h5 j (fun e=>X (by rw [e];rfl))) h6 h7 Z Oa ⟨E,?_⟩ (fun _ h=> .inl h)
   rw [h4,List.take_zero,Nat.zero_add,J,List.drop_length];simp
theorem ZjX(i:Nat){v u:Value}{s:Nat}{E:TypeId}{n k:Int}{c d:Int->Value}(J:o.op= .store T x y)(I:ZR P T=true)(O:Sat w0 w l)(hi:l[i]? =some (.own v s E n c))(G:evL L x=some (.pointer (some (cad v k))))(F:evL L y=some u)
   (hv:u.oneCell'=true) (U:0<=k) (h1:k<n*s) (e:upd c k u=d):∃w',Runs P L w o .skip w'/\Sat w0 w' (l.set i (.own v s E n d)):=by
 subst e
 have D:=O
 rw [Yf hi] at D
 rw [YN hi]
 exact Zad J I D G F hv U h1
theorem Zm0(i:Nat){v u:Value}{E:TypeId}{s b:Nat}{n m r:Int}{c d f:Int->Value}{G:Value}(X:o.op= .call {callee:= .builtin .append,args:= #[x,y],argTypes:= #[T,T]})(V:ZJ P T=some (E,s))(Y:ZV P E=some (G,s,b))(I:G.cells.size=s)(W:0<s)
   (hS:Sat w0 w l) (hi:l[i]? =some (.own v s E n c)) (O:evL L x=some v) (J:evL L y=some u) (U:Row w u s m d) (h1:∀k,0<=k->k<m*s->(d k).oneCell'=true) (hr:r=n+m) (Z:b*(n+m)<=140737488355328) (F:n+m<=140737488355328) (e:cat (n*s) c d=f):
   ∃q w',Runs P L w o (.value q) w'/\Sat w0 w' (l.set i (.own q s E r f))/\Slh q r:=by
 subst e;subst hr
 have D:=hS
 rw [Yf hi] at D
 obtain⟨q,w',h2,h3,h4⟩:=Kd X V Y I W D O J U h1 Z F
 exact⟨q,w',h2,by rw [YN hi];exact h3,h4⟩
end
theorem Slh.one{v:Value}{n:Int}(h:Slh v n):v.oneCell'=true:=by
 obtain⟨_,_,a,cap,rfl,_⟩:=h;rfl
theorem Zh:∀v∈([]:List Value),v.oneCell'=true:=by simp
theorem Za{v:Value}{vs:List Value}(h:v.oneCell'=true)(F:∀u∈vs,u.oneCell'=true):∀u∈v::vs,u.oneCell'=true:=fun u D=>by
 rcases List.mem_cons.1 D with rfl|D
 · exact h
 · exact F u D
theorem slh_nil:Slh Og 0:=⟨by omega,Oa,none,0,rfl,.inl rfl⟩
theorem Sat.gi{w w0:World}{l:List Ent}(i:Nat){v:Value}{s:Nat}{E:TypeId}{n:Int}{c d:Int->Value}(h:Sat w0 w l)(hi:l[i]? =some (.own v s E n c))(e:∀k,0<=k->k<n*s->c k=d k):Sat w0 w (l.set i (.own v s E n d)):=by
 have F:=h
 rw [Yf hi] at F
 rw [YN hi]
 have I:=F.get
 have J:=List.pairwise_append.1 F.sep
 have G:=List.pairwise_cons.1 J.2.1
 refine⟨F.below,fun x D=> ?_,fun x D g I=> ?_,List.pairwise_append.2 ⟨J.1,List.pairwise_cons.2 ⟨fun x D=>G.1 x D,G.2⟩,fun x D y O=> ?_⟩⟩
 · rcases List.mem_append.1 D with D|D
   · exact F.holds x (by simp [D])
   · rcases List.mem_cons.1 D with rfl|D
     · exact I.congr e
     · exact F.holds x (by simp [D])
 · rcases List.mem_append.1 D with D|D
   · exact F.new x (by simp [D]) g I
   · rcases List.mem_cons.1 D with rfl|D
     · exact F.new (.own v s E n c) (by simp) g I
     · exact F.new x (by simp [D]) g I
 · rcases List.mem_cons.1 O with rfl|O
   · exact J.2.2 x D (.own v s E n c) (by simp)
   · exact J.2.2 x D y (by simp [O])
theorem Sat.cg{w w0:World}{l:List Ent}(h:Sat w0 w l)(s:Nat)(E:TypeId)(c:Int->Value):Sat w0 w (l++ [.own Og s E 0 c]):=by
 refine h.comp (m:= [.own Og s E 0 c]) ⟨Below.refl _ _,?_,?_,List.pairwise_singleton _ _⟩
 · intro e D
   obtain rfl:=List.mem_singleton.1 D
   exact⟨by omega,Oa,.inl ⟨rfl,rfl⟩⟩
 · intro e D g F
   obtain rfl:=List.mem_singleton.1 D
   simp [Ent.has,Value.ownBlock] at F
def InK(k:IntKind)(n:Int):Prop:=match k with
  | .i64=> -9223372036854775808<=n/\n<=9223372036854775807
  | .u8=>0<=n/\n<=255
  | .u16=>0<=n/\n<=65535
  | .u32=>0<=n/\n<=4294967295
  | .u64=>0<=n/\n<=18446744073709551615
  |_=>False
theorem InK.wrap{k:IntKind}{n:Int}(h:InK k n):k.wrap n=n:=by
 by_cases hk:k= .i64
 · subst hk;exact I64.wrap h
 cases k<;>simp only [InK] at h<;>(first|exact h.elim|exact absurd rfl hk|skip)<;>simp only [IntKind.wrap,IntKind.bits,IntKind.signed,Bool.false_and,Bool.false_eq_true,if_false]<;>(try split)<;>omega
theorem Zip{P:Program}{L:List (Nat×Value)}{w:World}{o:Oper}{x:Operand}{S D:TypeId}{k F:IntKind}{n:Int}(O:o.op= .convert S D x)(J:(P.underlying S).isSome=true)(hd:P.underlying D=some (.int F))(I:evL L x=some (.int k n))(hr:InK F n):Runs P L w o (.value (.int F n)) w:=fun ρ h=>by
 obtain⟨d,G⟩:=Option.isSome_iff_exists.mp J
 have e:(convert S D (.int k n)).run P w= .ok (.int F (F.wrap n)) w:=by simp [convert,run_underlying G,run_underlying hd,Conv.intToInt]
 rw [hr.wrap] at e
 simp [execOp,O,h _ _ I,e]
section
variable {Q:Exit->Act->World->Prop} {K:Act->World->Prop} {a:Act} {w:World} {id j:Nat}
theorem Zic(h:Q .normal a w):Exit.inBlock id Q (.exit id) a w:=by
 show if id=id then _ else _
 rw [if_pos rfl];exact h
theorem Zfn(D:Nat.beq j id=false)(h:Q (.exit j) a w):Exit.inBlock id Q (.exit j) a w:=by
 show if j=id then _ else _
 rw [if_neg (fun e=>by subst e;simp at D)];exact h
end
def num:Nat->List Value->List (Nat×Value)
  |_, []=> []
  |k,v::r=>(k,v)::num (k+1) r
theorem Zaa:∀(vs:List Value) (k t:Nat) (v:Value),lk (num k vs) t=some v->k<=t/\vs[t-k]? =some v
 | [],_,_,_,h=>by simp [num,lk] at h
 | u ::r,k,t,v,h=>by
   simp only [num,lk] at h
   by_cases e:k=t
   · subst e
     rw [Nat.beq_refl] at h
     simp only [cond_true,Option.some.injEq] at h
     subst h
     simp
   · rw [Zfc e] at h
     obtain⟨h1,D⟩:=Zaa r (k+1) t v h
     refine⟨by omega,?_⟩
     obtain⟨d,rfl⟩:∃d,t=k+1+d:=⟨t-(k+1),Oa⟩
     have G:k+1+d-k=d+1:=Oa
     have F:k+1+d-(k+1)=d:=Oa
     rw [G];rw [F] at D
     simpa using D
theorem enter{P:Program}{f:FuncId}{fn:Func}{c:Code}{n:Nat}{w:World}{vs:List Value}{R:Ending->World->Prop}(hf:P.funcs[f]? =some fn)(F:fn.body=some c)(hn:fn.ntmps=n)(hv:Nat.ble vs.length n=true)
   (h:∀a,Fr a n [] (num 0 vs)->c.wp P (bodyPost P fn R) a w):Calls P f vs.toArray w R:=
 ZbB hf F hn (Fr.enter (vs:=vs.toArray) (by simpa using Nat.le_of_ble_eq_true hv) fun t v D=>by
   have:=(Zaa vs 0 t v D).2
   simpa using this) h
theorem ZkA{P:Program}{f:FuncId}{fn:Func}{c:Code}{n:Nat}{w0:World}{vs:List Value}{R:Ending->World->Prop}(hf:P.funcs[f]? =some fn)(D:fn.body=some c)(hn:fn.ntmps=n)(hv:Nat.ble vs.length n=true)
   (h:∀a w,Sat w0 w []->Fr a n [] (num 0 vs)->c.wp P (bodyPost P fn R) a w):Calls P f vs.toArray w0 R:=
 enter hf D hn hv fun a F=>h a w0 (Sat.start w0) F
section
variable {P:Program} {L:List (Nat×Value)} {w w0:World} {o:Oper} {x:Operand}
theorem ZfL{g:FuncId}{D:Array Operand}{ts:Array TypeId}{vs:List Value}(I:o.op= .call {callee:= .value x,args:=D,argTypes:=ts})(F:evL L x=some (.func (.func g) #[] #[]))(G:Zc P g=true)(J:UU L D vs):Runs P L w o (.enter g vs.toArray) w:=
 Zdm I F G J (by simp)
theorem ZfK{g:FuncId}{D:Array Operand}{ts:Array TypeId}{vs cap:List Value}(I:o.op= .call {callee:= .value x,args:=D,argTypes:=ts})(F:evL L x=some (.func (.func g) #[] cap.toArray))(G:Zc P g=true)(J:UU L D vs):Runs P L w o (.enter g (vs++cap).toArray) w:=
 Zdm I F G J (by simp)
def ZdQ(L:List (Nat×Value))(ps:List (Nat×Operand))(pv:List (Nat×Value)):Prop:=∀ρ,Agr L ρ->(ps.map fun x=>(x.1,ρ x.2))=pv
theorem Zj3:ZdQ L [] []:=fun _ _=>rfl
theorem Zcd{i:Nat}{v:Value}{F:List (Nat×Operand)}{pv:List (Nat×Value)}(G:evL L x=some v)(h:ZdQ L F pv):ZdQ L ((i,x)::F) ((i,v)::pv):=fun ρ D=>by
 rw [List.map_cons,h ρ D,D x v G]
theorem Zh9{p:Prop}{w':World}(h:Runs P L w o (.value (B p)) w')(D:p):Runs P L w o (.value (.bool true)) w':=by rw [<-ZP D];exact h
theorem Zia{p:Prop}{w':World}(h:Runs P L w o (.value (B p)) w')(D:¬p):Runs P L w o (.value (.bool false)) w':=by rw [<-B_false D];exact h
theorem Znq{fn:Func}{R:Ending->World->Prop}{a:Act}{n:Nat}(D:Fr a n [] L)(hr:fn.results= #[])(h:R (.returned (.tuple #[])) w):bodyPost P fn R .ret a w:=
 ⟨D.defers,_,by rw [results_none hr],h⟩
theorem KQ{fn:Func}{t u s:Tmp}(h:fn.results= #[.tmp t,.tmp u,.tmp s])(tmps:Array Value)(P:Program)(w:World):
   (results fn tmps).run P w= .ok (.tuple #[tmps.getD t undef,tmps.getD u undef,tmps.getD s undef]) w:=by
 simp [results,h]
theorem Zoy{fn:Func}{R:Ending->World->Prop}{a:Act}{n t u s:Nat}{v x y:Value}(D:Fr a n [] L)(hr:fn.results= #[.tmp t,.tmp u,.tmp s])(hv:lk L t=some v)(G:lk L u=some x)(F:lk L s=some y)(h:R (.returned (.tuple #[v,x,y])) w):bodyPost P fn R .ret a w:=
 ⟨D.defers,_,by rw [KQ hr,D.get t v hv,D.get u x G,D.get s y F],h⟩
theorem Zkf(i:Nat){l:List Ent}{fn:Func}{R:Ending->World->Prop}{a:Act}{n s t g k:Nat}{T:TypeId}{v:Value}{cs:List Value}(D:Fr a n [] L)(hr:fn.results= #[.cell s T,.tmp t])(J:lk L s=some (Oq g))(hv:lk L t=some v)
   (I:ZC P T=some k) (U:Sat w0 w l) (hi:l[i]? =some (.blk g cs)) (O:cs.length=k) (h:R (.returned (.tuple #[.agg cs.toArray,v])) w):bodyPost P fn R .ret a w:=by
 refine⟨D.defers,_,?_,h⟩
 subst O
 obtain⟨h1,W⟩:=Xy (w:=w) I
 have V:=run_loadCells_list (P:=P) w ⟨g,0,none⟩ cs (U.holds _ (List.mem_of_getElem? hi)).cells
 have G:=D.get s _ J
 have F:=D.get t _ hv
 rw [Array.getD_eq_getD_getElem?] at G F
 simp [results,hr,G,F,asAddr,loadVar,h1,W,V]
theorem Znp(i:Nat){l:List Ent}{fn:Func}{R:Ending->World->Prop}{a:Act}{n s g k:Nat}{T:TypeId}{cs:List Value}(D:Fr a n [] L)(hr:fn.results= #[.cell s T])(I:lk L s=some (Oq g))
   (G:ZC P T=some k) (O:Sat w0 w l) (hi:l[i]? =some (.blk g cs)) (J:cs.length=k) (h:R (.returned (.agg cs.toArray)) w):bodyPost P fn R .ret a w:=by
 refine⟨D.defers,_,?_,h⟩
 subst J
 obtain⟨h1,V⟩:=Xy (w:=w) G
 have U:=run_loadCells_list (P:=P) w ⟨g,0,none⟩ cs (O.holds _ (List.mem_of_getElem? hi)).cells
 have F:=D.get s _ I
 rw [Array.getD_eq_getD_getElem?] at F
 simp [results,hr,F,asAddr,loadVar,h1,V,U]
end
end Go.Proofs.Gw
namespace Go.Proofs.Gw
open Go Go.RowKit
section
variable {P:Program} {L:List (Nat×Value)} {w w0:World} {o:Oper} {x y z:Operand} {T T':TypeId} {l:List Ent}
def Zoq(P:Program)(t:TypeId)(name:String)(f:FuncId):Prop:=∀(v:Value) (args:Array Value) (w:World),(callMethod (.iface t v) name args).run P w= .ok (.enter f (#[v]++args)) w
theorem Rp(i:Nat){g k m:Nat}{cs ds:List Value}(G:o.op= .load T x)(F:ZC P T=some m)(D:evL L x=some (.pointer (some ⟨g,k,none⟩)))(O:Sat w0 w l)(hi:l[i]? =some (.blk g cs))(I:ds.length=m)(hd:(cs.drop k).take m=ds):
   Runs P L w o (.value (.agg ds.toArray)) w:=by
 subst I
 refine Up G F D fun j v hv=> ?_
 rw [Addr.add_eq _ rfl]
 have J:j<ds.length:=(List.getElem?_eq_some_iff.1 hv).1
 rw [<-hd,List.getElem?_take_of_lt J,List.getElem?_drop] at hv
 exact O.gw i hi hv
theorem Zaf{s:Nat}{n k:Int}{c:Int->Value}{v:Value}{cs:List Value}{m:Nat}(J:o.op= .load T x)(I:ZC P T=some m)(G:evL L x=some (.pointer (some (cad v k))))(F:Row w v s n c)(V:0<=k)(h1:k+m<=n*s)(U:cs.length=m)(O:0<m)
   (e:∀(j:Nat) u,cs[j]? =some u->c (k+j)=u):Runs P L w o (.value (.agg cs.toArray)) w:=by
 subst U
 refine Up J I G fun j u D=> ?_
 have W:j<cs.length:=(List.getElem?_eq_some_iff.1 D).1
 have hn:0<n:=by
   rcases Int.lt_or_le 0 n with h|h
   · exact h
   · have:n*s<=0:=Int.mul_nonpos_of_nonpos_of_nonneg h Oa
     omega
 rw [ZdC F.cf V hn,<-e j u D]
 exact F.cell Oa Oa
theorem Zbt{a:Addr}{v:Value}(G:o.op= .load T x)(F:ZR P T=true)(D:evL L x=some (.pointer (some a)))(hc:w0.cell? a=some v)(I:Sat w0 w l):Runs P L w o (.value v) w:=
 Zah G F D (by rw [I.below.cell (World.block_lt_of_cell? w0 _ hc)];exact hc)
theorem UK(f:Oe)(n:Nat):cellsOf (ints f) n=((List.range n).map fun(k:Nat)=>f k).map (Value.int .i64):=by
 unfold cellsOf ints
 rw [List.map_map];rfl
def ZB(f:Oe)(n:Int):List Int:=(List.range n.toNat).map fun(k:Nat)=>f k
theorem Ye(f:Oe)(n:Int):(ZB f n).length=n.toNat:=by simp [ZB]
theorem VN{f:Oe}{n a:Int}:a∈ZB f n↔∃k,0<=k/\k<n/\f k=a:=by
 unfold ZB
 rw [List.mem_map]
 constructor
 · rintro⟨k,hk,rfl⟩
   rw [List.mem_range] at hk
   exact⟨k,Oa,Oa,rfl⟩
 · rintro⟨k,h0,h1,rfl⟩
   exact⟨k.toNat,List.mem_range.2 Oa,by rw [Int.toNat_of_nonneg h0]⟩
def ZeG(l:List Int):Oe:=fun k=>l.getD k.toNat 0
theorem Zbe(l:List Int):ZB (ZeG l) l.length=l:=by
 unfold ZB ZeG
 apply List.ext_getElem?
 intro i
 by_cases h:i<l.length
 · simp [h]
 · simp [h]
theorem ZcA(l:List Int)(n:Nat)(h:n<=l.length):cellsOf (ints (ZeG l)) n=(l.take n).map (Value.int .i64):=by
 rw [UK]
 congr 1
 unfold ZeG
 apply List.ext_getElem?
 intro i
 rw [List.getElem?_take]
 by_cases hi:i<n
 · have:i<l.length:=Oa
   simp [hi,this]
 · simp [hi]
open Go.Sort in
theorem Sat.put{l1 l2:List Ent}{g cap q:Nat}{E:TypeId}{n:Int}{f:Oe}{ts:List Int}{os:Array Obj}(h:Sat w0 w (l1++ .own (.slice (some ⟨g,0,none⟩) n.toNat cap) 1 E n (ints f)::l2))(J:ts.length=n.toNat):
   Sat w0 (grow (putRow (Value.int .i64) (Sort.ahead w q) g 0 ts.toArray) os) (l1++ .own (.slice (some ⟨g,0,none⟩) n.toNat cap) 1 E n (ints (ZeG ts))::l2):=by
 obtain⟨Y,h1,⟨hv,_⟩|⟨g',I,cur,hv,U,X,W,V,Z⟩⟩:=h.get
 · cases hv
 · cases hv
   have D:=grownBy_sortedI (w:=w) (g:=g) (n:=q) (os:=os) ts.toArray
   have F:(ZB f n).length=n.toNat:=Ye f n
   refine h.turn (fun k O G=>D.block k O (fun e=>G (show some g=some k from e.symm))) D.tape D.os D.output D.size ?_ (fun _ h=> .inl h)
   refine Ent.holds.ic (base:=0) Y h1 ?_
   have:=ownsRow_sortedI (w:=w) (base:=0) (g:=g) (cap:=cap) (n:=q) (e:=E) (os:=os) (cur:=cur) (ss:=ZB f n) (ts:=ts) (by rw [F,J]) (Nat.zero_le _) U (by rw [F];exact X) W (by rw [V])
   rw [F] at this
   rw [Nat.mul_one,ZcA ts n.toNat Oa,List.take_of_length_le Oa]
   exact this
open Go.Sort in
theorem Sat.held{l1 l2:List Ent}{g cap:Nat}{E:TypeId}{n:Int}{f:Oe}(h:Sat w0 w (l1++ .own (.slice (some ⟨g,0,none⟩) n.toNat cap) 1 E n (ints f)::l2)):
   Holds (Value.int .i64) w g 0 (ZB f n).toArray/\g<w.heap.size/\(ZB f n).length<=cap/\(ZB f n).length<=maxLen:=by
 obtain⟨U,h1,⟨hv,_⟩|⟨V,F,cur,hv,D,I,O,J,G⟩⟩:=h.get
 · cases hv
 · cases hv
   refine⟨holds_of_blockI D ?_,(Array.getElem?_eq_some_iff.1 D).1,by rw [Ye];exact I,by rw [Ye];omega⟩
   rw [Ye]
   apply List.ext_getElem?
   intro i
   rw [List.getElem?_take]
   by_cases hi:i<n.toNat
   · have:=G i Oa
     simp [hi,this,ZB,ints]
   · simp [hi,ZB]
end
end Go.Proofs.Gw
namespace Go.Proofs.Gw
open Go Go.RowKit
section
variable {P:Program} {w w0:World} {l1 l2:List Ent}
open Go.Sort
end
end Go.Proofs.Gw
namespace Go.Proofs.Gw
open Go Go.RowKit
theorem gu_self{α:Type}(f:Int->α)(k:Int)(x:α):upd f k x k=x:=if_pos rfl
theorem gu_ne{α:Type}{f:Int->α}{k j:Int}{x:α}(h:j≠k):upd f k x j=f j:=if_neg h
def gsn{α:Type}(f:Int->α)(n:Int)(x:α):Int->α:=fun k=>if k<n then f k else x
theorem Zp{α:Type}{f:Int->α}{n k:Int}{x:α}(h:k<n):gsn f n x k=f k:=if_pos h
theorem Zq{α:Type}{f:Int->α}{n k:Int}{x:α}(h:¬k<n):gsn f n x k=x:=if_neg h
theorem YE{α:Type}(f:Int->α)(n:Int)(x:α):gsn f n x n=x:=if_neg Oa
theorem Xa(f:Int->Value)(n:Int)(x:Value):cat (n*1) f (fun _=>x)=gsn f n x:=by
 funext j;simp only [cat,gsn,Int.mul_one]
def Frame.rows(E:TypeId)(n:Int)(vv:Int->Value)(ln:Oe)(f:Of):Frame where
  holds w:=(∀i,0<=i->i<n->(Ent.own (vv i) 1 E (ln i) (ints (f i))).holds w)/\∀i j,0<=i->i<n->0<=j->j<n->i≠j->∀g,(vv i).ownBlock=some g->(vv j).ownBlock≠some g
  has g:=∃i,0<=i/\i<n/\(vv i).ownBlock=some g
  keep h hk:=⟨fun i i0 i1=>(h.1 i i0 i1).keep fun g hg=>hk g ⟨i,i0,i1,hg⟩,h.2⟩
  lt h hg:=by obtain⟨i,i0,i1,hg⟩:=hg;exact(h.1 i i0 i1).lt hg
section
variable {P:Program} {L:List (Nat×Value)} {w w0:World} {o:Oper} {x y z:Operand} {T T':TypeId} {l l1 l2 l3:List Ent} {E:TypeId} {n:Int} {vv:Int->Value} {ln:Oe} {f:Of}
theorem Sat.fa(h:Sat w0 w l)(E:TypeId)(vv:Int->Value)(ln:Oe)(f:Of):Sat w0 w (l++ [.sem (Frame.rows E 0 vv ln f)]):=by
 refine h.comp (m:= [.sem (Frame.rows E 0 vv ln f)]) ⟨Below.refl _ _,?_,?_,List.pairwise_singleton _ _⟩
 · intro e D
   obtain rfl:=List.mem_singleton.1 D
   exact⟨fun i _ _=>Oa,fun i _ _ _=>Oa⟩
 · intro e D g F
   obtain rfl:=List.mem_singleton.1 D
   obtain⟨i,I,G,_⟩:=F
   omega
theorem Sat.fq(h:Sat w0 w l)(i:Nat)(hi:l[i]? =some (.sem (Frame.rows E n vv ln f))){k:Int}(F:0<=k)(D:k<n):Row w (vv k) 1 (ln k) (ints (f k)):=
 ((h.holds _ (List.mem_of_getElem? hi)).1 k F D).row
theorem Sat.db(h:Sat w0 w l)(i:Nat)(hi:l[i]? =some (.sem (Frame.rows E n vv ln f))){k:Int}(F:0<=k)(D:k<n):Slh (vv k) (ln k):=(h.fq i hi F D).cf
theorem Sat.merge {v:Value} {m:Int} {g:Oe} (h:Sat w0 w (l1++ .sem (Frame.rows E n vv ln f)::(l2++ .own v 1 E m (ints g)::l3))) (hn:0<=n):Sat w0 w (l1++ .sem (Frame.rows E (n+1) (gsn vv n v) (gsn ln n m) (gsn f n g))::(l2++l3)):=by
 have hp:(l1++ .sem (Frame.rows E n vv ln f)::(l2++ .own v 1 E m (ints g)::l3)).Perm (.sem (Frame.rows E n vv ln f):: .own v 1 E m (ints g)::(l1++(l2++l3))):=by
   refine List.perm_middle.trans (.cons _ ?_)
   rw [<-List.append_assoc]
   refine List.perm_middle.trans (.cons _ ?_)
   rw [List.append_assoc]
 have Z:(l1++ .sem (Frame.rows E (n+1) (gsn vv n v) (gsn ln n m) (gsn f n g))::(l2++l3)).Perm (.sem (Frame.rows E (n+1) (gsn vv n v) (gsn ln n m) (gsn f n g))::(l1++(l2++l3))):=List.perm_middle
 have J:=h.perm hp
 refine Sat.perm ?_ Z.symm
 have hr:=J.holds (.sem (Frame.rows E n vv ln f)) (by simp)
 have ho:=J.holds (.own v 1 E m (ints g)) (by simp)
 have s1:=List.pairwise_cons.1 J.sep
 have W:=List.pairwise_cons.1 s1.2
 have O:∀i,0<=i->i<n->∀b,(vv i).ownBlock=some b->v.ownBlock≠some b:=fun i I U b D F=>s1.1 (.own v 1 E m (ints g)) (by simp) b ⟨i,I,U,D⟩ F
 have Y:∀b,(Ent.sem (Frame.rows E (n+1) (gsn vv n v) (gsn ln n m) (gsn f n g))).has b->(Ent.sem (Frame.rows E n vv ln f)).has b\/(Ent.own v 1 E m (ints g)).has b:=fun b ⟨i,I,U,D⟩=>by
   by_cases e:i<n
   · rw [Zp e] at D;exact .inl ⟨i,I,e,D⟩
   · rw [Zq e] at D;exact .inr D
 refine⟨J.below,fun e G=> ?_,fun e G b D=> ?_,List.pairwise_cons.2 ⟨fun e G b D F=> ?_,W.2⟩⟩
 · rcases List.mem_cons.1 G with rfl|G
   · refine⟨fun i I U=> ?_,fun i j I U X j1 V b D F=> ?_⟩
     · by_cases e:i<n
       · rw [Zp e,Zp e,Zp e];exact hr.1 i I e
       · rw [Zq e,Zq e,Zq e];exact ho
     · by_cases ei:i<n<;>by_cases ej:j<n
       · rw [Zp ei] at D;rw [Zp ej] at F;exact hr.2 i j I ei X ej V b D F
       · rw [Zp ei] at D;rw [Zq ej] at F;exact O i I ei b D F
       · rw [Zq ei] at D;rw [Zp ej] at F;exact O j X ej b F D
       · omega
   · exact J.holds e (by simp [G])
 · rcases List.mem_cons.1 G with rfl|G
   · rcases Y b D with D|D
     · exact J.new _ (by simp) b D
     · exact J.new (.own v 1 E m (ints g)) (by simp) b D
   · exact J.new e (by simp [G]) b D
 · rcases Y b D with D|D
   · exact s1.1 e (by simp [G]) b D F
   · exact W.1 e G b D F
theorem Sat.iz{v:Value}{m:Int}{g:Oe}(h:Sat w0 w (l1++ .own v 1 E m (ints g)::(l2++ .sem (Frame.rows E n vv ln f)::l3)))(hn:0<=n):Sat w0 w (l1++(l2++ .sem (Frame.rows E (n+1) (gsn vv n v) (gsn ln n m) (gsn f n g))::l3)):=by
 have D:(l1++ .own v 1 E m (ints g)::(l2++ .sem (Frame.rows E n vv ln f)::l3)).Perm ([]++ .sem (Frame.rows E n vv ln f)::([]++ .own v 1 E m (ints g)::(l1++(l2++l3)))):=by
   refine List.perm_middle.trans ((List.Perm.cons _ ?_).trans (List.Perm.swap _ _ _))
   rw [<-List.append_assoc]
   refine List.perm_middle.trans (.cons _ ?_)
   rw [List.append_assoc]
 have F:=(h.perm D).merge hn
 refine F.perm ?_
 have:(l1++(l2++ .sem (Frame.rows E (n+1) (gsn vv n v) (gsn ln n m) (gsn f n g))::l3)).Perm (.sem (Frame.rows E (n+1) (gsn vv n v) (gsn ln n m) (gsn f n g))::(l1++(l2++l3))):=by
   rw [<-List.append_assoc,<-List.append_assoc];exact List.perm_middle
 simpa using this.symm
theorem ZhW {v:Value} {s:Nat} {c:Int->Value} {w:World} (h:(Ent.own v s E n c).holds w) {k:Int} (Y:0<=k) (h1:k<n*s) (x:Value):
   (Ent.own v s E n (upd c k x)).holds (w.setCell (cad v k) x)/\(∀b,v.ownBlock≠some b->(w.setCell (cad v k) x).heap[b]? =w.heap[b]?)/\w.frozen? (cad v k)=false:=by
 obtain⟨j,rfl⟩:=Int.eq_ofNat_of_zero_le Y
 obtain⟨F,D,⟨rfl,rfl⟩|⟨g,cap,cur,rfl,I,X,W,V,J⟩⟩:=h
 · rw [Int.zero_mul] at h1;omega
 · refine⟨⟨F,D,.inr ⟨g,cap,cur.setIfInBounds j x,rfl,?_,X,W,by simp [V],fun i hi=> ?_⟩⟩,fun b U=>Below.heap_setCell _ _ _ _ fun e=>U (by rw [e];simp [Value.ownBlock,cad]),by simp [cad,World.frozen?,I]⟩
   · simp [World.setCell,Array.getElem?_modify,I,cad]
   · have O:=J j h1
     have G:=(Array.getElem?_eq_some_iff.1 O).1
     rw [Array.getElem?_setIfInBounds]
     by_cases e:j=i
     · subst e;simp [upd,G]
     · rw [if_neg e,J i hi]
       simp only [upd]
       rw [if_neg Oa]
theorem ZhE(i:Nat){k j a:Int}{f':Of}(ho:o.op= .store T x y)(ht:ZR P T=true)(hS:Sat w0 w l)(hi:l[i]? =some (.sem (Frame.rows E n vv ln f)))(hx:evL L x=some (.pointer (some (cad (vv k) j))))(Z:evL L y=some (.int Oh a))
   (I:0<=k) (G:k<n) (W:0<=j) (j1:j<ln k) (e:upd f k (upd (f k) j a)=f'):∃w',Runs P L w o .skip w'/\Sat w0 w' (l.set i (.sem (Frame.rows E n vv ln f'))):=by
 subst e
 have D:=hS
 rw [Yf hi] at D
 have hr:=D.get
 have X:=hr.1 k I G
 have F:j<ln k*(1:Nat):=Oa
 obtain⟨s1,O,Y⟩:=ZhW X W F (.int Oh a)
 refine⟨_,TV ho ht hx Z rfl (X.row.cell W F) Y,?_⟩
 rw [YN hi]
 refine D.turn (fun b _ J=>O b (fun hh=>J ⟨k,I,G,hh⟩)) rfl rfl rfl (by simp [World.setCell]) ⟨fun q V U=> ?_,hr.2⟩ (fun _ h=> .inl h)
 by_cases e:q=k
 · subst e;rw [gu_self,<-Zy];exact s1
 · rw [gu_ne e];exact(hr.1 q V U).keep fun b J=>O b (hr.2 q k V U I G e b J)
def Frame.gm(l:List Ent):Frame where
  holds w:=(∀e∈l,e.holds w)/\l.Pairwise Apart
  has k:=∃e∈l,e.has k
  keep h hk:=⟨fun e he=>(h.1 e he).keep fun g hg=>hk g ⟨e,he,hg⟩,h.2⟩
  lt h hg:=by obtain⟨e,he,hg⟩:=hg;exact(h.1 e he).lt hg
theorem Sat.gg(h:Sat w0 w (l1++l2)):Sat w0 w (l1++ [.sem (Frame.gm l2)]):=by
 have I:=List.pairwise_append.1 h.sep
 refine⟨h.below,fun e D=> ?_,fun e D g G=> ?_,List.pairwise_append.2 ⟨I.1,List.pairwise_singleton _ _,fun d hd e D g G F=> ?_⟩⟩
 · rcases List.mem_append.1 D with D|D
   · exact h.holds e (by simp [D])
   · obtain rfl:=List.mem_singleton.1 D
     exact⟨fun d hd=>h.holds d (by simp [hd]),I.2.1⟩
 · rcases List.mem_append.1 D with D|D
   · exact h.new e (by simp [D]) g G
   · obtain rfl:=List.mem_singleton.1 D
     obtain⟨d,hd,G⟩:=G
     exact h.new d (by simp [hd]) g G
 · obtain rfl:=List.mem_singleton.1 D
   obtain⟨x,J,F⟩:=F
   exact I.2.2 d hd x J g G F
theorem Sat.fx(h:Sat w0 w (l1++ .sem (Frame.gm l2)::l3)):Sat w0 w (l1++(l2++l3)):=by
 have J:=List.pairwise_append.1 h.sep
 have I:=List.pairwise_cons.1 J.2.1
 have V:=h.holds (.sem (Frame.gm l2)) (by simp)
 have U:∀x∈l2,∀g,x.has g->(Ent.sem (Frame.gm l2)).has g:=fun x O g F=>⟨x,O,F⟩
 refine⟨h.below,fun e D=> ?_,fun e D g F=> ?_,List.pairwise_append.2 ⟨J.1,List.pairwise_append.2 ⟨V.2,I.2,fun x O y W g F G=>I.1 y W g (U x O g F) G⟩,fun d hd e D g F G=> ?_⟩⟩
 · rcases List.mem_append.1 D with D|D
   · exact h.holds e (by simp [D])
   · rcases List.mem_append.1 D with D|D
     · exact V.1 e D
     · exact h.holds e (by simp [D])
 · rcases List.mem_append.1 D with D|D
   · exact h.new e (by simp [D]) g F
   · rcases List.mem_append.1 D with D|D
     · exact h.new (.sem (Frame.gm l2)) (by simp) g (U e D g F)
     · exact h.new e (by simp [D]) g F
 · rcases List.mem_append.1 D with D|D
   · exact J.2.2 d hd (.sem (Frame.gm l2)) (by simp) g F (U e D g G)
   · exact J.2.2 d hd e (by simp [D]) g F G
def Frame.lc (p:Prop) (F:Frame):Frame where
  holds w:=p\/F.holds w
  has k:=¬p/\F.has k
  keep:=fun {w w'} h hk=>by
    by_cases hp:p
    · exact .inl hp
    · rcases h with h|h
      · exact .inl h
      · exact .inr (F.keep h fun g hg=>hk g ⟨hp,hg⟩)
  lt:=fun {w g} h hg=>by
    rcases h with h|h
    · exact absurd h hg.1
    · exact F.lt h hg.2
theorem Sat.nk{p:Prop}(F:Frame)(G:p)(h:Sat w0 w l):Sat w0 w (l++ [.sem (Frame.lc p F)]):=by
 refine h.comp (m:= [.sem (Frame.lc p F)]) ⟨Below.refl _ _,?_,?_,List.pairwise_singleton _ _⟩
 · intro e D
   obtain rfl:=List.mem_singleton.1 D
   exact .inl G
 · intro e D g I
   obtain rfl:=List.mem_singleton.1 D
   exact absurd G I.1
theorem Sat.lm(p:Prop){F:Frame}(h:Sat w0 w (l1++ .sem F::l2)):Sat w0 w (l1++ .sem (Frame.lc p F)::l2):=by
 have O:=List.pairwise_append.1 h.sep
 have J:=List.pairwise_cons.1 O.2.1
 refine⟨h.below,fun e D=> ?_,fun e D g I=> ?_,List.pairwise_append.2 ⟨O.1,List.pairwise_cons.2 ⟨fun e D g I G=>J.1 e D g I.2 G,J.2⟩,fun d hd e D g I G=> ?_⟩⟩
 · rcases List.mem_append.1 D with D|D
   · exact h.holds e (by simp [D])
   · rcases List.mem_cons.1 D with rfl|D
     · exact .inr (h.holds (.sem F) (by simp))
     · exact h.holds e (by simp [D])
 · rcases List.mem_append.1 D with D|D
   · exact h.new e (by simp [D]) g I
   · rcases List.mem_cons.1 D with rfl|D
     · exact h.new (.sem F) (by simp) g I.2
     · exact h.new e (by simp [D]) g I
 · rcases List.mem_cons.1 D with rfl|D
   · exact O.2.2 d hd (.sem F) (by simp) g I G.2
   · exact O.2.2 d hd e (by simp [D]) g I G
def Suf(u v:Value)(q n:Int):Prop:=Slh u (n-q)/\∀k,0<=k->k<n-q->cad u k=cad v (k+q)
theorem Suf.row{u v:Value}{q:Int}{c:Int->Value}{n:Int}(h:Suf u v q n)(G:0<=q)(F:Row w v 1 n c):Row w u 1 (n-q) (fun k=>c (k+q)):=
 ⟨h.1,fun k D=>by
   have:=h.1.n0
   rw [h.2 k Oa (by simpa using D)]
   exact F.cell Oa (by simp at D⊢;omega)⟩
theorem Suf.cf{u v:Value}{q n:Int}(h:Suf u v q n):Slh u (n-q):=h.1
end
end Go.Proofs.Gw
namespace Go.Proofs.Gw
open Go Go.RowKit
def XF(v:Value)(q:Nat):Value:=match v with
  | .slice a len cap=> .slice (if cap=q then a else a.map fun x=>⟨x.block,x.off+q,none⟩) (len-q) (cap-q)
  |u=>u
def ZfX(v:Value):Value:=match v with
  | .slice a _ cap=> .slice a 0 cap
  |u=>u
def X2(v:Value):Prop:=∀a len cap,v= .slice a len cap->len<=cap
section
variable {P:Program} {L:List (Nat×Value)} {w w0:World} {o:Oper} {x y z:Operand} {T T':TypeId} {l l1 l2 l3:List Ent} {E:TypeId}
theorem Xb{v:Value}{n:Int}{q:Nat}(h:Slh v n)(hr:X2 v)(J:(q:Int)<=n):Suf (XF v q) v q n:=by
 obtain⟨O,h1,a,cap,rfl,F⟩:=h
 have hc:=hr _ _ _ rfl
 refine⟨⟨by omega,Oa,(if cap=q then a else a.map fun x=>⟨x.block,x.off+q,none⟩),cap-q,?_,?_⟩,fun k I G=> ?_⟩
 · unfold XF;dsimp only;congr 1;omega
 · rcases F with F|⟨b,off,rfl⟩
   · left;omega
   · right;by_cases D:cap=q
     · exact⟨b,off,by rw [if_pos D]⟩
     · exact⟨b,off+q,by rw [if_neg D];rfl⟩
 · rcases F with F|⟨b,off,rfl⟩
   · omega
   · have D:cap≠q:=Oa
     unfold XF cad;dsimp only
     rw [if_neg D]
     have:(k+q).toNat=k.toNat+q:=Oa
     simp [this];omega
theorem YR{v:Value}{n i:Int}{q s:Nat}(Z:o.op= .slice T x (some y) none none)(V:ZJ P T=some (E,s))(W:s=1)(O:evL L x=some v)(J:evL L y=some (.int Oh i))(hv:Slh v n)(hi:i=q)(X:1<=q)(hq:(q:Int)<=n):
   Runs P L w o (.value (XF v q)) w:=fun ρ h=>by
 subst W;subst hi
 obtain⟨U,I,F,D⟩:=Z8 V
 obtain⟨h0,h1,a,cap,rfl,G⟩:=hv
 have Y:q<=n.toNat:=Oa
 have hb:(Instr.sliceBounds true n.toNat cap (some (.int Oh (q:Int))) none none).run P w= .ok (q,n.toNat,cap) w:=by
   simp [Instr.sliceBounds,Instr.sliceBound,asIntOf]
   omega
 have e:(Instr.sliceAt T (.slice a n.toNat cap) (some (.int Oh (q:Int))) none none).run P w= .ok (XF (.slice a n.toNat cap) q) w:=by
   unfold Instr.sliceAt
   simp only [Sem.run_bind,run_underlying U,Result.andThen_ok,Instr.slice,hb]
   simp [sizeOf,typeInfo,F,D,XF]
   rcases G with G|⟨b,off,rfl⟩
   · omega
   · by_cases hc:cap=q
     · simp [hc]
     · simp [hc,Addr.add_eq]
 simp [execOp,Z,h _ _ O,h _ _ J,e]
theorem Ent.holds.roomy{v:Value}{s:Nat}{n:Int}{c:Int->Value}(h:(Ent.own v s E n c).holds w):X2 v:=fun a len cap e=>by
 obtain⟨_,_,⟨rfl,_⟩|⟨g,D,cur,rfl,_,F,_⟩⟩:=h
 · cases e;omega
 · cases e;exact F
theorem Zds{v:Value}{n:Int}(h:Slh v n):Slh (ZfX v) 0:=by
 obtain⟨_,_,a,cap,rfl,_⟩:=h
 exact⟨by omega,Oa,a,cap,rfl,.inl rfl⟩
theorem Uo{v:Value}{n:Int}{s:Nat}(V:o.op= .slice T x none (some y) none)(U:ZJ P T=some (E,s))(J:evL L x=some v)(I:evL L y=some (.int Oh 0))(hv:Slh v n):Runs P L w o (.value (ZfX v)) w:=fun ρ h=>by
 obtain⟨O,G,F,D⟩:=Z8 U
 obtain⟨Y,h1,a,cap,rfl,X⟩:=hv
 have W:(Instr.sliceBounds true n.toNat cap none (some (.int Oh 0)) none).run P w= .ok (0,0,cap) w:=by
   simp [Instr.sliceBounds,Instr.sliceBound,asIntOf]
 have e:(Instr.sliceAt T (.slice a n.toNat cap) none (some (.int Oh 0)) none).run P w= .ok (ZfX (.slice a n.toNat cap)) w:=by
   unfold Instr.sliceAt
   simp only [Sem.run_bind,run_underlying O,Result.andThen_ok,Instr.slice,W]
   simp [sizeOf,typeInfo,F,D,ZfX,Addr.add]
 simp [execOp,V,h _ _ J,h _ _ I,e]
theorem Sat.cut{v:Value}{s:Nat}{n:Int}{c:Int->Value}(i:Nat)(h:Sat w0 w l)(hi:l[i]? =some (.own v s E n c))(d:Int->Value):Sat w0 w (l.set i (.own (ZfX v) s E 0 d)):=by
 have G:=h
 rw [Yf hi] at G
 rw [YN hi]
 refine G.turn (fun _ _ _=>rfl) rfl rfl rfl (Nat.le_refl _) ?_ (fun g F=> .inl ?_)
 · obtain⟨_,_,⟨rfl,_⟩|⟨g,D,cur,rfl,F,U,O,J,_⟩⟩:=G.get
   · exact⟨by omega,Oa,.inl ⟨rfl,rfl⟩⟩
   · exact⟨by omega,Oa,.inr ⟨g,D,cur,rfl,F,Oa,O,J,fun k I=>by rw [Int.zero_mul] at I;omega⟩⟩
 · obtain⟨_,_,⟨rfl,_⟩|⟨g,D,cur,rfl,_⟩⟩:=G.get
   · exact F
   · exact F
theorem WL(I:o.op= .call {callee:= .builtin .cap,args:= #[x],argTypes:= #[T]}){s:Nat}(G:ZJ P T=some (E,s))(D:evL L x=some Og):Runs P L w o (.value (.int Oh 0)) w:=fun ρ h=>by
 obtain⟨F,_⟩:=Z8 G
 simp [execOp,I,resolve,invoke,builtin,h _ _ D,Builtin.cap_,run_underlying F]
 rfl
theorem TX{n:Int}{D:Value}{b:Nat}(ho:o.op= .call {callee:= .builtin .append,args:= #[x,y],argTypes:= #[T,T']})(ht:ZJ P T=some (E,1))(hk:P.underlying T'=some (.int .i64))(he:ZV P E=some (D,1,b))(I:D.cells= #[D])(ac:1<=b)
   (hx:evL L x=some Og) (hy:evL L y=some (.int Oh n)) (h1:1<=n) (hb:b*n<=140737488355328) (hS:Sat w0 w l):
   ∃u w',Runs P L w o (.value u) w'/\Sat w0 w' (l++ [.own u 1 E n (fun _=>D)])/\Slh u n:=by
 obtain⟨J,_⟩:=Z8 ht
 obtain⟨i,hi,G,O,F⟩:=XJ he
 have aa:n<=b*n:=by
   have:=Int.mul_le_mul_of_nonneg_right (show(1:Int)<=b by omega) (show 0<=n by omega)
   omega
 have hw:IntKind.i64.wrap n=n:=by rw [IntKind.wrap_i64];omega
 have Z:¬(281474976710656<n*(i.bytes:Int)):=by rw [F,Int.mul_comm];omega
 have V:¬n<0:=Oa
 have ab:((n.toNat*i.bytes:Nat):Int)=b*n:=by rw [Int.natCast_mul,F,Int.toNat_of_nonneg Oa,Int.mul_comm]
 have cM:¬(281474976710656<Builtin.nextslicecap n.toNat 0*i.bytes):=by rw [nextslicecap_zero Oa];omega
 have Y:¬(9223372036854775807<(n.toNat:Int)):=Oa
 have U:¬n.toNat=0:=Oa
 have d7:¬n.toNat*i.size=0:=by rw [O];omega
 have hr:∀ty,(Builtin.append_ #[T,T'] ty #[Og,.int Oh n]).run P w= .ok (.slice (some ⟨w.heap.size,0,none⟩) n.toNat (grownCap w n.toNat 0 E)) (w.drew.alloc (.cells (Builtin.zeroCells D.cells n.toNat++Builtin.zeroCells D.cells (grownCap w n.toNat 0 E-n.toNat)) E)):=fun ty=>by
   simp [Builtin.append_,run_underlying J,run_underlying hk,sizeOf,typeInfo,zeroValue,hi,G,asInt,asIntOf,hw,V,Z,U,cM,Y,Question.forced,newRow,grownCap,Builtin.firstCells,d7]
   rw [if_neg Oa,if_neg Oa]
 have X:=grownCap_ge w n.toNat 0 E
 have W:=grownCap_le_maxLen w n.toNat 0 E (by unfold maxLen;omega)
 have hE:(Ent.own (.slice (some ⟨w.heap.size,0,none⟩) n.toNat (grownCap w n.toNat 0 E)) 1 E n (fun _=>D)).holds (w.drew.alloc (.cells (Builtin.zeroCells D.cells n.toNat++Builtin.zeroCells D.cells (grownCap w n.toNat 0 E-n.toNat)) E)):=by
   refine⟨by omega,Oa,.inr ⟨_,_,_,rfl,by have:=heap_alloc_new w.drew (.cells (Builtin.zeroCells D.cells n.toNat++Builtin.zeroCells D.cells (grownCap w n.toNat 0 E-n.toNat)) E);simpa using this,X,W,?_,fun k hk=> ?_⟩⟩
   · simp [Builtin.zeroCells,I];omega
   · have:k<n.toNat:=Oa
     rw [Array.getElem?_append_left (by simp [Builtin.zeroCells,I];omega)]
     simp [Builtin.zeroCells,I,this,Nat.mod_one]
 refine⟨_,_,fun ρ h=> ?_,hS.draw.alloc _ hE (fun g hg=>by simp [Ent.has,Value.ownBlock] at hg;simp [hg]),hE.row.cf⟩
 simp [execOp,ho,resolve,invoke,builtin,h _ _ hx,h _ _ hy,hr]
theorem Uq {v u:Value} {n:Int} {c d:Int->Value} (i:Nat) (ho:o.op= .call {callee:= .builtin .copy,args:= #[x,y],argTypes:= #[T,T']}) (U:ZJ P T=some (E,1)) (hx:evL L x=some v) (hy:evL L y=some u) (hS:Sat w0 w l) (hi:l[i]? =some (.own v 1 E n c)) (hR:Row w u 1 n d) (h1:∀k,0<=k->k<n->(d k).oneCell'=true):
   ∃r w',Runs P L w o (.value r) w'/\r= .int Oh n/\Sat w0 w' (l.set i (.own v 1 E n d)):=by
 obtain⟨hu,aa,Y,V⟩:=Z8 U
 have G:=hS
 rw [Yf hi] at G
 rw [YN hi]
 have yV:(P.info? E).map (·.size)=some 1:=by rw [Y];simp [V]
 have Z:=G.get
 have ab:=hR.cf.n0
 obtain⟨_,_,a,cap,rfl,I⟩:=hR.cf
 have done:∀{w':World} (r:Value),(Builtin.copy_ #[T,T'] 0 #[v,.slice a n.toNat cap]).run P w= .ok r w'->Runs P L w o (.value r) w':=fun r hr ρ h=>by
   have W:∀ty,(Builtin.copy_ #[T,T'] ty #[v,.slice a n.toNat cap])=Builtin.copy_ #[T,T'] 0 #[v,.slice a n.toNat cap]:=fun _=>rfl
   simp [execOp,ho,resolve,invoke,builtin,h _ _ hx,h _ _ hy,W,hr]
 by_cases h0:n=0
 · subst h0
   have O:∃p q s,v= .slice p q s/\q=0:=by
     obtain⟨_,_,⟨rfl,_⟩|⟨g,D,cur,rfl,_⟩⟩:=Z
     · exact⟨_,_,_,rfl,rfl⟩
     · exact⟨_,_,_,rfl,rfl⟩
   obtain⟨p,q,s,rfl,rfl⟩:=O
   have hr:=run_copy_none (P:=P) w T T' 0 E p a 0 s 0 cap hu yV rfl
   have h2:=G.turn (d:= .own (.slice p 0 s) 1 E 0 c) (e:= .own (.slice p 0 s) 1 E 0 d) (fun _ _ _=>rfl) rfl rfl rfl (Nat.le_refl _) (Z.congr fun k k0 k1=>by rw [Int.zero_mul] at k1;omega) (fun _ h=> .inl h)
   exact⟨_,_,done _ hr,rfl,h2⟩
 · rcases I with I|⟨b,off,rfl⟩
   · exact absurd I h0
   · obtain⟨_,_,⟨rfl,I⟩|⟨g,D,cur,rfl,hh,h2,h3,h4,h5⟩⟩:=Z
     · exact absurd I h0
     · have J:=ZY d n.toNat
       have hr:=run_copy_row (P:=P) w T T' 0 E g 0 n.toNat D ⟨b,off,none⟩ n.toNat cap cur E (cellsOf d n.toNat) hu yV hh (by rw [J];exact(Nat.min_self _).symm) (fun j t F=>by
         rw [cellsOf_get] at F
         split at F
         · rename_i hlt
           cases F
           have:=hR.2 j Oa
           rw [Addr.add_eq _ rfl]
           simpa [cad] using this
         · cases F) (by rw [J,h4];omega) (fun t U=>by
         obtain⟨j,F⟩:=List.getElem?_of_mem U
         rw [cellsOf_get] at F
         split at F
         · cases F;exact h1 _ Oa Oa
         · cases F)
       rw [J] at hr
       refine⟨_,_,done _ hr,by simp [goInt];omega,?_⟩
       refine G.turn (fun k _ hk=> ?_) rfl rfl rfl (by simp [World.setRow]) ⟨by omega,Oa,.inr ⟨g,D,_,rfl,setRow_heap w g cur _ E _ hh,h2,h3,?_,fun k hk=> ?_⟩⟩ (fun _ h=> .inl h)
       · have:k≠g:=fun e=>hk (by rw [e];rfl)
         simp [World.setRow,Array.getElem?_modify,Ne.symm this]
       · simp [J,h4];omega
       · have X:k<n.toNat:=Oa
         simp [List.getElem?_append,X,cellsOf]
end
theorem Slh.cells{v:Value}{n:Int}(h:Slh v n):v.cells= [v].toArray:=by
 obtain⟨_,_,a,cap,rfl,_⟩:=h;rfl
theorem Zu(n:Int)(f g:Oe):cat (n*1) (ints f) (ints g)=ints (cat n f g):=by rw [Int.mul_one,Zgs]
theorem Vs{l1 l2 m:List Ent}{a:Ent}(h:(l1++l2).Perm m):(l1++a::l2).Perm (a::m):=List.perm_middle.trans (.cons _ h)
theorem Te(w:World)(s:Nat)(c:Int->Value):Row w Og s 0 c:=⟨slh_nil,fun k D=>by rw [Int.zero_mul] at D;omega⟩
theorem KP{fn:Func}{t u s r:Tmp}(h:fn.results= #[.tmp t,.tmp u,.tmp s,.tmp r])(tmps:Array Value)(P:Program)(w:World):
   (results fn tmps).run P w= .ok (.tuple #[tmps.getD t undef,tmps.getD u undef,tmps.getD s undef,tmps.getD r undef]) w:=by
 simp [results,h]
theorem Zox{P:Program}{L:List (Nat×Value)}{w:World}{fn:Func}{R:Ending->World->Prop}{a:Act}{n t u s r:Nat}{v x y z:Value}(D:Fr a n [] L)(hr:fn.results= #[.tmp t,.tmp u,.tmp s,.tmp r])(hv:lk L t=some v)(I:lk L u=some x)(G:lk L s=some y)(F:lk L r=some z)(h:R (.returned (.tuple #[v,x,y,z])) w):bodyPost P fn R .ret a w:=
 ⟨D.defers,_,by rw [KP hr,D.get t v hv,D.get u x I,D.get s y G,D.get r z F],h⟩
theorem Sat.gj{w w0:World}{l:List Ent}{E:TypeId}{n:Int}{vv vv':Int->Value}{ln ln':Oe}{f f':Of}(i:Nat)(h:Sat w0 w l)(hi:l[i]? =some (.sem (Frame.rows E n vv ln f)))(e:∀k,0<=k->k<n->vv k=vv' k/\ln k=ln' k/\∀j,0<=j->j<ln k->f k j=f' k j):Sat w0 w (l.set i (.sem (Frame.rows E n vv' ln' f'))):=by
 have I:=h
 rw [Yf hi] at I
 rw [YN hi]
 refine I.turn (fun _ _ _=>rfl) rfl rfl rfl (Nat.le_refl _) ?_ (fun g Z=> .inl ?_)
 · have hr:=I.get
   refine⟨fun k F D=> ?_,fun p q V U O J G g=> ?_⟩
   · obtain⟨e1,e2,e3⟩:=e k F D
     rw [<-e1,<-e2]
     exact(hr.1 k F D).congr fun j X W=>by unfold ints;rw [e3 j X (by simpa using W)]
   · rw [<-(e p V U).1,<-(e q O J).1];exact hr.2 p q V U O J G g
 · obtain⟨k,F,D,Y⟩:=Z
   exact⟨k,F,D,by rw [(e k F D).1];exact Y⟩
end Go.Proofs.Gw
namespace Go.Proofs.Gw
open Go Go.RowKit
section
variable {P:Program} {l rest:List Oper} {Q Q':Exit->Act->World->Prop} {w w' w0:World} {o:Oper} {n d:Nat} {ds:List Deferred} {L M:List (Nat×Value)} {x y:Code} {c:Operand} {e:Exit} {p:Prop}
def Gl(P:Program)(n:Nat)(ds:List Deferred)(l:List Oper)(Q:Exit->Act->World->Prop)(rest:List Oper)(L:List (Nat×Value))(w:World):Prop:=∀a,Fr a n ds L->wpList P l.toArray Q rest a w
def Gc(P:Program)(n:Nat)(ds:List Deferred)(Q:Exit->Act->World->Prop)(x:Code)(L:List (Nat×Value))(w:World):Prop:=∀a,Fr a n ds L->x.wp P Q a w
def Ge(n:Nat)(ds:List Deferred)(Q:Exit->Act->World->Prop)(e:Exit)(L:List (Nat×Value))(w:World):Prop:=∀a,Fr a n ds L->Q e a w
def gdB (l:List Oper) (L:List (Nat×Value)) (o:Oper):Option Bool:=
  match o.guard with
  |none=>some true
  | some (j,p)=>
    match l[j]? with
    |none=>none
    | some oj=>
      match oj.dst with
      |none=>none
      | some dj=>
        match lk L dj with
        |some (.bool t)=>some (t==p)
        |some (.tuple t)=>if t.size=0 then some false else none
        |_=>none
theorem Yl {b:Bool} (h:gdB l L o=some b):Want l L o b:=by
 unfold gdB at h
 split at h
 · rename_i D;cases h;exact .free D
 · rename_i j p D
   split at h
   · cases h
   · rename_i J G
     split at h
     · cases h
     · rename_i O hd
       split at h
       · rename_i t F;exact .on D G hd F (by injection h)
       · rename_i t F
         split at h
         · rename_i I
           injection h with h;subst h
           have:t= #[]:=Array.eq_empty_of_size_eq_zero I
           subst this
           exact .off D G hd F
         · cases h
       · cases h
theorem zlv{v:Value}(hr:Runs P L w o (.value v) w')(K:Gl P n ds l Q rest ((d,v)::L) w')(F:gdB l L o=some true:=by exact rfl)(hd:o.dst=some d:=by exact rfl)(D:Nat.blt d n=true:=by exact rfl):Gl P n ds l Q (o::rest) L w:=
 fun _ G=>Zfh G (Yl F) hd D hr K
theorem Rk{v:Value}(F:gdB l L o=some true)(hd:o.dst=some d)(D:Nat.blt d n=true)(hr:Runs P L w o (.value v) w')(K:Gl P n ds l Q rest ((d,v)::L) w'):Gl P n ds l Q (o::rest) L w:=zlv hr K F hd D
theorem zlo(K:Gl P n ds l Q rest ((d,undef)::L) w)(F:gdB l L o=some false:=by exact rfl)(hd:o.dst=some d:=by exact rfl)(D:Nat.blt d n=true:=by exact rfl):Gl P n ds l Q (o::rest) L w:=
 fun _ G=>Zj6 G (Yl F) hd D K
theorem zla{R:Value->World->Prop}(hr:∃v w',Runs P L w o (.value v) w'/\R v w')(K:∀v w',R v w'->Gl P n ds l Q rest ((d,v)::L) w')(F:gdB l L o=some true:=by exact rfl)(hd:o.dst=some d:=by exact rfl)(D:Nat.blt d n=true:=by exact rfl):Gl P n ds l Q (o::rest) L w:=
 fun _ G=>Zj8 G (Yl F) hd D hr K
theorem KA{R:Value->World->Prop}(F:gdB l L o=some true)(hd:o.dst=some d)(D:Nat.blt d n=true)(hr:∃v w',Runs P L w o (.value v) w'/\R v w')(K:∀v w',R v w'->Gl P n ds l Q rest ((d,v)::L) w'):Gl P n ds l Q (o::rest) L w:=zla hr K F hd D
theorem zle{R:World->Prop}(hr:∃w',Runs P L w o .skip w'/\R w')(K:∀w',R w'->Gl P n ds l Q rest L w')(F:gdB l L o=some true:=by exact rfl)(hd:o.dst=none:=by exact rfl):Gl P n ds l Q (o::rest) L w:=
 fun a D=>Zh4 D (Yl F) hd hr fun w' h=>K w' h a D
theorem zlc{f:FuncId}{args:Array Value}{R:Value->World->Prop}(hr:Runs P L w o (.enter f args) w)(hc:Calls P f args w fun e w'=>∃v,e= .returned v/\R v w')(K:∀v w',R v w'->Gl P n ds l Q rest ((d,v)::L) w')
   (F:gdB l L o=some true:=by exact rfl) (hd:o.dst=some d:=by exact rfl) (D:Nat.blt d n=true:=by exact rfl):Gl P n ds l Q (o::rest) L w:=
 fun _ G=>Zh5 G (Yl F) hd D hr hc K
theorem zln(K:Ge n ds Q .normal L w):Gl P n ds l Q [] L w:=K
theorem zlb(d:Nat)(F:p->Gl P n ds l Q rest ((d,.bool true)::L) w)(hf:¬p->Gl P n ds l Q rest ((d,.bool false)::L) w)(hd:lk L d=some (B p):=by exact rfl):Gl P n ds l Q rest L w:=
 fun _ G=>ZdM G hd (fun D h=>F D _ h) (fun D h=>hf D _ h)
theorem ZbV(d:Nat){u v:Value}(e:v=u)(K:Gl P n ds l Q rest ((d,u)::L) w)(hd:lk L d=some v:=by exact rfl):Gl P n ds l Q rest L w:=fun a D=>K a (D.as hd e)
def Sub(L M:List (Nat×Value)):Prop:=∀t v,lk M t=some v->lk L t=some v
theorem Tq:Sub L []:=fun t v h=>by simp [lk] at h
theorem zpk{t:Nat}{v:Value}(h:lk L t=some v)(hM:Sub L M):Sub L ((t,v)::M):=fun s u D=>by
 simp only [lk] at D
 by_cases e:t=s
 · subst e
   rw [Nat.beq_refl] at D
   simp only [cond_true,Option.some.injEq] at D
   subst D;exact h
 · rw [Zfc e] at D
   exact hM s u D
theorem Fr.sub{a:Act}(h:Fr a n ds L)(hM:Sub L M):Fr a n ds M:=⟨h.size,h.defers,fun t v D=>h.get t v (hM t v D)⟩
theorem zsq(h:Gc P n ds (Exit.then (y.wp P Q) Q) x L w):Gc P n ds Q (.seq x y) L w:=fun a D=>wp_seq (h a D)
theorem zrg{id:Nat}(h:Gl P n ds l Q l L w):Gc P n ds Q (.region id l.toArray false) L w:=fun a D=>wp_region_lit (h a D)
theorem Ze(F:p->Gc P n ds Q x L w)(hf:¬p->Gc P n ds Q y L w)(hc:evL L c=some (B p):=by exact rfl):Gc P n ds Q (.cond c x y) L w:=fun a D=>Znu D hc (fun h=>F h a D) fun h=>hf h a D
theorem zct(h:Gc P n ds Q x L w)(hc:evL L c=some (.bool true):=by exact rfl):Gc P n ds Q (.cond c x y) L w:=fun a D=>ZoC D hc (h a D)
theorem zcf(h:Gc P n ds Q y L w)(hc:evL L c=some (.bool false):=by exact rfl):Gc P n ds Q (.cond c x y) L w:=fun a D=>ZoD D hc (h a D)
theorem zsk(h:Ge n ds Q .normal L w):Gc P n ds Q .skip L w:=fun a D=>wp_skip (h a D)
theorem zrt(h:Ge n ds Q .ret L w):Gc P n ds Q .ret L w:=fun a D=>wp_ret (h a D)
theorem zxt{id:Nat}(h:Ge n ds Q (.exit id) L w):Gc P n ds Q (.exit id) L w:=fun a D=>wp_exit (h a D)
theorem zbk{id:Nat}(h:Gc P n ds (Exit.inBlock id Q) x L w):Gc P n ds Q (.block id x) L w:=fun a D=>wp_block (h a D)
theorem ztn(h:Gc P n ds Q y L w):Ge n ds (Exit.then (y.wp P Q) Q') .normal L w:=h
theorem ztx{id:Nat}{K:Act->World->Prop}(h:Ge n ds Q (.exit id) L w):Ge n ds (Exit.then K Q) (.exit id) L w:=h
theorem ztr{K:Act->World->Prop}(h:Ge n ds Q .ret L w):Ge n ds (Exit.then K Q) .ret L w:=h
theorem zbn{id:Nat}(h:Ge n ds Q .normal L w):Ge n ds (Exit.inBlock id Q) .normal L w:=h
theorem zbr{id:Nat}(h:Ge n ds Q .ret L w):Ge n ds (Exit.inBlock id Q) .ret L w:=h
theorem zbh{id:Nat}(h:Ge n ds Q .normal L w):Ge n ds (Exit.inBlock id Q) (.exit id) L w:=fun a D=>Zic (h a D)
theorem zbm{id j:Nat}(h:Ge n ds Q (.exit j) L w)(D:Nat.beq j id=false:=by exact rfl):Ge n ds (Exit.inBlock id Q) (.exit j) L w:=fun a F=>Zfn D (h a F)
theorem zlp(J:Nat->List (Nat×Value)->World->Prop){m:Nat}(O:J m M w)(D:∀m M w,J m M w->Gc P n ds (Exit.then (fun a w=>∃G,G<m/\∃F,J G F w/\Fr a n ds F) Q) x M w)
   (hM:Sub L M:=by repeat' first|exact Tq|refine zpk rfl ?_):Gc P n ds Q (.loop x) L w:=fun a I=>
 Ziy (fun m a w=>∃M,J m M w/\Fr a n ds M) ⟨M,O,I.sub hM⟩ fun m a w ⟨F,hJ,hF'⟩=>D m F w hJ a hF'
theorem zlq{J:Nat->List (Nat×Value)->World->Prop}{m D:Nat}(G:J D M w)(hlt:D<m:=by omega)(hM:Sub L M:=by repeat' first|exact Tq|refine zpk rfl ?_):Ge n ds (Exit.then (fun a w=>∃D,D<m/\∃F,J D F w/\Fr a n ds F) Q) .normal L w:=
 fun a I=>⟨D,hlt,M,G,I.sub hM⟩
theorem WR(J:List (Nat×Value)->World->Prop)(h:Gc P n ds (Exit.then (fun a w=>∃M,J M w/\Fr a n ds M) (fun e a w=>e≠ .normal/\Q e a w)) x L w)(k:∀M w,J M w->Ge n ds Q .normal M w):Gc P n ds Q x L w:=
 fun a D=>ZkI (fun a w=>∃M,J M w/\Fr a n ds M) (h a D) fun a w ⟨M,hJ,hF'⟩=>k M w hJ a hF'
theorem zgj{J:List (Nat×Value)->World->Prop}(D:J M w)(hM:Sub L M:=by repeat' first|exact Tq|refine zpk rfl ?_):Ge n ds (Exit.then (fun a w=>∃M,J M w/\Fr a n ds M) Q) .normal L w:=fun a F=>⟨M,D,F.sub hM⟩
theorem zenG{f:FuncId}{fn:Func}{vs:List Value}{R:Ending->World->Prop}(hf:P.funcs[f]? =some fn)(hn:fn.ntmps=n)(K:∀w,Sat w0 w []->Gc P n [] (bodyPost P fn R) x (num 0 vs) w)(D:fn.body=some x:=by exact rfl)(hv:Nat.ble vs.length n=true:=by exact rfl):Calls P f vs.toArray w0 R:=
 ZkA hf D hn hv fun a w F G=>K w F a G
theorem zenF{f:FuncId}{fn:Func}{vs:List Value}{R:Ending->World->Prop}(hf:P.funcs[f]? =some fn)(hn:fn.ntmps=n)(K:Gc P n [] (bodyPost P fn R) x (num 0 vs) w)(D:fn.body=some x:=by exact rfl)(hv:Nat.ble vs.length n=true:=by exact rfl):Calls P f vs.toArray w R:=
 enter hf D hn hv fun a F=>K a F
variable {fn:Func} {R:Ending->World->Prop}
theorem XP(h:R (.returned (.tuple #[])) w)(hr:fn.results= #[]:=by exact rfl):Ge n [] (bodyPost P fn R) .normal L w:=fun _ D=>Znq D hr h
theorem zf0(h:R (.returned (.tuple #[])) w)(hr:fn.results= #[]:=by exact rfl):Ge n [] (bodyPost P fn R) .ret L w:=fun _ D=>Znq D hr h
theorem zf1{t:Nat}{v:Value}(h:R (.returned v) w)(hr:fn.results= #[.tmp t]:=by exact rfl)(hv:lk L t=some v:=by exact rfl):Ge n [] (bodyPost P fn R) .ret L w:=fun _ D=>ZoA D hr hv h
theorem Oi{t:Nat}{v:Value}{Q:Value->World->Prop}(h:Q v w)(hr:fn.results= #[.tmp t]:=by exact rfl)(hv:lk L t=some v:=by exact rfl):Ge n [] (bodyPost P fn fun e w=>∃v,e= .returned v∧Q v w) .ret L w:=zf1 ⟨_,rfl,h⟩ hr hv
theorem zf2{t u:Nat}{v z:Value}(h:R (.returned (.tuple #[v,z])) w)(hr:fn.results= #[.tmp t,.tmp u]:=by exact rfl)(hv:lk L t=some v:=by exact rfl)(D:lk L u=some z:=by exact rfl):Ge n [] (bodyPost P fn R) .ret L w:=fun _ F=>Zoz F hr hv D h
theorem zf3{t u s:Nat}{v z y:Value}(h:R (.returned (.tuple #[v,z,y])) w)(hr:fn.results= #[.tmp t,.tmp u,.tmp s]:=by exact rfl)(hv:lk L t=some v:=by exact rfl)(D:lk L u=some z:=by exact rfl)(F:lk L s=some y:=by exact rfl):Ge n [] (bodyPost P fn R) .ret L w:=fun _ G=>Zoy G hr hv D F h
theorem zf4{t u s r:Nat}{v z y q:Value}(h:R (.returned (.tuple #[v,z,y,q])) w)(hr:fn.results= #[.tmp t,.tmp u,.tmp s,.tmp r]:=by exact rfl)(hv:lk L t=some v:=by exact rfl)(D:lk L u=some z:=by exact rfl)(F:lk L s=some y:=by exact rfl)(G:lk L r=some q:=by exact rfl):Ge n [] (bodyPost P fn R) .ret L w:=fun _ I=>Zox I hr hv D F G h
variable {E:List Ent}
theorem ZS(i:Nat){s t g k:Nat}{T:TypeId}{v:Value}{cs:List Value}(D:ZC P T=some k)(I:Sat w0 w E)(h:R (.returned (.tuple #[.agg cs.toArray,v])) w)(hr:fn.results= #[.cell s T,.tmp t]:=by exact rfl)(F:lk L s=some (Oq g):=by exact rfl)(hv:lk L t=some v:=by exact rfl)
 (hi:E[i]? =some (.blk g cs):=by exact rfl) (G:cs.length=k:=by exact rfl):Ge n [] (bodyPost P fn R) .ret L w:=fun _ J=>Zkf i J hr F hv D I hi G h
theorem zfc(i:Nat){s g k:Nat}{T:TypeId}{cs:List Value}(D:ZC P T=some k)(I:Sat w0 w E)(h:R (.returned (.agg cs.toArray)) w)(hr:fn.results= #[.cell s T]:=by exact rfl)(F:lk L s=some (Oq g):=by exact rfl)
 (hi:E[i]? =some (.blk g cs):=by exact rfl) (G:cs.length=k:=by exact rfl):Ge n [] (bodyPost P fn R) .ret L w:=fun _ J=>Znp i J hr F D I hi G h
end
section
variable {P:Program} {l:List Oper} {Q:Exit->Act->World->Prop} {S A:World->Prop} {brk:Nat} {w:World} {n d:Nat} {ds:List Deferred} {L:List (Nat×Value)} {listed:Array Bool} {fuel:Nat} {p:Prop}
def Yo(l:List Oper)(i:Nat):Oper:=match l[i]? with
  |some o=>o
  |none=>{op:= .move (.const undef),pos:= "",dst:=none,type:=0,guard:=none,after:= #[]}
theorem XH{i:Nat}(h:Nat.blt i l.length=true):l[i]? =some (Yo l i):=by
 unfold Yo
 have:i<l.length:=by simpa [Nat.blt_eq] using h
 simp [this]
def Gd(P:Program)(n:Nat)(ds:List Deferred)(l:List Oper)(Q:Exit->Act->World->Prop)(S A:World->Prop)(brk fuel:Nat)(listed:Array Bool)(L:List (Nat×Value))(w:World):Prop:=
  Closed l.toArray listed->SA S A brk listed w->∀a,Fr a n ds L->wpB P l.toArray (NoPanic Q) S A brk fuel listed a w
theorem zdv(i:Nat){v:Value}(hr:∀w,Runs P L w (Yo l i) (.value v) w)(K:Gd P n ds l Q S A brk fuel (listed.setIfInBounds i true) ((d,v)::L) w)(hi:Nat.blt i l.length=true:=by exact rfl)(I:gdB l L (Yo l i)=some true:=by exact rfl)(hd:(Yo l i).dst=some d:=by exact rfl)(F:Nat.blt d n=true:=by exact rfl)
 (G:WG l listed i=true:=by kernel_rfl) (D:Nat.beq i brk=false:=by exact rfl):Gd P n ds l Q S A brk (fuel+1) listed L w:=fun hc J a O=>ZkF O hc J i (XH hi) (Yl I) hd F G D hr fun W h1 V U=>K V U W h1
theorem zDrv(i:Nat){v:Value}(hr:∀{w},Runs P L w (Yo l i) (.value v) w)(K:Gd P n ds l Q S A brk fuel (listed.setIfInBounds i true) ((d,v)::L) w)(hi:Nat.blt i l.length=true:=by exact rfl)(I:gdB l L (Yo l i)=some true:=by exact rfl)(hd:(Yo l i).dst=some d:=by exact rfl)(F:Nat.blt d n=true:=by exact rfl)
 (G:WG l listed i=true:=by kernel_rfl) (D:Nat.beq i brk=false:=by exact rfl):Gd P n ds l Q S A brk (fuel+1) listed L w:=zdv i (fun _=>hr) K hi I hd F G D
theorem zDw(i:Nat){v:Value}(hr:∀{w},Runs P L w (Yo l i) (.value v) w)(hi:Nat.blt i l.length=true:=by exact rfl)(I:gdB l L (Yo l i)=some true:=by exact rfl)(hd:(Yo l i).dst=some d:=by exact rfl)(F:Nat.blt d n=true:=by exact rfl)(G:WG l listed i=true:=by kernel_rfl)(D:Nat.beq i brk=false:=by exact rfl):Gd P n ds l Q S A brk fuel (listed.setIfInBounds i true) ((d,v)::L) w->Gd P n ds l Q S A brk (fuel+1) listed L w:=fun K=>zdv i (fun _=>hr) K hi I hd F G D
theorem U8(i:Nat)(K:Gd P n ds l Q S A brk fuel (listed.setIfInBounds i true) ((d,undef)::L) w)(hi:Nat.blt i l.length=true:=by exact rfl)(I:gdB l L (Yo l i)=some false:=by exact rfl)(hd:(Yo l i).dst=some d:=by exact rfl)(F:Nat.blt d n=true:=by exact rfl)
 (G:WG l listed i=true:=by kernel_rfl) (D:Nat.beq i brk=false:=by exact rfl):Gd P n ds l Q S A brk (fuel+1) listed L w:=fun hc J a O=>ZkG O hc J i (XH hi) (Yl I) hd F G D fun W h1 V U=>K V U W h1
theorem zdl(i:Nat){v:Value}(hr:∀w,S w->Runs P L w (Yo l i) (.value v) w)(K:Gd P n ds l Q S A brk fuel (listed.setIfInBounds i true) ((d,v)::L) w)(hi:Nat.blt i l.length=true:=by exact rfl)(J:gdB l L (Yo l i)=some true:=by exact rfl)(hd:(Yo l i).dst=some d:=by exact rfl)(F:Nat.blt d n=true:=by exact rfl)
 (I:WG l listed i=true:=by kernel_rfl) (D:Nat.beq i brk=false:=by exact rfl) (G:(Nat.ble l.length brk||KH l.toArray brk i)=true:=by kernel_rfl):Gd P n ds l Q S A brk (fuel+1) listed L w:=fun hc O a U=>Ziq U hc O i (XH hi) (Yl J) hd F I D G hr fun X h1 W V=>K W V X h1
theorem zdla(i:Nat){v:Value}(hr:∀w,A w->Runs P L w (Yo l i) (.value v) w)(K:Gd P n ds l Q S A brk fuel (listed.setIfInBounds i true) ((d,v)::L) w)(hi:Nat.blt i l.length=true:=by exact rfl)(I:gdB l L (Yo l i)=some true:=by exact rfl)(hd:(Yo l i).dst=some d:=by exact rfl)(F:Nat.blt d n=true:=by exact rfl)
 (G:WG l listed i=true:=by kernel_rfl) (D:Nat.beq i brk=false:=by exact rfl):Gd P n ds l Q S A brk (fuel+1) listed L w:=fun hc J a O=>ZfU O hc J i (XH hi) (Yl I) hd F G D hr fun W h1 V U=>K V U W h1
theorem zda(i:Nat){R:Value->World->Prop}(hr:∃v w',Runs P L w (Yo l i) (.value v) w'/\R v w')(K:∀v w',R v w'->SA S A brk (listed.setIfInBounds i true) w'/\Gd P n ds l Q S A brk fuel (listed.setIfInBounds i true) ((d,v)::L) w')(hi:Nat.blt i l.length=true:=by exact rfl)(G:gdB l L (Yo l i)=some true:=by exact rfl)(hd:(Yo l i).dst=some d:=by exact rfl)(F:Nat.blt d n=true:=by exact rfl)
 (D:Region.ready .any l.toArray listed= [i]:=by kernel_rfl):Gd P n ds l Q S A brk (fuel+1) listed L w:=fun hc V a I=>ZkH I hc i (XH hi) (Yl G) hd F D hr fun v w' h U h1 O=>⟨(K v w' h).1,fun J=>(K v w' h).2 O J U h1⟩
theorem zde(i:Nat){R:World->Prop}(hr:∃w',Runs P L w (Yo l i) .skip w'/\R w')(K:∀w',R w'->SA S A brk (listed.setIfInBounds i true) w'/\Gd P n ds l Q S A brk fuel (listed.setIfInBounds i true) L w')(hi:Nat.blt i l.length=true:=by exact rfl)(G:gdB l L (Yo l i)=some true:=by exact rfl)(hd:(Yo l i).dst=none:=by exact rfl)
 (D:Region.ready .any l.toArray listed= [i]:=by kernel_rfl):Gd P n ds l Q S A brk (fuel+1) listed L w:=fun hc O a F=>Zis F hc i (XH hi) (Yl G) hd D hr fun w' h J=>⟨(K w' h).1,fun I=>(K w' h).2 J I a F⟩
theorem zdc(i:Nat){f:FuncId}{args:Array Value}{R:Value->World->Prop}(hr:Runs P L w (Yo l i) (.enter f args) w)(G:Calls P f args w fun e w'=>∃v,e= .returned v/\R v w')(K:∀v w',R v w'->SA S A brk (listed.setIfInBounds i true) w'/\Gd P n ds l Q S A brk fuel (listed.setIfInBounds i true) ((d,v)::L) w')
   (hi:Nat.blt i l.length=true:=by exact rfl) (I:gdB l L (Yo l i)=some true:=by exact rfl) (hd:(Yo l i).dst=some d:=by exact rfl) (F:Nat.blt d n=true:=by exact rfl) (D:Region.ready .any l.toArray listed= [i]:=by kernel_rfl):Gd P n ds l Q S A brk (fuel+1) listed L w:=
 fun hc W a J=>Ziu J hc i (XH hi) (Yl I) hd F D hr G fun v w' h V h1 U=>⟨(K v w' h).1,fun O=>(K v w' h).2 U O V h1⟩
theorem Zor(i:Nat){R:Value->World->Prop}(hi:Nat.blt i l.length=true)(G:gdB l L (Yo l i)=some true)(hd:(Yo l i).dst=some d)(F:Nat.blt d n=true)(D:Region.ready .any l.toArray listed= [i])(hr:∃v w',Runs P L w (Yo l i) (.value v) w'/\R v w')(K:∀v w',R v w'->SA S A brk (listed.setIfInBounds i true) w'/\Gd P n ds l Q S A brk fuel (listed.setIfInBounds i true) ((d,v)::L) w'):Gd P n ds l Q S A brk (fuel+1) listed L w:=zda i hr K hi G hd F D
theorem ZjS(i:Nat){v:Value}(hi:Nat.blt i l.length=true)(I:gdB l L (Yo l i)=some true)(hd:(Yo l i).dst=some d)(F:Nat.blt d n=true)(G:WG l listed i=true)(D:Nat.beq i brk=false)(hr:∀w,Runs P L w (Yo l i) (.value v) w)(K:Gd P n ds l Q S A brk fuel (listed.setIfInBounds i true) ((d,v)::L) w):Gd P n ds l Q S A brk (fuel+1) listed L w:=zdv i hr K hi I hd F G D
def Gs(P:Program)(n:Nat)(ds:List Deferred)(l:List Oper)(Q:Exit->Act->World->Prop)(S A:World->Prop)(brk fuel:Nat)(listed:Array Bool)(L:List (Nat×Value))(w:World)(r:List Nat):Prop:=∀a,Fr a n ds L->ZbU P l Q S A brk fuel listed a w r
theorem Xj:Gs P n ds l Q S A brk fuel listed L w []:=fun _ _=>Zkd
def G1(P:Program)(n:Nat)(ds:List Deferred)(l:List Oper)(Q:Exit->Act->World->Prop)(S A:World->Prop)(brk fuel:Nat)(listed:Array Bool)(L:List (Nat×Value))(w:World)(i:Nat):Prop:=∀a,Fr a n ds L->ZbN P l Q S A brk fuel listed a w i
theorem Z1{i:Nat}{r:List Nat}(h:G1 P n ds l Q S A brk fuel listed L w i)(hr:Gs P n ds l Q S A brk fuel listed L w r):Gs P n ds l Q S A brk fuel listed L w (i::r):=fun a D=>Zik (h a D) (hr a D)
theorem Xk{r:List Nat}(h:Gs P n ds l Q S A brk fuel listed L w r)(hn:r≠ []:=by decide)(hr:Region.ready .any l.toArray listed=r:=by kernel_rfl):Gd P n ds l Q S A brk (fuel+1) listed L w:=fun hc _ a D=>Zir hc hn hr (h a D)
theorem zka{i:Nat}{R:Value->World->Prop}(hr:∃v w',Runs P L w (Yo l i) (.value v) w'/\R v w')(K:∀v w',R v w'->SA S A brk (listed.setIfInBounds i true) w'/\Gd P n ds l Q S A brk fuel (listed.setIfInBounds i true) ((d,v)::L) w')(hi:Nat.blt i l.length=true:=by exact rfl)(F:gdB l L (Yo l i)=some true:=by exact rfl)(hd:(Yo l i).dst=some d:=by exact rfl)(D:Nat.blt d n=true:=by exact rfl):
 G1 P n ds l Q S A brk fuel listed L w i:=fun a G=>Zke G i (XH hi) (Yl F) hd D hr fun v w' h O h1 J=>⟨(K v w' h).1,fun I=>(K v w' h).2 J I O h1⟩
theorem zkc{i:Nat}{f:FuncId}{args:Array Value}{R:Value->World->Prop}(hr:Runs P L w (Yo l i) (.enter f args) w)(F:Calls P f args w fun e w'=>∃v,e= .returned v/\R v w')(K:∀v w',R v w'->SA S A brk (listed.setIfInBounds i true) w'/\Gd P n ds l Q S A brk fuel (listed.setIfInBounds i true) ((d,v)::L) w')
 (hi:Nat.blt i l.length=true:=by exact rfl) (G:gdB l L (Yo l i)=some true:=by exact rfl) (hd:(Yo l i).dst=some d:=by exact rfl) (D:Nat.blt d n=true:=by exact rfl):G1 P n ds l Q S A brk fuel listed L w i:=fun a I=>Zil I i (XH hi) (Yl G) hd D hr F fun v w' h U h1 O=>⟨(K v w' h).1,fun J=>(K v w' h).2 O J U h1⟩
theorem zdd(h:Ge n ds Q .normal L w)(hr:Region.ready .any l.toArray listed= []:=by kernel_rfl):Gd P n ds l Q S A brk fuel listed L w:=fun _ _ a D=>Zit hr (h a D)
theorem zdb(d:Nat)(G:p->Gd P n ds l Q S A brk fuel listed ((d,.bool true)::L) w)(hf:¬p->Gd P n ds l Q S A brk fuel listed ((d,.bool false)::L) w)(hd:lk L d=some (B p):=by exact rfl):Gd P n ds l Q S A brk fuel listed L w:=
 fun hc F _ I=>ZdM I hd (fun D h=>G D hc F _ h) (fun D h=>hf D hc F _ h)
def pkL:List Ent->List Nat->List Ent
  |_, []=> []
  | l,i::is=>match l[i]? with
    |some e=>e::pkL l is
    |none=>pkL l is
theorem Wc{E:List Ent}:∀{is:List Nat} {e:Ent},e∈pkL E is->∃i∈is,E[i]? =some e
 | i ::is,e,h=>by
   unfold pkL at h
   split at h
   · rename_i x F
     rcases List.mem_cons.1 h with rfl|h
     · exact⟨i,by simp,F⟩
     · obtain⟨j,D,h⟩:=Wc h;exact⟨j,by simp [D],h⟩
   · obtain⟨j,D,h⟩:=Wc h;exact⟨j,by simp [D],h⟩
theorem Zhi{E:List Ent}(h:E.Pairwise Apart){i j:Nat}{d e:Ent}(hi:E[i]? =some d)(F:E[j]? =some e)(G:i≠j):Apart d e:=by
 rw [List.pairwise_iff_getElem] at h
 obtain⟨h1,rfl⟩:=List.getElem?_eq_some_iff.1 hi
 obtain⟨D,rfl⟩:=List.getElem?_eq_some_iff.1 F
 rcases Nat.lt_or_ge i j with hlt|hlt
 · exact h i j h1 D hlt
 · exact fun g a b=>h j i D h1 Oa g b a
theorem Sat.pk {w0 w:World} {E:List Ent} (h:Sat w0 w E) (is:List Nat) (hn:is.Nodup:=by decide):Sat w0 w (pkL E is):=by
 refine⟨h.below,fun e D=> ?_,fun e D=> ?_,?_⟩
 · obtain⟨i,_,hi⟩:=Wc D;exact h.holds e (List.mem_of_getElem? hi)
 · obtain⟨i,_,hi⟩:=Wc D;exact h.new e (List.mem_of_getElem? hi)
 · skip
   induction is with
   |nil=>exact .nil
   | cons i is ih=>
     rw [List.nodup_cons] at hn
     unfold pkL
     split
     · rename_i x F
       refine List.pairwise_cons.2 ⟨fun e D=> ?_,ih hn.2⟩
       obtain⟨j,G,D⟩:=Wc D
       exact Zhi h.sep F D (fun I=>hn.1 (I▸G))
     · exact ih hn.2
theorem Sat.nl{w0 w:World}{E:List Ent}(h:Sat w0 w E):Sat w0 w []:=h.pk []
theorem Sat.cmp{w0 w w':World}{E:List Ent}(h:Sat w0 w E)(k:Sat w w' []):Sat w0 w' E:=by simpa using h.comp k
theorem zdst{w0:World}{id:Nat}{m m0 m1:List Ent}(is D:List Nat)(brk:Nat)(J:P.follows .mixedOrders=true)(I:Sat w0 w m)(K:∀w',Sat w0 w' m->Gd P n ds l Q (fun w'=>Sat w0 w' m0) (fun w'=>Sat w0 w' m1) brk fuel (Array.replicate fuel false) L w')
   (W:pkL m is=m0:=by exact rfl) (h1:pkL m D=m1:=by exact rfl) (G:is.Nodup:=by decide) (F:D.Nodup:=by decide) (hn:l.length=fuel:=by exact rfl):Gc P n ds Q (.region id l.toArray true) L w:=fun a O=>by
 subst W;subst h1
 exact ZfT (fun w'=>Sat w0 w' (pkL m is)) (fun w'=>Sat w0 w' (pkL m D)) brk J (I.draw.pk is G) (I.draw.pk D F) hn fun h1 V U=>K _ I.draw U ⟨fun _=>h1,V⟩ a O
theorem zDo(i:Nat)(hi:Nat.blt i l.length=true:=by exact rfl)(I:gdB l L (Yo l i)=some false:=by exact rfl)(hd:(Yo l i).dst=some d:=by exact rfl)(F:Nat.blt d n=true:=by exact rfl)(G:WG l listed i=true:=by kernel_rfl)(D:Nat.beq i brk=false:=by exact rfl):Gd P n ds l Q S A brk fuel (listed.setIfInBounds i true) ((d,undef)::L) w->Gd P n ds l Q S A brk (fuel+1) listed L w:=fun K=>U8 i K hi I hd F G D
theorem zDl(i:Nat){v:Value}(hr:∀w,A w->Runs P L w (Yo l i) (.value v) w)(hi:Nat.blt i l.length=true:=by exact rfl)(I:gdB l L (Yo l i)=some true:=by exact rfl)(hd:(Yo l i).dst=some d:=by exact rfl)(F:Nat.blt d n=true:=by exact rfl)(G:WG l listed i=true:=by kernel_rfl)(D:Nat.beq i brk=false:=by exact rfl):Gd P n ds l Q S A brk fuel (listed.setIfInBounds i true) ((d,v)::L) w->Gd P n ds l Q S A brk (fuel+1) listed L w:=fun K=>zdla i hr K hi I hd F G D
end
section
variable {P:Program} {L:List (Nat×Value)} {w w0:World} {o:Oper} {x y z:Operand} {T T':TypeId} {l:List Ent} {v u:Value} {m n r i:Int} {k:IntKind} {p:Prop}
theorem xmv(F:o.op= .move x:=by exact rfl)(D:evL L x=some v:=by exact rfl):Runs P L w o (.value v) w:=Zim F D
theorem xas(F:o.op= .assign x:=by exact rfl)(D:evL L x=some v:=by exact rfl):Runs P L w o (.value v) w:=Zef F D
theorem xpt(G:o.op= .pick x y z:=by exact rfl)(F:evL L x=some (.bool true):=by exact rfl)(D:evL L y=some v:=by exact rfl):Runs P L w o (.value v) w:=Zed G F D
theorem xpf(G:o.op= .pick x y z:=by exact rfl)(F:evL L x=some (.bool false):=by exact rfl)(D:evL L z=some v:=by exact rfl):Runs P L w o (.value v) w:=Zee G F D
theorem Zg(G:o.op= .binOp .add T x y T':=by exact rfl)(F:evL L x=some (.int Oh m):=by exact rfl)(D:evL L y=some (.int Oh n):=by exact rfl)(e:r=m+n:=by omega)(hr:I64 r:=by unfold I64;omega):Runs P L w o (.value (.int Oh r)) w:=Zkz G F D e hr
theorem Zw(G:o.op= .binOp .sub T x y T':=by exact rfl)(F:evL L x=some (.int Oh m):=by exact rfl)(D:evL L y=some (.int Oh n):=by exact rfl)(e:r=m-n:=by omega)(hr:I64 r:=by unfold I64;omega):Runs P L w o (.value (.int Oh r)) w:=Zkh G F D e hr
theorem Z2(G:o.op= .binOp .mul T x y T':=by exact rfl)(F:evL L x=some (.int Oh m):=by exact rfl)(D:evL L y=some (.int Oh n):=by exact rfl)(e:r=m*n:=by omega)(hr:I64 r:=by unfold I64;omega):Runs P L w o (.value (.int Oh r)) w:=Zkn G F D e hr
theorem ZbX(F:o.op= .unOp .neg T x:=by exact rfl)(D:evL L x=some (.int Oh m):=by exact rfl)(e:r= -m:=by omega)(hr:I64 r:=by unfold I64;omega):Runs P L w o (.value (.int Oh r)) w:=Zkm F D e hr
theorem Z7(G:o.op= .binOp .lss T x y T':=by exact rfl)(F:evL L x=some (.int k m):=by exact rfl)(D:evL L y=some (.int k n):=by exact rfl):Runs P L w o (.value (B (m<n))) w:=Zkq G F D
theorem Xv(G:o.op= .binOp .leq T x y T':=by exact rfl)(F:evL L x=some (.int k m):=by exact rfl)(D:evL L y=some (.int k n):=by exact rfl):Runs P L w o (.value (B (m<=n))) w:=Zks G F D
theorem Yu(G:o.op= .binOp .gtr T x y T':=by exact rfl)(F:evL L x=some (.int k m):=by exact rfl)(D:evL L y=some (.int k n):=by exact rfl):Runs P L w o (.value (B (n<m))) w:=Zku G F D
theorem Xw(G:o.op= .binOp .geq T x y T':=by exact rfl)(F:evL L x=some (.int k m):=by exact rfl)(D:evL L y=some (.int k n):=by exact rfl):Runs P L w o (.value (B (n<=m))) w:=Zkv G F D
theorem YT(G:o.op= .binOp .eql T x y T':=by exact rfl)(F:evL L x=some (.int k m):=by exact rfl)(D:evL L y=some (.int k n):=by exact rfl):Runs P L w o (.value (B (m=n))) w:=Zkw G F D
theorem YM(G:o.op= .binOp .neq T x y T':=by exact rfl)(F:evL L x=some (.int k m):=by exact rfl)(D:evL L y=some (.int k n):=by exact rfl):Runs P L w o (.value (B (m≠n))) w:=Zkl G F D
theorem YH(F:o.op= .unOp .not T x:=by exact rfl)(D:evL L x=some (B p):=by exact rfl):Runs P L w o (.value (B (¬p))) w:=Zkk F D
theorem xnt(F:o.op= .unOp .not T x:=by exact rfl)(D:evL L x=some (.bool true):=by exact rfl):Runs P L w o (.value (.bool false)) w:=ZfH F D
theorem xnf(F:o.op= .unOp .not T x:=by exact rfl)(D:evL L x=some (.bool false):=by exact rfl):Runs P L w o (.value (.bool true)) w:=ZfI F D
theorem xkt{w':World}(h:Runs P L w o (.value (B p)) w')(D:p:=by omega):Runs P L w o (.value (.bool true)) w':=Zh9 h D
theorem xkf{w':World}(h:Runs P L w o (.value (B p)) w')(D:¬p:=by omega):Runs P L w o (.value (.bool false)) w':=Zia h D
theorem xfb(k':Nat){g q off f:Nat}(F:Zv P T f=some off)(G:o.op= .fieldAddr T x f:=by exact rfl)(D:evL L x=some (.pointer (some ⟨g,q,none⟩)):=by exact rfl)(I:q+off=k':=by exact rfl):Runs P L w o (.value (.pointer (some ⟨g,k',none⟩))) w:=
 Zbv G F D (by rw [Addr.add_eq _ rfl,I])
theorem xfc{kk q:Int}{off f:Nat}(F:Zv P T f=some off)(hv:Slh v n)(G:o.op= .fieldAddr T x f:=by exact rfl)(D:evL L x=some (.pointer (some (cad v q))):=by exact rfl)(J:0<=q:=by omega)(h1:0<n:=by omega)(I:q+off=kk:=by omega):Runs P L w o (.value (.pointer (some (cad v kk)))) w:=
 Zbv G F D (by rw [ZdC hv J h1,I])
theorem xix{kk:Int}{E:TypeId}{s:Nat}(G:ZJ P T=some (E,s))(hv:Slh v n)(I:o.op= .indexAddr T x y:=by exact rfl)(F:evL L x=some v:=by exact rfl)(D:evL L y=some (.int Oh i):=by exact rfl)(J:0<=i:=by omega)(h1:i<n:=by omega)(e:kk=i*s:=by omega):Runs P L w o (.value (.pointer (some (cad v kk)))) w:=ZfJ I G F D hv J h1 e
theorem xlb(j:Nat){g q:Nat}{cs:List Value}(F:ZR P T=true)(J:Sat w0 w l)(G:o.op= .load T x:=by exact rfl)(D:evL L x=some (.pointer (some ⟨g,q,none⟩)):=by exact rfl)(hi:l[j]? =some (.blk g cs):=by exact rfl)(I:cs[q]? =some v:=by exact rfl):Runs P L w o (.value v) w:=Zbu j G F D J hi I
theorem xls(j:Nat){g q:Nat}{cs:List Value}(F:ZC P T=some q)(J:Sat w0 w l)(G:o.op= .load T x:=by exact rfl)(D:evL L x=some (Oq g):=by exact rfl)(hi:l[j]? =some (.blk g cs):=by exact rfl)(I:cs.length=q:=by exact rfl):Runs P L w o (.value (.agg cs.toArray)) w:=Zag j G F D J hi I
theorem xlr{s:Nat}{q:Int}{c:Int->Value}(F:ZR P T=true)(I:Row w v s n c)(G:o.op= .load T x:=by exact rfl)(D:evL L x=some (.pointer (some (cad v q))):=by exact rfl)(J:0<=q:=by omega)(h1:q<n*s:=by omega)(e:c q=u:=by exact rfl):Runs P L w o (.value u) w:=Zbs G F D I J h1 e
theorem xln{E:TypeId}{s:Nat}(F:ZJ P T=some (E,s))(hv:Slh v n)(G:o.op= .call {callee:= .builtin .len,args:= #[x],argTypes:= #[T]}:=by exact rfl)(D:evL L x=some v:=by exact rfl):Runs P L w o (.value (.int Oh n)) w:=Zkt G F D hv
theorem xc0{g:FuncId}{D:Array Operand}{ts:Array TypeId}{vs:List Value}(G:Zc P g=true)(I:o.op= .call {callee:= .value x,args:=D,argTypes:=ts}:=by exact rfl)(F:evL L x=some (.func (.func g) #[] #[]):=by exact rfl)(J:UU L D vs:=by repeat' first|exact ZbI|apply Wu rfl):Runs P L w o (.enter g vs.toArray) w:=ZfL I F G J
theorem xex{j:Nat}{vs:List Value}(F:o.op= .extract x j:=by exact rfl)(D:evL L x=some (.tuple vs.toArray):=by exact rfl)(hv:vs[j]? =some v:=by exact rfl):Runs P L w o (.value v) w:=Zck F D hv
theorem xmf{f:Fn}{vs:List Value}{xs:Array Operand}(D:o.op= .makeFunc f #[] xs:=by exact rfl)(F:UU L xs vs:=by repeat' first|exact ZbI|apply Wu rfl):Runs P L w o (.value (.func f #[] vs.toArray)) w:=Zbr D F
theorem xany(F:∀cs b,o.op≠ .select cs b:=by intro _ _ h;cases h)(D:(o.op.operands.toList.all fun x=>(evL L x).isSome)=true:=by exact rfl)(hr:(execOp (fun x=>(evL L x).getD undef) o).run P w= .ok (.value v) w:=by kernel_rfl):Runs P L w o (.value v) w:=Zky F D hr
theorem xbx{cs:List Value}(G:Sat w0 w l)(F:o.op= .box T x:=by exact rfl)(D:evL L x=some v:=by exact rfl)(hc:v.cells=cs.toArray:=by exact rfl):∃u w',Runs P L w o (.value u) w'/\∃g,u= Oq g/\Sat w0 w' (l++ [.blk g cs]):=Zkx F G D hc
theorem xal{s b:Nat}{cs:List Value}(D:ZV P T=some (v,s,b))(G:Sat w0 w l)(F:o.op= .alloc T:=by exact rfl)(hc:v.cells=cs.toArray:=by exact rfl):∃u w',Runs P L w o (.value u) w'/\∃g,u= Oq g/\Sat w0 w' (l++ [.blk g cs]):=ZfM F D G hc
theorem xl0{E:TypeId}{s:Nat}{c:Int->Value}(D:ZJ P T=some (E,s))(G:Sat w0 w l)(F:o.op= .buildSlice T 0 #[]:=by exact rfl):∃u w',Runs P L w o (.value u) w'/\Sat w0 w' (l++ [.own u s E 0 c])/\Slh u 0:=Zio F D G
theorem xsb(j:Nat){g q:Nat}{cs:List Value}(G:ZR P T=true)(O:Sat w0 w l)(I:o.op= .store T x y:=by exact rfl)(hi:l[j]? =some (.blk g cs):=by exact rfl)(F:evL L x=some (.pointer (some ⟨g,q,none⟩)):=by exact rfl)(D:evL L y=some v:=by exact rfl)(hv:v.oneCell'=true:=by exact rfl)(J:cs[q]? =some u:=by exact rfl):∃w',Runs P L w o .skip w'/\Sat w0 w' (l.set j (.blk g (cs.set q v))):=ZjY j I G O hi F D hv J
theorem xsw(j:Nat){g q:Nat}{cs ds:List Value}(G:ZC P T=some q)(O:Sat w0 w l)(I:o.op= .store T x y:=by exact rfl)(hi:l[j]? =some (.blk g cs):=by exact rfl)(F:evL L x=some (Oq g):=by exact rfl)(D:evL L y=some (.agg ds.toArray):=by exact rfl)(J:(cs.length,ds.length)=(q,q):=by exact rfl)
 (hd:∀v∈ds,v.oneCell'=true:=by repeat' first|exact Zh|apply Za rfl):∃w',Runs P L w o .skip w'/\Sat w0 w' (l.set j (.blk g ds)):=ZhF j I G O hi F D J hd
theorem xso(j:Nat){s:Nat}{E:TypeId}{q:Int}{c d:Int->Value}(G:ZR P T=true)(J:Sat w0 w l)(e:upd c q u=d)(I:o.op= .store T x y:=by exact rfl)(hi:l[j]? =some (.own v s E n c):=by exact rfl)(F:evL L x=some (.pointer (some (cad v q))):=by exact rfl)(D:evL L y=some u:=by exact rfl)(hv:u.oneCell'=true:=by exact rfl)(O:0<=q:=by omega)(h1:q<n*s:=by omega):∃w',Runs P L w o .skip w'/\Sat w0 w' (l.set j (.own v s E n d)):=ZjX j I G J hi F D hv O h1 e
theorem xmk{E:TypeId}{s b:Nat}{D:Value}(J:ZJ P T=some (E,s))(V:ZV P E=some (D,s,b))(X:Sat w0 w l)(U:o.op= .makeSlice T x y:=by exact rfl)(F:D.cells= #[D]:=by exact rfl)(O:s=1:=by exact rfl)(I:evL L x=some (.int Oh n):=by exact rfl)(G:evL L y=some (.int Oh n):=by exact rfl)(Y:0<=n:=by omega)(W:b*n<=140737488355328:=by omega)(h1:n<=140737488355328:=by omega):
 ∃u w',Runs P L w o (.value u) w'/\Sat w0 w' (l++ [.own u s E n (fun _=>D)])/\Slh u n:=Zin U J V F O X I G Y W h1
theorem VC(G:o.op= .binOp .quo T x y T':=by exact rfl)(F:evL L x=some (.int Oh m):=by exact rfl)(D:evL L y=some (.int Oh n):=by exact rfl)(hn:n≠0:=by omega)(e:r=m.tdiv n:=by exact rfl)(hr:I64 r:=by unfold I64;omega):Runs P L w o (.value (.int Oh r)) w:=Zkj G F D hn e hr
theorem KD(G:o.op= .binOp .rem T x y T':=by exact rfl)(F:evL L x=some (.int Oh m):=by exact rfl)(D:evL L y=some (.int Oh n):=by exact rfl)(hn:n≠0:=by omega)(e:r=m.tmod n:=by exact rfl):Runs P L w o (.value (.int Oh r)) w:=Zki G F D hn e
theorem KE{ts:Array TypeId}(G:o.op= .call {callee:= .builtin .max,args:= #[x,y],argTypes:=ts}:=by exact rfl)(F:evL L x=some (.int k m):=by exact rfl)(D:evL L y=some (.int k n):=by exact rfl)(e:r=max m n:=by exact rfl):Runs P L w o (.value (.int k r)) w:=Zkp G F D e
theorem U9{ts:Array TypeId}(G:o.op= .call {callee:= .builtin .min,args:= #[x,y],argTypes:=ts}:=by exact rfl)(F:evL L x=some (.int k m):=by exact rfl)(D:evL L y=some (.int k n):=by exact rfl)(e:r=min m n:=by exact rfl):Runs P L w o (.value (.int k r)) w:=Zko G F D e
theorem xlp(j:Nat){g q m:Nat}{cs ds:List Value}(F:ZC P T=some m)(J:Sat w0 w l)(G:o.op= .load T x:=by exact rfl)(D:evL L x=some (.pointer (some ⟨g,q,none⟩)):=by exact rfl)(hi:l[j]? =some (.blk g cs):=by exact rfl)(I:ds.length=m:=by exact rfl)(hd:(cs.drop q).take m=ds:=by exact rfl):Runs P L w o (.value (.agg ds.toArray)) w:=Rp j G F D J hi I hd
theorem xlw{s:Nat}{q:Int}{c:Int->Value}{cs:List Value}{m:Nat}(G:ZC P T=some m)(O:Row w v s n c)(e:∀(j:Nat) u,cs[j]? =some u->c (q+j)=u)(I:o.op= .load T x:=by exact rfl)(F:evL L x=some (.pointer (some (cad v q))):=by exact rfl)(U:0<=q:=by omega)(h1:q+m<=n*s:=by omega)(J:cs.length=m:=by exact rfl)(D:0<m:=by omega):Runs P L w o (.value (.agg cs.toArray)) w:=Zaf I G F O U h1 J D e
theorem xlf{a:Addr}(F:ZR P T=true)(hc:w0.cell? a=some v)(I:Sat w0 w l)(G:o.op= .load T x:=by exact rfl)(D:evL L x=some (.pointer (some a)):=by exact rfl):Runs P L w o (.value v) w:=Zbt G F D hc I
theorem xap(j:Nat){E:TypeId}{s b:Nat}{c d f:Int->Value}{F:Value}(U:ZJ P T=some (E,s))(X:ZV P E=some (F,s,b))(Z:Sat w0 w l)(O:Row w u s m d)(e:cat (n*s) c d=f)(W:o.op= .call {callee:= .builtin .append,args:= #[x,y],argTypes:= #[T,T]}:=by exact rfl)(G:F.cells.size=s:=by exact rfl)(V:0<s:=by decide)
 (hi:l[j]? =some (.own v s E n c):=by exact rfl) (J:evL L x=some v:=by exact rfl) (I:evL L y=some u:=by exact rfl) (h1:∀k,0<=k->k<m*s->(d k).oneCell'=true:=by intros;rfl) (hr:r=n+m:=by omega) (Y:b*(n+m)<=140737488355328:=by omega) (D:n+m<=140737488355328:=by omega):
 ∃q w',Runs P L w o (.value q) w'/\Sat w0 w' (l.set j (.own q s E r f))/\Slh q r:=Zm0 j W U X G V Z hi J I O h1 hr Y D e
theorem xsr(q:Nat){E:TypeId}{vv:Int->Value}{zln:Oe}{f f':Of}{kk j a:Int}(U:ZR P T=true)(W:Sat w0 w l)(e:upd f kk (upd (f kk) j a)=f')(V:o.op= .store T x y:=by exact rfl)(hi:l[q]? =some (.sem (Frame.rows E n vv zln f)):=by exact rfl)(O:evL L x=some (.pointer (some (cad (vv kk) j))):=by exact rfl)(J:evL L y=some (.int Oh a):=by exact rfl)
 (F:0<=kk:=by omega) (D:kk<n:=by omega) (I:0<=j:=by omega) (G:j<zln kk:=by omega):∃w',Runs P L w o .skip w'/\Sat w0 w' (l.set q (.sem (Frame.rows E n vv zln f'))):=ZhE q V U W hi O J F D I G e
theorem xcc{g:FuncId}{D:Array Operand}{ts:Array TypeId}{vs cap:List Value}(G:Zc P g=true)(I:o.op= .call {callee:= .value x,args:=D,argTypes:=ts}:=by exact rfl)(F:evL L x=some (.func (.func g) #[] cap.toArray):=by exact rfl)(J:UU L D vs:=by repeat' first|exact ZbI|apply Wu rfl):Runs P L w o (.enter g (vs++cap).toArray) w:=ZfK I F G J
theorem xcv{S D:TypeId}{F:IntKind}(I:(P.underlying S).isSome=true)(hd:P.underlying D=some (.int F))(J:o.op= .convert S D x:=by exact rfl)(G:evL L x=some (.int k n):=by exact rfl)(hr:InK F n:=by unfold InK;omega):Runs P L w o (.value (.int F n)) w:=Zip J I hd G hr
theorem xli{E:TypeId}{s b len:Nat}{I:List (Nat×Operand)}{pv:List (Nat×Value)}{cs:List Value}{c:Int->Value}{D:Value}(J:ZJ P T=some (E,s))(W:ZV P E=some (D,s,b))(X:Sat w0 w l)(U:o.op= .buildSlice T len I.toArray:=by exact rfl)(O:ZdQ L I pv:=by repeat' first|exact Zj3|apply Zcd rfl)
   (hf:Instr.fill (fun i=>some (i*s,s)) ((Array.range (len*s)).map fun j=>D.cells[j%D.cells.size]!) pv=some cs.toArray:=by kernel_rfl) (V:len*s<=16777216:=by decide) (F:len*s≠0:=by decide) (hn:n=len:=by exact rfl) (G:cs.length=len*s:=by exact rfl)
   (hc:∀k:Nat,(k:Int)<n*s->cs[k]? =some (c k):=by intro k Y;rcases k with _|_|_|_|_|_|_|_|k<;>first|rfl|(exfalso;omega)) (h1:n<=140737488355328:=by omega):∃u w',Runs P L w o (.value u) w'/\Sat w0 w' (l++ [.own u s E n c])/\Slh u n:=
 Zkr U J W X (fun ρ h=>by simpa using O ρ h) hf V F hn G hc h1
end
end Go.Proofs.Gw
namespace Go.Proofs.Gw
open Go Go.RowKit
section
variable {w0 w:World} {l:List Ent}
theorem Sat.n1{D:Ent}(h:Sat w0 w l)(e:l= [D]:=by exact rfl):Sat w0 w [D]:=e▸h
theorem Sat.n2{F D:Ent}(h:Sat w0 w l)(e:l= [F,D]:=by exact rfl):Sat w0 w [F,D]:=e▸h
theorem Sat.n3{F D a2:Ent}(h:Sat w0 w l)(e:l= [F,D,a2]:=by exact rfl):Sat w0 w [F,D,a2]:=e▸h
theorem Sat.n4{G F a2 D:Ent}(h:Sat w0 w l)(e:l= [G,F,a2,D]:=by exact rfl):Sat w0 w [G,F,a2,D]:=e▸h
theorem Sat.n5{I G a2 F D:Ent}(h:Sat w0 w l)(e:l= [I,G,a2,F,D]:=by exact rfl):Sat w0 w [I,G,a2,F,D]:=e▸h
theorem Sat.n6{J I a2 G F D:Ent}(h:Sat w0 w l)(e:l= [J,I,a2,G,F,D]:=by exact rfl):Sat w0 w [J,I,a2,G,F,D]:=e▸h
theorem Sat.n7{O J a2 I G F D:Ent}(h:Sat w0 w l)(e:l= [O,J,a2,I,G,F,D]:=by exact rfl):Sat w0 w [O,J,a2,I,G,F,D]:=e▸h
theorem Sat.n8{U O a2 J I G F D:Ent}(h:Sat w0 w l)(e:l= [U,O,a2,J,I,G,F,D]:=by exact rfl):Sat w0 w [U,O,a2,J,I,G,F,D]:=e▸h
theorem Sat.n9{V U a2 O J I G F D:Ent}(h:Sat w0 w l)(e:l= [V,U,a2,O,J,I,G,F,D]:=by exact rfl):Sat w0 w [V,U,a2,O,J,I,G,F,D]:=e▸h
theorem Sat.n10{W V a2 U O J I G F D:Ent}(h:Sat w0 w l)(e:l= [W,V,a2,U,O,J,I,G,F,D]:=by exact rfl):Sat w0 w [W,V,a2,U,O,J,I,G,F,D]:=e▸h
theorem Sat.n11{X W a2 V U O J I G F D:Ent}(h:Sat w0 w l)(e:l= [X,W,a2,V,U,O,J,I,G,F,D]:=by exact rfl):Sat w0 w [X,W,a2,V,U,O,J,I,G,F,D]:=e▸h
theorem Sat.n12{Y X a2 W V U O J I G F D:Ent}(h:Sat w0 w l)(e:l= [Y,X,a2,W,V,U,O,J,I,G,F,D]:=by exact rfl):Sat w0 w [Y,X,a2,W,V,U,O,J,I,G,F,D]:=e▸h
theorem Sat.n13{Z Y a2 X W V U O J I G F D:Ent}(h:Sat w0 w l)(e:l= [Z,Y,a2,X,W,V,U,O,J,I,G,F,D]:=by exact rfl):Sat w0 w [Z,Y,a2,X,W,V,U,O,J,I,G,F,D]:=e▸h
theorem Sat.n14{a0 Z a2 Y X W V U O J I G F D:Ent}(h:Sat w0 w l)(e:l= [a0,Z,a2,Y,X,W,V,U,O,J,I,G,F,D]:=by exact rfl):Sat w0 w [a0,Z,a2,Y,X,W,V,U,O,J,I,G,F,D]:=e▸h
theorem Sat.n15{a0 a1 a2 Z Y X W V U O J I G F D:Ent}(h:Sat w0 w l)(e:l= [a0,a1,a2,Z,Y,X,W,V,U,O,J,I,G,F,D]:=by exact rfl):Sat w0 w [a0,a1,a2,Z,Y,X,W,V,U,O,J,I,G,F,D]:=e▸h
theorem Sat.n16{a0 a1 a2 a3 Z Y X W V U O J I G F D:Ent}(h:Sat w0 w l)(e:l= [a0,a1,a2,a3,Z,Y,X,W,V,U,O,J,I,G,F,D]:=by exact rfl):Sat w0 w [a0,a1,a2,a3,Z,Y,X,W,V,U,O,J,I,G,F,D]:=e▸h
theorem Sat.n17{a0 a1 a2 a3 a4 Z Y X W V U O J I G F D:Ent}(h:Sat w0 w l)(e:l= [a0,a1,a2,a3,a4,Z,Y,X,W,V,U,O,J,I,G,F,D]:=by exact rfl):Sat w0 w [a0,a1,a2,a3,a4,Z,Y,X,W,V,U,O,J,I,G,F,D]:=e▸h
theorem Sat.n18{a0 a1 a2 a3 a4 a5 Z Y X W V U O J I G F D:Ent}(h:Sat w0 w l)(e:l= [a0,a1,a2,a3,a4,a5,Z,Y,X,W,V,U,O,J,I,G,F,D]:=by exact rfl):Sat w0 w [a0,a1,a2,a3,a4,a5,Z,Y,X,W,V,U,O,J,I,G,F,D]:=e▸h
end
section
variable {P:Program} {l rest:List Oper} {Q Q':Exit->Act->World->Prop} {w:World} {n id:Nat} {ds:List Deferred} {L:List (Nat×Value)} {x y:Code}
theorem zs2{d1 d2:Nat}{D I:Value}{G F:Oper}(K:Gl P n ds l Q rest ((d2,I)::((d1,D)::L)) w)(h1:Runs P L w G (.value D) w:=by first|exact xmv|exact xas|exact xpt|exact xpf|exact Z7|exact Yu|exact Xw|exact Xv|exact YT|exact YM|exact xnt|exact xnf|exact YH|exact xex)(U:gdB l L G=some true:=by exact rfl)(W:G.dst=some d1:=by exact rfl)(Y:Nat.blt d1 n=true:=by exact rfl)(J:Runs P ((d1,D)::L) w F (.value I) w:=by first|exact xmv|exact xas|exact xpt|exact xpf|exact Z7|exact Yu|exact Xw|exact Xv|exact YT|exact YM|exact xnt|exact xnf|exact YH|exact xex)(O:gdB l ((d1,D)::L) F=some true:=by exact rfl)(V:F.dst=some d2:=by exact rfl)(X:Nat.blt d2 n=true:=by exact rfl):
 Gl P n ds l Q (G::F::rest) L w:=zlv h1 (zlv J K O V X) U W Y
theorem zs3{d1 d2 d3:Nat}{D F O:Value}{J I G:Oper}(K:Gl P n ds l Q rest ((d3,O)::((d2,F)::((d1,D)::L))) w)(h1:Runs P L w J (.value D) w:=by first|exact xmv|exact xas|exact xpt|exact xpf|exact Z7|exact Yu|exact Xw|exact Xv|exact YT|exact YM|exact xnt|exact xnf|exact YH|exact xex)(X:gdB l L J=some true:=by exact rfl)(e1:J.dst=some d1:=by exact rfl)(b1:Nat.blt d1 n=true:=by exact rfl)(V:Runs P ((d1,D)::L) w I (.value F) w:=by first|exact xmv|exact xas|exact xpt|exact xpf|exact Z7|exact Yu|exact Xw|exact Xv|exact YT|exact YM|exact xnt|exact xnf|exact YH|exact xex)(W:gdB l ((d1,D)::L) I=some true:=by exact rfl)(Z:I.dst=some d2:=by exact rfl)(b2:Nat.blt d2 n=true:=by exact rfl)(U:Runs P ((d2,F)::((d1,D)::L)) w G (.value O) w:=by first|exact xmv|exact xas|exact xpt|exact xpf|exact Z7|exact Yu|exact Xw|exact Xv|exact YT|exact YM|exact xnt|exact xnf|exact YH|exact xex)(g3:gdB l ((d2,F)::((d1,D)::L)) G=some true:=by exact rfl)(Y:G.dst=some d3:=by exact rfl)(b3:Nat.blt d3 n=true:=by exact rfl):
 Gl P n ds l Q (J::I::G::rest) L w:=zlv h1 (zlv V (zlv U K g3 Y b3) W Z b2) X e1 b1
theorem zs4{d1 d2 d3 d4:Nat}{D F G V:Value}{U O J I:Oper}(K:Gl P n ds l Q rest ((d4,V)::((d3,G)::((d2,F)::((d1,D)::L)))) w)(h1:Runs P L w U (.value D) w:=by first|exact xmv|exact xas|exact xpt|exact xpf|exact Z7|exact Yu|exact Xw|exact Xv|exact YT|exact YM|exact xnt|exact xnf|exact YH|exact xex)(g1:gdB l L U=some true:=by exact rfl)(e1:U.dst=some d1:=by exact rfl)(b1:Nat.blt d1 n=true:=by exact rfl)(Y:Runs P ((d1,D)::L) w O (.value F) w:=by first|exact xmv|exact xas|exact xpt|exact xpf|exact Z7|exact Yu|exact Xw|exact Xv|exact YT|exact YM|exact xnt|exact xnf|exact YH|exact xex)(g2:gdB l ((d1,D)::L) O=some true:=by exact rfl)(e2:O.dst=some d2:=by exact rfl)(b2:Nat.blt d2 n=true:=by exact rfl)(X:Runs P ((d2,F)::((d1,D)::L)) w J (.value G) w:=by first|exact xmv|exact xas|exact xpt|exact xpf|exact Z7|exact Yu|exact Xw|exact Xv|exact YT|exact YM|exact xnt|exact xnf|exact YH|exact xex)(g3:gdB l ((d2,F)::((d1,D)::L)) J=some true:=by exact rfl)(e3:J.dst=some d3:=by exact rfl)(b3:Nat.blt d3 n=true:=by exact rfl)(W:Runs P ((d3,G)::((d2,F)::((d1,D)::L))) w I (.value V) w:=by first|exact xmv|exact xas|exact xpt|exact xpf|exact Z7|exact Yu|exact Xw|exact Xv|exact YT|exact YM|exact xnt|exact xnf|exact YH|exact xex)(Z:gdB l ((d3,G)::((d2,F)::((d1,D)::L))) I=some true:=by exact rfl)(e4:I.dst=some d4:=by exact rfl)(b4:Nat.blt d4 n=true:=by exact rfl):
 Gl P n ds l Q (U::O::J::I::rest) L w:=zlv h1 (zlv Y (zlv X (zlv W K Z e4 b4) g3 e3 b3) g2 e2 b2) g1 e1 b1
theorem zs5{d1 d2 d3 d4 d5:Nat}{D F G I X:Value}{W V U O J:Oper}(K:Gl P n ds l Q rest ((d5,X)::((d4,I)::((d3,G)::((d2,F)::((d1,D)::L))))) w)(h1:Runs P L w W (.value D) w:=by first|exact xmv|exact xas|exact xpt|exact xpf|exact Z7|exact Yu|exact Xw|exact Xv|exact YT|exact YM|exact xnt|exact xnf|exact YH|exact xex)(g1:gdB l L W=some true:=by exact rfl)(e1:W.dst=some d1:=by exact rfl)(b1:Nat.blt d1 n=true:=by exact rfl)(h2:Runs P ((d1,D)::L) w V (.value F) w:=by first|exact xmv|exact xas|exact xpt|exact xpf|exact Z7|exact Yu|exact Xw|exact Xv|exact YT|exact YM|exact xnt|exact xnf|exact YH|exact xex)(g2:gdB l ((d1,D)::L) V=some true:=by exact rfl)(e2:V.dst=some d2:=by exact rfl)(b2:Nat.blt d2 n=true:=by exact rfl)(h3:Runs P ((d2,F)::((d1,D)::L)) w U (.value G) w:=by first|exact xmv|exact xas|exact xpt|exact xpf|exact Z7|exact Yu|exact Xw|exact Xv|exact YT|exact YM|exact xnt|exact xnf|exact YH|exact xex)(g3:gdB l ((d2,F)::((d1,D)::L)) U=some true:=by exact rfl)(e3:U.dst=some d3:=by exact rfl)(b3:Nat.blt d3 n=true:=by exact rfl)(Z:Runs P ((d3,G)::((d2,F)::((d1,D)::L))) w O (.value I) w:=by first|exact xmv|exact xas|exact xpt|exact xpf|exact Z7|exact Yu|exact Xw|exact Xv|exact YT|exact YM|exact xnt|exact xnf|exact YH|exact xex)(g4:gdB l ((d3,G)::((d2,F)::((d1,D)::L))) O=some true:=by exact rfl)(e4:O.dst=some d4:=by exact rfl)(b4:Nat.blt d4 n=true:=by exact rfl)(Y:Runs P ((d4,I)::((d3,G)::((d2,F)::((d1,D)::L)))) w J (.value X) w:=by first|exact xmv|exact xas|exact xpt|exact xpf|exact Z7|exact Yu|exact Xw|exact Xv|exact YT|exact YM|exact xnt|exact xnf|exact YH|exact xex)(g5:gdB l ((d4,I)::((d3,G)::((d2,F)::((d1,D)::L)))) J=some true:=by exact rfl)(e5:J.dst=some d5:=by exact rfl)(b5:Nat.blt d5 n=true:=by exact rfl):
 Gl P n ds l Q (W::V::U::O::J::rest) L w:=zlv h1 (zlv h2 (zlv h3 (zlv Z (zlv Y K g5 e5 b5) g4 e4 b4) g3 e3 b3) g2 e2 b2) g1 e1 b1
theorem zs6{d1 d2 d3 d4 d5 d6:Nat}{D F G I J Z:Value}{Y X W V U O:Oper}(K:Gl P n ds l Q rest ((d6,Z)::((d5,J)::((d4,I)::((d3,G)::((d2,F)::((d1,D)::L)))))) w)(h1:Runs P L w Y (.value D) w:=by first|exact xmv|exact xas|exact xpt|exact xpf|exact Z7|exact Yu|exact Xw|exact Xv|exact YT|exact YM|exact xnt|exact xnf|exact YH|exact xex)(g1:gdB l L Y=some true:=by exact rfl)(e1:Y.dst=some d1:=by exact rfl)(b1:Nat.blt d1 n=true:=by exact rfl)(h2:Runs P ((d1,D)::L) w X (.value F) w:=by first|exact xmv|exact xas|exact xpt|exact xpf|exact Z7|exact Yu|exact Xw|exact Xv|exact YT|exact YM|exact xnt|exact xnf|exact YH|exact xex)(g2:gdB l ((d1,D)::L) X=some true:=by exact rfl)(e2:X.dst=some d2:=by exact rfl)(b2:Nat.blt d2 n=true:=by exact rfl)(h3:Runs P ((d2,F)::((d1,D)::L)) w W (.value G) w:=by first|exact xmv|exact xas|exact xpt|exact xpf|exact Z7|exact Yu|exact Xw|exact Xv|exact YT|exact YM|exact xnt|exact xnf|exact YH|exact xex)(g3:gdB l ((d2,F)::((d1,D)::L)) W=some true:=by exact rfl)(e3:W.dst=some d3:=by exact rfl)(b3:Nat.blt d3 n=true:=by exact rfl)(h4:Runs P ((d3,G)::((d2,F)::((d1,D)::L))) w V (.value I) w:=by first|exact xmv|exact xas|exact xpt|exact xpf|exact Z7|exact Yu|exact Xw|exact Xv|exact YT|exact YM|exact xnt|exact xnf|exact YH|exact xex)(g4:gdB l ((d3,G)::((d2,F)::((d1,D)::L))) V=some true:=by exact rfl)(e4:V.dst=some d4:=by exact rfl)(b4:Nat.blt d4 n=true:=by exact rfl)(h5:Runs P ((d4,I)::((d3,G)::((d2,F)::((d1,D)::L)))) w U (.value J) w:=by first|exact xmv|exact xas|exact xpt|exact xpf|exact Z7|exact Yu|exact Xw|exact Xv|exact YT|exact YM|exact xnt|exact xnf|exact YH|exact xex)(g5:gdB l ((d4,I)::((d3,G)::((d2,F)::((d1,D)::L)))) U=some true:=by exact rfl)(e5:U.dst=some d5:=by exact rfl)(b5:Nat.blt d5 n=true:=by exact rfl)(h6:Runs P ((d5,J)::((d4,I)::((d3,G)::((d2,F)::((d1,D)::L))))) w O (.value Z) w:=by first|exact xmv|exact xas|exact xpt|exact xpf|exact Z7|exact Yu|exact Xw|exact Xv|exact YT|exact YM|exact xnt|exact xnf|exact YH|exact xex)(g6:gdB l ((d5,J)::((d4,I)::((d3,G)::((d2,F)::((d1,D)::L))))) O=some true:=by exact rfl)(e6:O.dst=some d6:=by exact rfl)(b6:Nat.blt d6 n=true:=by exact rfl):
 Gl P n ds l Q (Y::X::W::V::U::O::rest) L w:=zlv h1 (zlv h2 (zlv h3 (zlv h4 (zlv h5 (zlv h6 K g6 e6 b6) g5 e5 b5) g4 e4 b4) g3 e3 b3) g2 e2 b2) g1 e1 b1
theorem zsr(h:Gl P n ds l (Exit.then (y.wp P Q) Q) l L w):Gc P n ds Q (.seq (.region id l.toArray false) y) L w:=zsq (zrg h)
theorem zlt(h:Gc P n ds Q y L w):Gl P n ds l (Exit.then (y.wp P Q) Q') [] L w:=zln (ztn h)
theorem zlz{D:List Oper}(h:Gl P n ds l (Exit.then (y.wp P Q) Q) l L w):Gl P n ds D (Exit.then ((Code.seq (.region id l.toArray false) y).wp P Q) Q') [] L w:=zlt (zsr h)
theorem zOps{D G:Prop}(h:D)(k:D->G:=by intro g;(repeat (first|refine zlo ?_|refine zlv (by first|exact xmv|exact xas|exact xpt|exact xpf|exact Z7|exact Yu|exact Xw|exact Xv|exact YT|exact YM|exact xnt|exact xnf|exact YH|exact xex) ?_));exact g):G:=k h
theorem zV{o:Oper}{d:Nat}{w':World}{v:Value}(hr:Runs P L w o (.value v) w')(F:gdB l L o=some true:=by exact rfl)(hd:o.dst=some d:=by exact rfl)(D:Nat.blt d n=true:=by exact rfl):Gl P n ds l Q rest ((d,v)::L) w'->Gl P n ds l Q (o::rest) L w:=fun K=>zlv hr K F hd D
theorem zP{o:Oper}{d:Nat}{w':World}{v:Value}(hr:Runs P L w o (.value v) w':=by first|exact xmv|exact xas|exact xpt|exact xpf|exact Z7|exact Yu|exact Xw|exact Xv|exact YT|exact YM|exact xnt|exact xnf|exact YH|exact xex)(F:gdB l L o=some true:=by exact rfl)(hd:o.dst=some d:=by exact rfl)(D:Nat.blt d n=true:=by exact rfl):Gl P n ds l Q rest ((d,v)::L) w'->Gl P n ds l Q (o::rest) L w:=fun K=>zlv hr K F hd D
theorem Om{G F:Oper}{d1 d2:Nat}{w1 w2:World}{D X:Value}(J:Runs P L w G (.value D) w1:=by first|exact xmv|exact xas|exact xpt|exact xpf|exact Z7|exact Yu|exact Xw|exact Xv|exact YT|exact YM|exact xnt|exact xnf|exact YH|exact xex)(W:gdB l L G=some true:=by exact rfl)(hd1:G.dst=some d1:=by exact rfl)(U:Nat.blt d1 n=true:=by exact rfl)(I:Runs P ((d1,D)::L) w1 F (.value X) w2:=by first|exact xmv|exact xas|exact xpt|exact xpf|exact Z7|exact Yu|exact Xw|exact Xv|exact YT|exact YM|exact xnt|exact xnf|exact YH|exact xex)(V:gdB l ((d1,D)::L) F=some true:=by exact rfl)(hd2:F.dst=some d2:=by exact rfl)(O:Nat.blt d2 n=true:=by exact rfl):Gl P n ds l Q rest ((d2,X)::(d1,D)::L) w2->Gl P n ds l Q (G::F::rest) L w:=fun K=>zP J W hd1 U (zP I V hd2 O K)
theorem On{J I G:Oper}{d1 d2 d3:Nat}{w1 w2 w3:World}{D F v3:Value}(V:Runs P L w J (.value D) w1:=by first|exact xmv|exact xas|exact xpt|exact xpf|exact Z7|exact Yu|exact Xw|exact Xv|exact YT|exact YM|exact xnt|exact xnf|exact YH|exact xex)(ab:gdB l L J=some true:=by exact rfl)(hd1:J.dst=some d1:=by exact rfl)(Y:Nat.blt d1 n=true:=by exact rfl)(U:Runs P ((d1,D)::L) w1 I (.value F) w2:=by first|exact xmv|exact xas|exact xpt|exact xpf|exact Z7|exact Yu|exact Xw|exact Xv|exact YT|exact YM|exact xnt|exact xnf|exact YH|exact xex)(aa:gdB l ((d1,D)::L) I=some true:=by exact rfl)(hd2:I.dst=some d2:=by exact rfl)(X:Nat.blt d2 n=true:=by exact rfl)(O:Runs P ((d2,F)::(d1,D)::L) w2 G (.value v3) w3:=by first|exact xmv|exact xas|exact xpt|exact xpf|exact Z7|exact Yu|exact Xw|exact Xv|exact YT|exact YM|exact xnt|exact xnf|exact YH|exact xex)(Z:gdB l ((d2,F)::(d1,D)::L) G=some true:=by exact rfl)(ac:G.dst=some d3:=by exact rfl)(W:Nat.blt d3 n=true:=by exact rfl):Gl P n ds l Q rest ((d3,v3)::(d2,F)::(d1,D)::L) w3->Gl P n ds l Q (J::I::G::rest) L w:=fun K=>Om V ab hd1 Y U aa hd2 X (zP O Z ac W K)
theorem zO{o:Oper}{d:Nat}(F:gdB l L o=some false:=by exact rfl)(hd:o.dst=some d:=by exact rfl)(D:Nat.blt d n=true:=by exact rfl):Gl P n ds l Q rest ((d,undef)::L) w->Gl P n ds l Q (o::rest) L w:=fun K=>zlo K F hd D
theorem zx1{P:Program}{n:Nat}{ds:List Deferred}{L:List (Nat×Value)}{w:World}{F:List Oper}{D:Exit->Act->World->Prop}(h:Ge n ds D .ret L w):Gl P n ds F (Exit.then (Code.wp P .ret D) D) [] L w:=zlt<|zrt h
theorem zx2{P:Program}{n:Nat}{ds:List Deferred}{L:List (Nat×Value)}{w:World}{U:List Oper}{O:Nat}{I:Act->World->Prop}{G:Act->World->Prop}{J:Nat}{F:Act->World->Prop}{D:Exit->Act->World->Prop}(h:Ge n ds D .ret L w):Gl P n ds U (Exit.then (Code.wp P .ret (Exit.inBlock O (Exit.then I (Exit.then G (Exit.inBlock J (Exit.then F D)))))) (Exit.inBlock O (Exit.then I (Exit.then G (Exit.inBlock J (Exit.then F D)))))) [] L w:=zlt<|zrt<|zbr<|ztr<|ztr<|zbr<|ztr h
theorem zx3{P:Program}{n:Nat}{ds:List Deferred}{L:List (Nat×Value)}{w:World}{I:Nat}{O:Nat}{G:List Oper}{J:Code}{F:Code}{D:Exit->Act->World->Prop}(h:Gl P n ds G (Exit.then (Code.wp P J (Exit.inBlock I (Exit.then (Code.wp P F D) D))) (Exit.inBlock I (Exit.then (Code.wp P F D) D))) G L w):Gc P n ds (Exit.then (Code.wp P (.seq (.block I (.seq (.region O G.toArray false) J)) F) D) D) .skip L w:=zsk<|ztn<|zsq<|zbk<|zsr h
theorem zx4{P:Program}{n:Nat}{ds:List Deferred}{L:List (Nat×Value)}{w:World}{I:Nat}{G:Nat}{F:List Oper}{D:Exit->Act->World->Prop}(h:Gl P n ds F D F L w):Gc P n ds (Exit.inBlock I (Exit.then (Code.wp P (.region G F.toArray false) D) D)) .skip L w:=zsk<|zbn<|ztn<|zrg h
theorem zx5{P:Program}{n:Nat}{ds:List Deferred}{L:List (Nat×Value)}{w:World}{J:List Oper}{O:Nat}{G:List Oper}{I:Code}{F:Code}{D:Exit->Act->World->Prop}(h:Gl P n ds G (Exit.then (Code.wp P I (Exit.then (Code.wp P F D) D)) (Exit.then (Code.wp P F D) D)) G L w):Gl P n ds J (Exit.then (Code.wp P (.seq (.seq (.region O G.toArray false) I) F) D) D) [] L w:=zlt<|zsq<|zsr h
theorem zx6{P:Program}{n:Nat}{ds:List Deferred}{L:List (Nat×Value)}{w:World}{I:List Oper}{G:Nat}{F:Code}{D:Exit->Act->World->Prop}(h:Gc P n ds (Exit.inBlock G D) F L w):Gl P n ds I (Exit.then (Code.wp P (.block G F) D) D) [] L w:=zlt<|zbk h
theorem zx7{P:Program}{n:Nat}{ds:List Deferred}{L:List (Nat×Value)}{w:World}{I:List Oper}{G:Code}{F:Code}{D:Exit->Act->World->Prop}(h:Gc P n ds (Exit.then (Code.wp P F D) D) G L w):Gl P n ds I (Exit.then (Code.wp P (.seq G F) D) D) [] L w:=zlt<|zsq h
theorem zx8{P:Program}{n:Nat}{ds:List Deferred}{L:List (Nat×Value)}{w:World}{O:Act->World->Prop}{J:Act->World->Prop}{I:Nat}{U:Nat}{F:List Oper}{G:Code}{D:Exit->Act->World->Prop}(h:Gl P n ds F (Exit.then (Code.wp P G D) D) F L w):Gc P n ds (Exit.then O (Exit.then J (Exit.inBlock I (Exit.then (Code.wp P (.seq (.region U F.toArray false) G) D) D)))) (.exit I) L w:=zxt<|ztx<|ztx<|zbh<|ztn<|zsr h
theorem zx10{P:Program}{n:Nat}{ds:List Deferred}{L:List (Nat×Value)}{w:World}{G:List Oper}{J:Nat}{I:Nat}{F:List Oper}{D:Exit->Act->World->Prop}(h:Gl P n ds F D F L w):Gl P n ds G (Exit.inBlock J (Exit.then (Code.wp P (.region I F.toArray false) D) D)) [] L w:=zln<|zbn<|ztn<|zrg h
theorem zx11{P:Program}{n:Nat}{ds:List Deferred}{L:List (Nat×Value)}{w:World}{D:Exit->Act->World->Prop}{J:Nat}{G:List Oper}{I:Code}{F:Code}(h:Gl P n ds G (Exit.then (Code.wp P I (Exit.then (Code.wp P F D) D)) (Exit.then (Code.wp P F D) D)) G L w):Gc P n ds D (.seq (.seq (.region J G.toArray false) I) F) L w:=zsq<|zsr h
theorem ZM{P:Program}{n:Nat}{ds:List Deferred}{L:List (Nat×Value)}{w:World}{I:Nat}{F:List Oper}{G:Code}{D:Exit->Act->World->Prop}(h:Gl P n ds F (Exit.then (Code.wp P G D) D) F L w):Gc P n ds (Exit.then (Code.wp P (.seq (.region I F.toArray false) G) D) D) .skip L w:=zsk<|ztn<|zsr h
theorem zx14{P:Program}{n:Nat}{ds:List Deferred}{L:List (Nat×Value)}{w:World}{G:List Oper}{F:Act->World->Prop}{D:Exit->Act->World->Prop}(h:Ge n ds D .ret L w):Gl P n ds G (Exit.then (Code.wp P .ret (Exit.then F D)) (Exit.then F D)) [] L w:=zlt<|zrt<|ztr h
theorem YL{P:Program}{n:Nat}{ds:List Deferred}{L:List (Nat×Value)}{w:World}{J:Nat}{G:List Oper}{I:Code}{F:Code}{D:Exit->Act->World->Prop}(h:Gl P n ds G (Exit.then (Code.wp P I (Exit.then (Code.wp P F D) D)) (Exit.then (Code.wp P F D) D)) G L w):Gc P n ds (Exit.then (Code.wp P (.seq (.seq (.region J G.toArray false) I) F) D) D) .skip L w:=zsk<|ztn<|zsq<|zsr h
theorem zx18{P:Program}{n:Nat}{ds:List Deferred}{L:List (Nat×Value)}{w:World}{U:Act->World->Prop}{O:Act->World->Prop}{J:Nat}{V:Nat}{G:List Oper}{I:Code}{F:Code}{D:Exit->Act->World->Prop}(h:Gl P n ds G (Exit.then (Code.wp P I (Exit.then (Code.wp P F D) D)) (Exit.then (Code.wp P F D) D)) G L w):Gc P n ds (Exit.then U (Exit.then O (Exit.inBlock J (Exit.then (Code.wp P (.seq (.seq (.region V G.toArray false) I) F) D) D)))) (.exit J) L w:=zxt<|ztx<|ztx<|zbh<|ztn<|zsq<|zsr h
theorem zx21{P:Program}{n:Nat}{ds:List Deferred}{L:List (Nat×Value)}{w:World}{J:Act->World->Prop}{I:Act->World->Prop}{G:Nat}{U:Nat}{O:Nat}{F:List Oper}{D:Exit->Act->World->Prop}(h:Gl P n ds F D F L w):Gc P n ds (Exit.then J (Exit.then I (Exit.inBlock G (Exit.inBlock U (Exit.then (Code.wp P (.region O F.toArray false) D) D))))) (.exit G) L w:=zxt<|ztx<|ztx<|zbh<|zbn<|ztn<|zrg h
theorem zx27{P:Program}{n:Nat}{ds:List Deferred}{L:List (Nat×Value)}{w:World}{G:Nat}{J:Code}{I:Code}{F:Code}{D:Exit->Act->World->Prop}(h:Gc P n ds (Exit.then (Code.wp P I (Exit.inBlock G (Exit.then (Code.wp P F D) D))) (Exit.inBlock G (Exit.then (Code.wp P F D) D))) J L w):Gc P n ds (Exit.then (Code.wp P (.seq (.block G (.seq J I)) F) D) D) .skip L w:=zsk<|ztn<|zsq<|zbk<|zsq h
theorem Xt{P:Program}{n:Nat}{ds:List Deferred}{L:List (Nat×Value)}{w:World}{I:List Oper}{G:Nat}{F:Act->World->Prop}{D:Exit->Act->World->Prop}(h:Ge n ds D .ret L w):Gl P n ds I (Exit.then (Code.wp P .ret (Exit.inBlock G (Exit.then F D))) (Exit.inBlock G (Exit.then F D))) [] L w:=zlt<|zrt<|zbr<|ztr h
theorem zx38{P:Program}{n:Nat}{ds:List Deferred}{L:List (Nat×Value)}{w:World}{I:Nat}{G:Code}{F:Code}{D:Exit->Act->World->Prop}(h:Gc P n ds (Exit.inBlock I (Exit.then (Code.wp P F D) D)) G L w):Gc P n ds (Exit.then (Code.wp P (.seq (.block I G) F) D) D) .skip L w:=zsk<|ztn<|zsq<|zbk h
end
end Go.Proofs.Gw
namespace Go.Proofs.Gw
open Go Go.RowKit
variable {f:Oe} {v:Value} {w:World}
structure Prob where
  m:Int
  L:Oe
  d:Int
  D:Oe
  b8:Int
  bo:Int
def Prob.each(p:Prob)(i:Int):Prop:=1<=p.L i/\p.L i<=p.b8/\(0<i->p.L i<p.L (i-1))/\0<=p.D i/\p.D i<=1000
structure Prob.Ok (p:Prob):Prop where
  m1:1<=p.m
  m2:p.m<=20
  d:p.d=p.m
  s1:1<=p.b8
  s2:p.b8<=2000
  k1:0<=p.bo
  k2:p.bo<=100
  all:∀i,0<=i->i<p.m->p.each i
structure PAt (w:World) (vL vD:Value) (p:Prob):Prop where
  L:Row w vL 1 p.m (ints p.L)
  D:Row w vD 1 p.d (ints p.D)
  iL:∀k,-9223372036854775808<=p.L k/\p.L k<=9223372036854775807
  iD:∀k,-9223372036854775808<=p.D k/\p.D k<=9223372036854775807
  is: -9223372036854775808<=p.b8/\p.b8<=9223372036854775807
  ik: -9223372036854775808<=p.bo/\p.bo<=9223372036854775807
theorem PAt.below{w w':World}{vL vD:Value}{p:Prob}(h:PAt w vL vD p)(D:Below w.heap.size w w'):PAt w' vL vD p:=
 ⟨h.L.below D,h.D.below D,h.iL,h.iD,h.is,h.ik⟩
theorem PAt.Oo{w:World}{vL vD:Value}{p:Prob}(h:PAt w vL vD p):0<=p.m/\p.m<=140737488355328/\0<=p.d/\p.d<=140737488355328/\(-9223372036854775808<=p.b8/\p.b8<=9223372036854775807)/\-9223372036854775808<=p.bo/\p.bo<=9223372036854775807:=⟨h.L.cf.n0,h.L.cf.n1,h.D.cf.n0,h.D.cf.n1,h.is,h.ik⟩
structure IAt (w:World) (v:Value) (n:Int) (f:Oe):Prop where
  row:Row w v 1 n (ints f)
  i:∀k,-9223372036854775808<=f k/\f k<=9223372036854775807
theorem IAt.below{w w':World}{v:Value}{n:Int}{f:Oe}(h:IAt w v n f)(D:Below w.heap.size w w'):IAt w' v n f:=⟨h.row.below D,h.i⟩
theorem IAt.n0{w:World}{v:Value}{n:Int}{f:Oe}(h:IAt w v n f):0<=n:=h.row.cf.n0
theorem IAt.n1{w:World}{v:Value}{n:Int}{f:Oe}(h:IAt w v n f):n<=140737488355328:=h.row.cf.n1
def u8s(f:Oe):Int->Value:=fun k=> .int .u8 (f k)
def Formed(n:Int)(y:Oe)(q:Int):Prop:=1<=q/\q<=1073741824/\∀k,0<=k->k<n->0<=y k/\y k<=1073741824
end Go.Proofs.Gw
namespace Go.Proofs.Gw
open Go Go.RowKit
variable {c i j:Int}
def R(T:Oe)(s y:Int):Nat->Int->Int
  |0,c=>T c
  |k+1,c=>if((k:Int)+1)*s<=c then max (R T s y k c) (T (c-((k:Int)+1)*s)+((k:Int)+1)*y) else R T s y k c
theorem Zhs(T:Oe)(s y:Int)(k:Nat)(c:Int):R T s y k c<=R T s y (k+1) c:=by
 simp only [R];split<;>omega
theorem ZcJ(T:Oe)(s y:Int):∀(k n:Nat) (c:Int),n<=k->(n:Int)*s<=c->T (c-n*s)+n*y<=R T s y k c
 | 0,n,c,hn,_=>by
   obtain rfl:n=0:=Oa
   simp [R]
 | k +1,n,c,hn,hc=>by
   by_cases h:n=k+1
   · subst h
     have e:((k+1:Nat):Int)=(k:Int)+1:=Oa
     rw [e] at hc⊢
     simp only [R];rw [if_pos hc];omega
   · have:=ZcJ T s y k n c Oa hc
     have:=Zhs T s y k c
     omega
theorem ZbO (T:Oe) (s y:Int):∀(k:Nat) (c:Int),0<=c->∃n:Nat,n<=k/\(n:Int)*s<=c/\R T s y k c=T (c-n*s)+n*y
 |0,c,hc=>⟨0,Oa,by simpa using hc,by simp [R]⟩
 | k + 1,c,hc=>by
   obtain⟨n,h1,G,F⟩:=ZbO T s y k c hc
   simp only [R]
   split
   · rename_i h
     rcases Int.le_total (R T s y k c) (T (c-((k:Int)+1)*s)+((k:Int)+1)*y) with D|D
     · refine⟨k+1,Oa,?_,?_⟩
       · have e:((k+1:Nat):Int)=(k:Int)+1:=Oa
         rw [e];exact h
       · have e:((k+1:Nat):Int)=(k:Int)+1:=Oa
         rw [e,Int.max_eq_right D]
     · exact⟨n,Oa,G,by rw [Int.max_eq_left D];exact F⟩
   · exact⟨n,Oa,G,F⟩
theorem Zhr (T:Oe) (s y:Int) (J:0<=s) (k:Nat) (c:Int) (hc:0<=c):
   R T s y (k+1) c=if s<=c then max (R T s y k c) (R T s y k (c-s)+y) else R T s y k c:=by
 have O:0<=(k:Int)*s:=Int.mul_nonneg Oa J
 have Z:((k:Int)+1)*s=k*s+s:=by rw [Int.add_mul,Int.one_mul]
 split
 · rename_i h
   apply Int.le_antisymm
   · obtain⟨n,h1,D,I⟩:=ZbO T s y (k+1) c hc
     rw [I]
     by_cases hn:n<=k
     · have:=ZcJ T s y k n c hn D;omega
     · obtain rfl:n=k+1:=Oa
       have e:((k+1:Nat):Int)=(k:Int)+1:=Oa
       rw [e] at D⊢
       have G:=ZcJ T s y k k (c-s) (Nat.le_refl _) Oa
       have X:c-s-k*s=c-((k:Int)+1)*s:=Oa
       have Y:((k:Int)+1)*y=k*y+y:=by rw [Int.add_mul,Int.one_mul]
       rw [X] at G
       omega
   · have G:=Zhs T s y k c
     obtain⟨n,h1,D,I⟩:=ZbO T s y k (c-s) Oa
     have W:((n+1:Nat):Int)*s=n*s+s:=by rw [Int.natCast_add,Int.add_mul];simp
     have V:((n+1:Nat):Int)*y=n*y+y:=by rw [Int.natCast_add,Int.add_mul];simp
     have F:=ZcJ T s y (k+1) (n+1) c Oa Oa
     rw [W,V] at F
     have U:c-(n*s+s)=c-s-n*s:=Oa
     rw [U] at F
     omega
 · rename_i h
   simp only [R];rw [if_neg Oa]
theorem Zhq (T:Oe) (s y:Int) (c:Int) (k:Nat) (h:c<((k:Int)+1)*s) (D:0<=s):∀n,k<=n->R T s y n c=R T s y k c:=by
 intro n hn
 induction n with
 | zero => obtain rfl:k=0:=Oa
           rfl
 | succ n ih=>
   by_cases e:k=n+1
   · rw [e]
   · rw [<-ih Oa]
     simp only [R]
     have:((k:Int)+1)*s<=((n:Int)+1)*s:=Int.mul_le_mul_of_nonneg_right Oa D
     rw [if_neg Oa]
theorem ZaB{T:Oe}{s y M:Int}(F:1<=s)(D:0<=y)(hM:y<=M)(G:∀c,0<=c->0<=T c/\T c<=c*M)(k:Nat)(c:Int)(hc:0<=c):0<=R T s y k c/\R T s y k c<=c*M:=by
 obtain⟨n,h1,X,I⟩:=ZbO T s y k c hc
 rw [I]
 have W:=G (c-n*s) Oa
 have V:0<=(n:Int)*y:=Int.mul_nonneg Oa D
 have U:(n:Int)*y<=n*s*M:=by
   have Y:(n:Int)*y<=n*M:=Int.mul_le_mul_of_nonneg_left hM Oa
   have a2:(n:Int)*1<=n*s:=Int.mul_le_mul_of_nonneg_left F Oa
   have J:(n:Int)*1*M<=n*s*M:=Int.mul_le_mul_of_nonneg_right a2 Oa
   rw [Int.mul_one] at J
   omega
 have O:(c-n*s)*M=c*M-n*s*M:=Int.sub_mul _ _ _
 omega
def Tab(p:Prob)(y:Oe):Nat->Int->Int
  |0,_=>0
  |j+1,c=>R (Tab p y j) (p.L j+p.bo) (y j) (p.D j).toNat c
theorem Kv{p:Prob}(D:p.Ok){y:Oe}{M:Int}(hM:0<=M)(F:∀k,0<=k->k<p.m->0<=y k/\y k<=M):∀(j:Nat),(j:Int)<=p.m->∀c,0<=c->0<=Tab p y j c/\Tab p y j c<=c*M
 |0,_,c,hc=>⟨Int.le_refl _,Int.mul_nonneg hc hM⟩
 | j+1,hj,c,hc=>by
   have h1:=D.all j Oa Oa
   unfold Prob.each at h1
   have I:=D.k1
   have G:=F j Oa Oa
   exact ZaB Oa G.1 G.2 (fun c hc=>Kv D hM F j Oa c hc) _ c hc
def WV(p:Prob)(y:Oe):Int:=Tab p y p.m.toNat (p.b8+p.bo)
theorem ZA{α:Type}(f:Int->α)(k:Int)(x:α):upd f k x k=x:=by simp [upd]
theorem upd_ne{α:Type}(f:Int->α){k:Int}(x:α)(h:j≠k):upd f k x j=f j:=by simp [upd,h]
theorem YV{a b:Int}(D:0<=a)(G:1<=b):0<=a.tdiv b/\a.tdiv b<=a/\a<(a.tdiv b+1)*b/\a.tdiv b*b<=a:=by
 rw [Int.tdiv_eq_ediv_of_nonneg D]
 have h1:=Int.ediv_nonneg D (show 0<=b by omega)
 have V:=Int.mul_ediv_add_emod a b
 have U:=Int.emod_nonneg a (show b≠0 by omega)
 have O:=Int.emod_lt_of_pos a (show 0<b by omega)
 have J:(a/b+1)*b=b*(a/b)+b:=by rw [Int.add_mul,Int.one_mul,Int.mul_comm]
 have I:a/b*b=b*(a/b):=Int.mul_comm _ _
 have F:a/b<=a:=Int.ediv_le_self _ D
 refine⟨h1,F,?_,?_⟩<;>omega
def VS(p:Prob)(y:Oe):Prop:=∀k,0<=k->k<p.m->0<=y k/\y k<=1073741824
theorem Zol{p:Prob}(D:p.Ok){y:Oe}(F:VS p y)(I:0<=i)(h1:i<p.m)(k:Nat)(hc:0<=c):0<=R (Tab p y i.toNat) (p.L i+p.bo) (y i) k c/\R (Tab p y i.toNat) (p.L i+p.bo) (y i) k c<=c*1073741824:=by
 have J:=D.all i I h1
 unfold Prob.each at J
 have O:=D.k1
 have G:=F i I h1
 exact ZaB Oa G.1 G.2 (fun c hc=>Kv D Oa F _ Oa c hc) k c hc
theorem Tab_next{p:Prob}(D:p.Ok)(y:Oe){k:Int}(O:0<=i)(h1:i<p.m)(G:0<=k)(X:k<=p.D i)(F:min (p.D i) ((p.b8+p.bo).tdiv (p.L i+p.bo))<=k)(W:0<=j)(I:j<=p.b8+p.bo):
   R (Tab p y i.toNat) (p.L i+p.bo) (y i) k.toNat j=Tab p y (i+1).toNat j:=by
 have J:=D.all i O h1
 unfold Prob.each at J
 have h3:=D.k1
 have h4:=D.s1
 have e:(i+1).toNat=i.toNat+1:=Oa
 have V:((i.toNat:Nat):Int)=i:=Oa
 rw [e]
 simp only [Tab,V]
 by_cases hd:p.D i<=k
 · obtain rfl:k=p.D i:=Oa
   rfl
 · have h5:=YV (a:=p.b8+p.bo) (b:=p.L i+p.bo) Oa Oa
   have Z:(p.b8+p.bo).tdiv (p.L i+p.bo)<=k:=Oa
   have Y:((p.b8+p.bo).tdiv (p.L i+p.bo)+1)*(p.L i+p.bo)<=(k+1)*(p.L i+p.bo):=Int.mul_le_mul_of_nonneg_right Oa Oa
   have U:((k.toNat:Nat):Int)=k:=Oa
   exact(Zhq _ _ _ j k.toNat (by rw [U];omega) Oa _ Oa).symm
theorem Zjl{p:Prob}(D:p.Ok)(y:Oe)(J:0<=i)(h1:i<p.m){k:Nat}{f:Oe}(hc:p.L i+p.bo<=c)
   (F:∀j,0<=j->j<=c->f j=R (Tab p y i.toNat) (p.L i+p.bo) (y i) k j) {x:Int} (G:x=max (f c) (f (c-p.L i-p.bo)+y i)):x=R (Tab p y i.toNat) (p.L i+p.bo) (y i) (k+1) c:=by
 have I:=D.all i J h1
 unfold Prob.each at I
 have O:=D.k1
 rw [Zhr _ _ _ Oa k c Oa,if_pos hc,G,F c Oa Oa,F (c-p.L i-p.bo) Oa Oa]
 rw [show c-p.L i-p.bo=c-(p.L i+p.bo) by omega]
theorem Zom{p:Prob}(F:p.Ok)(y:Oe)(I:0<=i)(h1:i<p.m)(k:Nat)(D:0<=j)(J:j<p.L i+p.bo):R (Tab p y i.toNat) (p.L i+p.bo) (y i) k j=R (Tab p y i.toNat) (p.L i+p.bo) (y i) (k+1) j:=by
 have G:=F.all i I h1
 unfold Prob.each at G
 have O:=F.k1
 rw [Zhr _ _ _ Oa k j D,if_neg Oa]
theorem XE{α:Type}(g:Int->α)(s:Nat):cat ((0:Int)*s) g g=g:=by
 funext j;simp only [cat,Int.zero_mul];split<;>simp
theorem ZoH(T:Oe)(s y:Int){n:Int}(h:1<=n)(hc:n*s<=c):R T s y n.toNat c=max (R T s y (n-1).toNat c) (T (c-n*s)+n*y):=by
 obtain⟨k,rfl⟩:∃k:Nat,n=(k:Int)+1:=⟨(n-1).toNat,Oa⟩
 have F:((k:Int)+1).toNat=k+1:=Oa
 have D:((k:Int)+1-1).toNat=k:=Oa
 rw [F,D];simp only [R];rw [if_pos hc]
end Go.Proofs.Gw
namespace Go.Proofs.Gw
open Go Go.RowKit
variable {y:Oe}
noncomputable def Chk(p:Prob)(n:Int)(y:Oe)(q:Int):Int:=
  @ite _ (p.Ok/\Formed n y q/\n=p.m) (Classical.propDecidable _) (if q<WV p y then 21 else 0) 1
theorem Zei{p:Prob}{n:Int}{q:Int}(h:¬p.Ok\/¬Formed n y q\/n≠p.m):Chk p n y q=1:=by
 unfold Chk;rw [if_neg]
 rintro⟨h1,h2,h3⟩
 rcases h with h|h|h<;>exact h ‹_›
theorem ZjM{p:Prob}{n:Int}{q:Int}(h1:p.Ok)(F:Formed n y q)(D:n=p.m)(h:q<WV p y):Chk p n y q=21:=by
 unfold Chk;rw [if_pos ⟨h1,F,D⟩,if_pos h]
theorem Zgr{p:Prob}{n:Int}{q:Int}(h1:p.Ok)(F:Formed n y q)(D:n=p.m)(h:¬q<WV p y):Chk p n y q=0:=by
 unfold Chk;rw [if_pos ⟨h1,F,D⟩,if_neg h]
theorem WO{p:Prob}{n:Int}{q:Int}(h:Chk p n y q=0):p.Ok/\Formed n y q/\n=p.m/\WV p y<=q:=by
 by_cases h1:p.Ok/\Formed n y q/\n=p.m
 · by_cases h2:q<WV p y
   · rw [ZjM h1.1 h1.2.1 h1.2.2 h2] at h;omega
   · exact⟨h1.1,h1.2.1,h1.2.2,Oa⟩
 · have:Chk p n y q=1:=by unfold Chk;rw [if_neg h1]
   omega
def Tot(D y:Oe):Nat->Int
  |0=>0
  |k+1=>Tot D y k+D k*y k
theorem Zhm(D y:Oe){i:Int}(h:0<=i):Tot D y (i+1).toNat=Tot D y i.toNat+D i*y i:=by
 rw [show(i+1).toNat=i.toNat+1 by omega]
 simp only [Tot]
 rw [show((i.toNat:Nat):Int)=i by omega]
theorem XI{a b A B:Int}(h1:0<=a)(G:a<=A)(D:0<=b)(F:b<=B):0<=a*b/\a*b<=A*B:=
 ⟨Int.mul_nonneg h1 D,Int.mul_le_mul G F D Oa⟩
theorem Kt{D y:Oe}{m A:Int}(F:0<=A)(h:∀k,0<=k->k<m->0<=D k*y k/\D k*y k<=A):∀k:Nat,(k:Int)<=m->0<=Tot D y k/\Tot D y k<=k*A
 |0,_=>by simp [Tot]
 | k+1,hk=>by
   have h1:=Kt F h k Oa
   have G:=h k Oa Oa
   simp only [Tot]
   have e:((k+1:Nat):Int)*A=k*A+A:=by rw [Int.natCast_add,Int.add_mul];simp
   omega
theorem Formed.j8{p:Prob}{n:Int}{q:Int}(h:Formed n y q)(e:n=p.m):VS p y:=fun k D h1=>h.2.2 k D Oa
theorem ZcS{p:Prob}(J:p.Ok)(I:VS p y)(k:Int)(G:0<=k)(h1:k<p.m):0<=p.D k*y k/\p.D k*y k<=1073741824000:=by
 have D:=J.all k G h1
 unfold Prob.each at D
 have F:=I k G h1
 have:=XI (A:=1000) (B:=1073741824) D.2.2.2.1 D.2.2.2.2 F.1 F.2
 omega
theorem Zb2{p:Prob}(F:p.Ok)(I:VS p y)(k:Int)(G:0<=k)(h1:k<=p.m):0<=Tot p.D y k.toNat/\Tot p.D y k.toNat<=21474836480000:=by
 have h:=Kt (D:=p.D) (y:=y) (m:=p.m) (A:=1073741824000) Oa (fun k G h1=>ZcS F I k G h1) k.toNat Oa
 have:=F.m2
 have e:((k.toNat:Nat):Int)=k:=Oa
 rw [e] at h
 omega
def Bnd(p:Prob)(y:Oe)(q:Int):Int:=(Tot p.D y p.m.toNat+q-1).tdiv q
noncomputable def YZ(p:Prob)(n:Int)(y:Oe)(q:Int):Int:=if Chk p n y q=0 then Bnd p y q else 0
def Zop(p:Prob):Prop:=p.m<=25/\p.d<=25/\(p.Ok->(∀i,0<=i->i<p.d->p.D i<=30)/\p.m<=6/\p.b8<=12*p.L (p.m-1))
theorem Zcf(l:List Int)(h:(l.all fun n=>decide (-9223372036854775808<=n)&&decide (n<=9223372036854775807))=true)(k:Int): -9223372036854775808<=l.getD k.toNat 0/\l.getD k.toNat 0<=9223372036854775807:=by
 rw [List.getD_eq_getElem?_getD]
 cases D:l[k.toNat]? with
 |none=>simp
 | some n=>
   have:=List.all_eq_true.1 h n (List.mem_of_getElem? D)
   rw [Bool.and_eq_true,decide_eq_true_eq,decide_eq_true_eq] at this
   simpa using this
def y0:Oe:=fun k=> [1,0].getD k.toNat 0
def y1:Oe:=fun k=> [1,1].getD k.toNat 0
theorem two{P:Int->Prop}(D:P 0)(h1:P 1):∀i:Int,0<=i->i<2->P i:=fun i a b=>by
 have:i=0\/i=1:=Oa
 rcases this with rfl|rfl
 · exact D
 · exact h1
theorem VQ{p:Prob}{n:Int}{q:Int}(h:Chk p n y q=0):YZ p n y q=Bnd p y q:=by unfold YZ;rw [if_pos h]
theorem ZmZ{p:Prob}{n:Int}{q:Int}(h:Chk p n y q≠0):YZ p n y q=0:=by unfold YZ;rw [if_neg h]
def Prob.with(p:Prob)(f:Oe):Prob:=⟨p.m,p.L,p.d,f,p.b8,p.bo⟩
theorem Zh6{p:Prob}(D:p.Ok){f:Oe}(hf:∀k,0<=k->k<p.d->0<=f k/\f k<=p.D k):(p.with f).Ok:=
 ⟨D.m1,D.m2,D.d,D.s1,D.s2,D.k1,D.k2,fun i G h1=>by
   have F:i<p.m:=h1
   have I:=D.all i G F
   unfold Prob.each at I⊢
   have J:=hf i G (by rw [D.d];exact F)
   simp only [Prob.with]
   omega⟩
end Go.Proofs.Gw
namespace Go.Proofs.Gw
open Go Go.RowKit
variable {k x:Int} {f:Oe}
def snoc(f:Oe)(n x:Int):Oe:=fun k=>if k<n then f k else x
theorem Ya(f:Oe)(n x:Int):cat (n*1) (ints f) (ints fun _=>x)=ints (snoc f n x):=by
 funext j;simp only [cat,ints,snoc,Int.mul_one];split<;>rfl
theorem Zl{n:Int}(h:k<n):snoc f n x k=f k:=if_pos h
theorem Zk{n:Int}(h:¬k<n):snoc f n x k=x:=if_neg h
theorem VX{g:Oe}{i:Int}(h:∀k,0<=k->k<i->f k=g k)(F:x=g i):∀k,0<=k->k<i+1->snoc f i x k=g k:=fun k D G=>by
 by_cases e:k<i
 · rw [Zl e];exact h k D e
 · rw [Zk e,F];congr 1;omega
def Res(bad ok:Prop)(n:Int)(g:Oe)(q n':Int)(y':Oe)(q' e:Int):Prop:=
  (bad/\e=1/\n'=0/\q'=0)\/(¬bad/\¬ok/\e=2/\n'=0/\q'=0)\/(¬bad/\ok/\e=0/\n'=n/\q'=q/\∀k,0<=k->k<n->y' k=g k)
theorem Res.at{D ok:Prop}{n q:Int}{g:Oe}{n1 F e:Int}{y1:Oe}(h:Res D ok n g q n1 y1 F e)(G:e=k):Res D ok n g q n1 y1 F k:=G▸h
end Go.Proofs.Gw
namespace Go.Proofs.Gw
open Go Go.RowKit
variable {e i j r:Int} {ln:Oe} {f:Of} {vv:Int->Value} {v:Value} {w w' w0:World}
structure Tb where
  vars:Int
  den:Int
  nb:Int
  nf:Int
  nc:Int
  B:Oe
  F:Oe
  ln:Oe
  C:Of
structure MAt (w:World) (v:Value) (n:Int) (vv:Int->Value) (ln:Oe) (f:Of):Prop where
  row:Row w v 1 n vv
  p:∀i,0<=i->i<n->Row w (vv i) 1 (ln i) (ints (f i))
  room:∀i,0<=i->i<n->X2 (vv i)
theorem MAt.below{w w':World}{v:Value}{n:Int}{vv:Int->Value}{ln:Oe}{f:Of}(h:MAt w v n vv ln f)(D:Below w.heap.size w w'):MAt w' v n vv ln f:=⟨h.row.below D,fun i a b=>(h.p i a b).below D,h.room⟩
structure TAt (w:World) (vB vF vC:Value) (vv:Int->Value) (t:Tb):Prop where
  B:Row w vB 1 t.nb (ints t.B)
  F:Row w vF 1 t.nf (ints t.F)
  C:MAt w vC t.nc vv t.ln t.C
theorem TAt.below{w w':World}{vB F G:Value}{vv:Int->Value}{t:Tb}(h:TAt w vB F G vv t)(D:Below w.heap.size w w'):TAt w' vB F G vv t:=⟨h.B.below D,h.F.below D,h.C.below D⟩
theorem Sat.gb{l:List Ent}{E:TypeId}{n:Int}(h:Sat w0 w l)(i:Nat)(hi:l[i]? =some (.sem (Frame.rows E n vv ln f))){k:Int}(F:0<=k)(D:k<n):X2 (vv k):=
 ((h.holds _ (List.mem_of_getElem? hi)).1 k F D).roomy
theorem Sat.ref{l:List Ent}{a:Addr}(D:Sat w0 w l)(hc:w0.cell? a=some v):w.cell? a=some v:=by
 rw [D.below.cell (World.block_lt_of_cell? w0 _ hc)];exact hc
def Btw(f:Oe)(n m:Int):Prop:=∀k,0<=k->k<n-> -m<=f k/\f k<=m
def PermF(c:Oe)(N:Int):Prop:=(∀i,0<=i->i<N->0<=c i/\c i<N)/\∀i j,0<=i->i<N->0<=j->j<N->c i=c j->i=j
theorem ZhO{l:List Int}(F:l.Pairwise (· < ·))(hr:∀a∈l,0<=a/\a<l.length):∀i (h:i<l.length),l[i]=i:=by
 have D:∀i (h:i<l.length),(i:Int)<=l[i]:=by
   intro i
   induction i with
   |zero=>intro h;exact(hr _ (List.getElem_mem h)).1
   | succ i ih=>
     intro h
     have h1:=ih Oa
     have I:=List.pairwise_iff_getElem.1 F i (i+1) Oa h Oa
     omega
 have G:∀d i (h:i<l.length),l.length-1-i=d->l[i]<=i:=by
   intro d
   induction d with
   |zero=>intro i h hd;have:=(hr _ (List.getElem_mem h)).2;omega
   | succ d ih=>
     intro i h hd
     have h1:=ih (i+1) Oa Oa
     have I:=List.pairwise_iff_getElem.1 F i (i+1) h Oa Oa
     omega
 intro i h
 have:=D i h;have:=G _ i h rfl;omega
theorem Wd {c g:Oe} {N:Int} (hN:0<=N) (hg:ZB g N=(ZB c N).mergeSort fun x y=>decide (x<=y)):(∀i,0<=i->i<N->g i=i)↔PermF c N:=by
 have hl:(ZB c N).length=N.toNat:=Ye c N
 have Z:(ZB g N).length=N.toNat:=Ye g N
 have D:∀i (h:i<(ZB c N).length),(ZB c N)[i]=c i:=fun i h=>by simp [ZB]
 have G:∀i (h:i<(ZB g N).length),(ZB g N)[i]=g i:=fun i h=>by simp [ZB]
 have V:(ZB g N).Perm (ZB c N):=by rw [hg];exact List.mergeSort_perm _ _
 constructor
 · intro h
   have I:(ZB g N).Nodup:=by
     refine List.pairwise_iff_getElem.2 fun i j hi O F=> ?_
     rw [G i hi,G j O,h i Oa Oa,h j Oa Oa];omega
   have U:(ZB c N).Nodup:=V.nodup_iff.1 I
   refine⟨fun i J Y=> ?_,fun i j J Y j0 j1 e=> ?_⟩
   · have hm:c i∈ZB c N:=VN.2 ⟨i,J,Y,rfl⟩
     obtain⟨k,X,W,e⟩:=VN.1 (V.mem_iff.2 hm)
     rw [h k X W] at e;omega
   · rcases Int.lt_trichotomy i j with F|F|F
     · have:=List.pairwise_iff_getElem.1 U i.toNat j.toNat Oa Oa Oa
       rw [D _ Oa,D _ Oa,Int.toNat_of_nonneg J,Int.toNat_of_nonneg j0] at this
       exact absurd e this
     · exact F
     · have:=List.pairwise_iff_getElem.1 U j.toNat i.toNat Oa Oa Oa
       rw [D _ Oa,D _ Oa,Int.toNat_of_nonneg J,Int.toNat_of_nonneg j0] at this
       exact absurd e.symm this
 · intro h i J Y
   have U:(ZB c N).Nodup:=by
     refine List.pairwise_iff_getElem.2 fun i j hi O F e=> ?_
     rw [D i hi,D j O] at e
     have:=h.2 i j Oa Oa Oa Oa e;omega
   have I:(ZB g N).Nodup:=V.nodup_iff.2 U
   have hs:(ZB g N).Pairwise (fun x y=>decide (x<=y)=true):=by rw [hg];exact List.pairwise_mergeSort (le:=fun x y:Int=>decide (x<=y)) (fun a b c h1 h2=>by simp only [decide_eq_true_eq] at*;omega) (fun a b=>by simp only [Bool.or_eq_true,decide_eq_true_eq];omega) (ZB c N)
   have hlt:(ZB g N).Pairwise (· < ·):=by
     refine List.pairwise_iff_getElem.2 fun i j hi O F=> ?_
     have h1:=List.pairwise_iff_getElem.1 hs i j hi O F
     have h2:=List.pairwise_iff_getElem.1 I i j hi O F
     simp only [decide_eq_true_eq] at h1
     omega
   have:=ZhO hlt (fun a ha=>by
     obtain⟨k,X,W,e⟩:=VN.1 (V.mem_iff.1 ha)
     have:=h.1 k X W
     rw [Z];omega) i.toNat Oa
   rw [G _ Oa,Int.toNat_of_nonneg J] at this
   exact this
theorem RM{n m:Int}{F B:Oe}(hn:0<=n)(hm:0<=m)(h:PermF (cat n F B) (n+m)):PermF (cat m B F) (m+n):=by
 have V:∀i,0<=i->i<m+n->∃j,0<=j/\j<n+m/\cat m B F i=cat n F B j/\(i<m->j=n+i)/\(¬i<m->j=i-m):=fun i U O=>by
   by_cases h:i<m
   · exact⟨n+i,Oa,Oa,by unfold cat;rw [if_pos h,if_neg Oa];congr 1;omega,fun _=>rfl,fun Y=>absurd h Y⟩
   · exact⟨i-m,Oa,Oa,by unfold cat;rw [if_neg h,if_pos Oa],fun Y=>absurd Y h,fun _=>rfl⟩
 refine⟨fun i U O=> ?_,fun i j U O X W e=> ?_⟩
 · obtain⟨j,X,W,e,_⟩:=V i U O
   have:=h.1 j X W
   rw [e];omega
 · obtain⟨a,a0,a1,ea,J,I⟩:=V i U O
   obtain⟨b,b0,b1,Z,G,D⟩:=V j X W
   have:=h.2 a b a0 a1 b0 b1 (by rw [<-ea,<-Z,e])
   by_cases hi:i<m<;>by_cases hj:j<m
   · have:=J hi;have:=G hj;omega
   · have:=J hi;have:=D hj;omega
   · have:=I hi;have:=G hj;omega
   · have:=I hi;have:=D hj;omega
def Tb.rowOk(t:Tb)(i:Int):Prop:=t.ln i=t.nf+1/\∀j,0<=j->j<t.ln i-> -1073741824<=t.C i j/\t.C i j<=1073741824
structure TPrp (t:Tb):Prop where
  n1:1<=t.nf
  n2:t.nf<=60
  m2:t.nb<=16
  v:t.vars=t.nf
  d1:1<=t.den
  d2:t.den<=1073741824
  c:t.nc=t.nb+1
  perm:PermF (cat t.nf t.F t.B) (t.nf+t.nb)
  rows:∀i,0<=i->i<t.nc->t.rowOk i
theorem TPrp.cell{t:Tb}(h:TPrp t)(F:0<=i)(I:i<=t.nb)(D:0<=j)(G:j<=t.nf): -1073741824<=t.C i j/\t.C i j<=1073741824:=by
 have hc:=h.c
 have:=h.rows i F Oa
 exact this.2 j D (by rw [this.1];omega)
theorem TPrp.len{t:Tb}(h:TPrp t)(D:0<=i)(F:i<=t.nb):t.ln i=t.nf+1:=by
 have hc:=h.c
 exact(h.rows i D Oa).1
theorem TPrp.my{t:Tb}(h:TPrp t)(I:0<=i)(G:i<t.nf)(F:0<=j)(D:j<t.nf)(J:0<=t.nb)(e:t.F i=t.F j):i=j:=
 h.perm.2 i j I Oa F Oa (by unfold cat;rw [if_pos G,if_pos D];exact e)
theorem TPrp.ly{t:Tb}(h:TPrp t)(F:0<=i)(D:i<t.nf)(G:0<=t.nb):0<=t.F i/\t.F i<t.nf+t.nb:=by
 have:=h.perm.1 i F Oa
 unfold cat at this;rw [if_pos D] at this;exact this
theorem TPrp.lz{t:Tb}(h:TPrp t)(F:0<=i)(D:i<t.nb):0<=t.B i/\t.B i<t.nf+t.nb:=by
 have hn:=h.n1
 have:=h.perm.1 (t.nf+i) Oa Oa
 unfold cat at this;rw [if_neg Oa,show t.nf+i-t.nf=i by omega] at this;exact this
theorem YC{a d:Int}(hd:1<=d){A:Int}(D: -A<=a/\a<=A): -A<=a.tdiv d/\a.tdiv d<=A:=by
 have h:=Int.natAbs_tdiv_le_natAbs a d
 omega
structure NAt (w:World) (v:Value) (n:Int) (vv:Int->Value) (ln:Oe) (f:Of):Prop where
  row:Row w v 1 n vv
  p:∀i,0<=i->i<n->Row w (vv i) 1 (ln i) (ints (f i))
theorem NAt.below{w w':World}{v:Value}{n:Int}{vv:Int->Value}{ln:Oe}{f:Of}(h:NAt w v n vv ln f)(D:Below w.heap.size w w'):NAt w' v n vv ln f:=⟨h.row.below D,fun i a b=>(h.p i a b).below D⟩
def tot(ln:Oe):Nat->Int
  |0=>0
  |k+1=>tot ln k+ln k
def VE(ln:Oe)(f:Of):Nat->Int->Int
  |0=>fun _=>0
  |k+1=>cat (tot ln k) (VE ln f k) (f k)
theorem XC(ln:Oe)(h:0<=i):tot ln (i+1).toNat=tot ln i.toNat+ln i:=by
 rw [show(i+1).toNat=i.toNat+1 by omega,tot,Int.toNat_of_nonneg h]
theorem catN_next(ln:Oe)(f:Of)(h:0<=i):VE ln f (i+1).toNat=cat (tot ln i.toNat) (VE ln f i.toNat) (f i):=by
 rw [show(i+1).toNat=i.toNat+1 by omega,VE,Int.toNat_of_nonneg h]
def Yh{α:Type}(a b:α):Int->α:=fun k=>if k=0 then a else b
theorem Zow{a b:Value}{n m:Int}{f g:Oe}(h:Row w v 1 2 (Yh a b))(F:Row w a 1 n (ints f))(D:Row w b 1 m (ints g)):NAt w v 2 (Yh a b) (Yh n m) (Yh f g):=
 ⟨h, fun i I G=>by
   by_cases e:i=0
   · subst e;exact F
   · have:i=1:=Oa
     subst this;exact D⟩
theorem ZhA(n m:Int):tot (Yh n m) 2=n+m:=by simp [tot,Yh]
theorem Kj(n m:Int)(f g:Oe){k:Int}(D:0<=k):VE (Yh n m) (Yh f g) 2 k=cat n f g k:=by
 simp only [VE,tot,Yh,cat,Int.zero_add]
 simp
 by_cases h:k<n
 · rw [if_pos h,if_pos h,if_neg Oa]
 · rw [if_neg h,if_neg h]
theorem PermF.congr{c d:Oe}{N:Int}(h:PermF c N)(e:∀k,0<=k->k<N->c k=d k):PermF d N:=
 ⟨fun i F D=>by rw [<-e i F D];exact h.1 i F D,fun i j F D I G J=>h.2 i j F D I G (by rw [e i F D,e j I G];exact J)⟩
theorem Sat.kept{l:List Ent}{e:Ent}(F:Sat w0 w l)(h:e.holds w0):e.holds w:=h.keep fun g D=>F.below.block g (h.lt D)
open Go.Sort in
theorem ZdY{P:Program}{w w0:World}{l1 l2:List Ent}{fn:FuncId}(V:∀(p:Option Addr) (cap:Nat) (w:World),Calls P fn #[.slice p 0 cap] w fun e w'=>e= .returned (.tuple #[])/\w'=w)
   (U:∀(D off cap:Nat) (F:List Int) (w:World),Holds (Value.int .i64) w D off F.toArray->D<w.heap.size->F.length<4611686018427387904->
     Calls P fn #[.slice (some ⟨D,off,none⟩) F.length cap] w fun e w'=>e= .returned (.tuple #[])/\∃n os,w'=grow (putRow (Value.int .i64) (Sort.ahead w n) D off (F.mergeSort fun x y=>decide (x<=y)).toArray) os)
   {v:Value} {E:TypeId} {n:Int} {f:Oe} (I:Sat w0 w (l1++ .own v 1 E n (ints f)::l2)):
   Calls P fn #[v] w fun e w'=>∃u,e= .returned u/\u= .tuple #[]/\∃g,ZB g n=((ZB f n).mergeSort fun x y=>decide (x<=y))/\Sat w0 w' (l1++ .own v 1 E n (ints g)::l2):=by
 obtain⟨W,h1,⟨rfl,rfl⟩|⟨g,cap,cur,rfl,_⟩⟩:=I.get
 · refine(V none 0 w).mono fun e w' ⟨he,hw⟩=>⟨_,he,rfl,f,by simp [ZB],by rw [hw];exact I⟩
 · obtain⟨O,hlt,_,_⟩:=I.held
   have G:=Ye f n
   have:=U g 0 cap (ZB f n) w O hlt (by rw [G];omega)
   rw [G] at this
   refine this.mono fun e w' ⟨he,q,os,hw⟩=>⟨_,he,rfl,ZeG ((ZB f n).mergeSort fun x y=>decide (x<=y)),?_,?_⟩
   · have J:=Zbe ((ZB f n).mergeSort fun x y=>decide (x<=y))
     rw [List.length_mergeSort,G,show((n.toNat:Nat):Int)=n by omega] at J
     exact J
   · rw [hw]
     exact I.put (by rw [List.length_mergeSort,G])
theorem Xo{a b A B:Int}(G: -A<=a/\a<=A)(F: -B<=b/\b<=B): -(A*B)<=a*b/\a*b<=A*B:=by
 have h:=Int.natAbs_mul a b
 have h1:(a.natAbs:Int)<=A:=Oa
 have D:(b.natAbs:Int)<=B:=Oa
 have J:=Int.mul_le_mul h1 D Oa Oa
 have I:((a*b).natAbs:Int)=(a.natAbs:Int)*b.natAbs:=by rw [h,Int.natCast_mul]
 omega
def Z3(t:Tb):Nat->Int
  |0=> -1
  |k+1=>if t.C (k+1) 0<0/\(Z3 t k<0\/t.B k<t.B (Z3 t k)) then k else Z3 t k
theorem YX(t:Tb):∀k:Nat,Z3 t k= -1\/(0<=Z3 t k/\Z3 t k<k)
 |0=> .inl rfl
 | k+1=>by
   have:=YX t k
   unfold Z3;split<;>omega
theorem Xh(t:Tb)(h:0<=i):Z3 t (i+1).toNat=if t.C (i+1) 0<0/\(Z3 t i.toNat<0\/t.B i<t.B (Z3 t i.toNat)) then i else Z3 t i.toNat:=by
 rw [show(i+1).toNat=i.toNat+1 by omega,Z3,Int.toNat_of_nonneg h]
theorem TQ (t:Tb):∀k:Nat,(Z3 t k= -1->∀i:Int,0<=i->i<k->0<=t.C (i+1) 0)/\(0<=Z3 t k->t.C (Z3 t k+1) 0<0)
 |0=>⟨fun _ i J h1=>Oa,fun h=>by unfold Z3 at h;omega⟩
 | k + 1=>by
   obtain⟨h1,G⟩:=TQ t k
   have hr:=YX t k
   unfold Z3
   by_cases hc:t.C (k+1) 0<0/\(Z3 t k<0\/t.B k<t.B (Z3 t k))
   · rw [if_pos hc];exact⟨fun h=>Oa,fun _=>hc.1⟩
   · rw [if_neg hc]
     refine⟨fun h i F I=> ?_,G⟩
     by_cases e:i=k
     · subst e
       rcases Int.lt_or_le (t.C (k+1) 0) 0 with D|D
       · exact absurd ⟨D,.inl Oa⟩ hc
       · exact D
     · exact h1 h i F Oa
def Xl (t:Tb) (r:Int):Nat->Int
  |0=> -1
  | k +1=>if t.C (r+1) (k+1)<=0 then Xl t r k
    else if Xl t r k<0 then k
    else if t.C 0 (k+1)*t.C (r+1) (Xl t r k+1)<t.C 0 (Xl t r k+1)*t.C (r+1) (k+1)\/
      (t.C 0 (k+1)*t.C (r+1) (Xl t r k+1)=t.C 0 (Xl t r k+1)*t.C (r+1) (k+1)/\t.F k<t.F (Xl t r k)) then k else Xl t r k
theorem Ws(t:Tb)(r:Int):∀k:Nat,Xl t r k= -1\/(0<=Xl t r k/\Xl t r k<k)
 |0=> .inl rfl
 | k+1=>by
   have:=Ws t r k
   unfold Xl;split<;>(try split)<;>(try split)<;>omega
theorem Yp(t:Tb)(r:Int)(h:0<=j):Xl t r (j+1).toNat=if t.C (r+1) (j+1)<=0 then Xl t r j.toNat
   else if Xl t r j.toNat<0 then j
   else if t.C 0 (j+1)*t.C (r+1) (Xl t r j.toNat+1)<t.C 0 (Xl t r j.toNat+1)*t.C (r+1) (j+1)\/
     (t.C 0 (j+1)*t.C (r+1) (Xl t r j.toNat+1)=t.C 0 (Xl t r j.toNat+1)*t.C (r+1) (j+1)/\t.F j<t.F (Xl t r j.toNat)) then j else Xl t r j.toNat:=by
 rw [show(j+1).toNat=j.toNat+1 by omega,Xl,Int.toNat_of_nonneg h]
def Tb.ix(t:Tb):Prop:=∀j,1<=j->j<=t.nf->0<=t.C 0 j
def NextR(t:Tb)(r c:Int)(d:Bool)(e:Int):Prop:=
  (¬(TPrp t/\t.ix)/\r=0/\c=0/\d=false/\e=1)\/
  (TPrp t/\t.ix/\Z3 t t.nb.toNat<0/\r=0/\c=0/\d=true/\e=0)\/
  (TPrp t/\t.ix/\0<=Z3 t t.nb.toNat/\Xl t (Z3 t t.nb.toNat) t.nf.toNat<0/\r=0/\c=0/\d=false/\e=19)\/
  (TPrp t/\t.ix/\0<=Z3 t t.nb.toNat/\0<=Xl t (Z3 t t.nb.toNat) t.nf.toNat/\r=Z3 t t.nb.toNat/\c=Xl t (Z3 t t.nb.toNat) t.nf.toNat/\d=false/\e=0)
def Yb(t:Tb)(r s i j:Int):Int:=if i=r/\j=s then t.den else if i=r then-t.C i j else if j=s then t.C i j else(t.C r s*t.C i j-t.C i s*t.C r j).tdiv t.den
def piv(t:Tb)(row col:Int):Tb where
  vars:=t.vars
  den:=if t.C (row+1) (col+1)<0 then-t.C (row+1) (col+1) else t.C (row+1) (col+1)
  nb:=t.nb
  nf:=t.nf
  nc:=t.nc
  B:=upd t.B row (t.F col)
  F:=upd t.F col (t.B row)
  ln:=t.ln
  C:=fun i j=>if t.C (row+1) (col+1)<0 then-Yb t (row+1) (col+1) i j else Yb t (row+1) (col+1) i j
def Tb.zero:Tb:=⟨0,0,0,0,0,fun _=>0,fun _=>0,fun _=>0,fun _ _=>0⟩
def RO(t:Tb)(row col:Int):Prop:=TPrp t/\0<=row/\row<t.nb/\0<=col/\col<t.nf/\t.C (row+1) (col+1)≠0
def Zaj(t:Tb)(r s i j:Int):Prop:=i≠r->j≠s->(t.C r s*t.C i j-t.C i s*t.C r j).tmod t.den=0
def Zd1(t:Tb)(row col:Int):Prop:=∀i j,0<=i->i<=t.nb->0<=j->j<=t.nf->Zaj t (row+1) (col+1) i j
def Zjm (t:Tb) (row col:Int) (t':Tb) (e:Int):Prop:=
  (¬RO t row col/\t'=Tb.zero/\e=1)\/(RO t row col/\¬Zd1 t row col/\t'=Tb.zero/\e=4)\/(RO t row col/\Zd1 t row col/\¬TPrp (piv t row col)/\t'=Tb.zero/\e=2)\/
    (RO t row col/\Zd1 t row col/\TPrp (piv t row col)/\t'=piv t row col/\e=0)
theorem Za1{t:Tb}(h:TPrp t){s:Int}(F:0<=r)(D:r<=t.nb)(s0:0<=s)(s1:s<=t.nf)(O:0<=i)(J:i<=t.nb)(I:0<=j)(G:j<=t.nf): -9223372036854775807<=Yb t r s i j/\Yb t r s i j<=9223372036854775807:=by
 have X:=h.cell F D s0 s1
 have a2:=h.cell O J I G
 have W:=h.cell O J s0 s1
 have V:=h.cell F D I G
 have Z:=Xo X a2
 have Y:=Xo W V
 have U:=h.d1;have d2:=h.d2
 have q:=YC (a:=t.C r s*t.C i j-t.C i s*t.C r j) (d:=t.den) (A:=2305843009213693952) U Oa
 unfold Yb
 split
 · omega
 · split
   · omega
   · split<;>omega
inductive Run:Nat->Tb->Tb->Int->Prop
  |stop {k:Nat} {t:Tb} {r c e:Int} {d:Bool} (h:NextR t r c d e) (hd:d=true\/e≠0):Run k t t e
  |lim {t:Tb} {r c:Int} (h:NextR t r c false 0):Run 0 t t 9
  |bad {k:Nat} {t t':Tb} {r c e:Int} (h:NextR t r c false 0) (hp:Zjm t r c t' e) (he:e≠0):Run (k+1) t t e
  |go {k:Nat} {t t' u:Tb} {r c e:Int} (h:NextR t r c false 0) (hp:Zjm t r c t' 0) (hr:Run k t' u e):Run (k+1) t u e
structure Lp where
  n:Int
  m:Int
  k:Int
  c:Oe
  ln:Oe
  A:Of
  b:Oe
structure LAt (w:World) (vc vA vb:Value) (vv:Int->Value) (p:Lp):Prop where
  c:Row w vc 1 p.n (ints p.c)
  A:MAt w vA p.m vv p.ln p.A
  b:Row w vb 1 p.k (ints p.b)
theorem LAt.below{w w':World}{vc vA vb:Value}{vv:Int->Value}{p:Lp}(h:LAt w vc vA vb vv p)(D:Below w.heap.size w w'):LAt w' vc vA vb vv p:=⟨h.c.below D,h.A.below D,h.b.below D⟩
structure LOk (p:Lp):Prop where
  n1:1<=p.n
  n2:p.n<=60
  m2:p.m<=16
  k:p.k=p.m
  c:∀j,0<=j->j<p.n->0<=p.c j/\p.c j<=1000000
  b:∀i,0<=i->i<p.m-> -1000000<=p.b i/\p.b i<=1000000
  rows:∀i,0<=i->i<p.m->p.ln i=p.n/\∀j,0<=j->j<p.n-> -1000000<=p.A i j/\p.A i j<=1000000
def ZD(p:Lp):Tb:=⟨p.n,1,p.m,p.n,p.m+1,fun i=>p.n+i,fun j=>j,fun _=>p.n+1,fun i j=>if i=0 then(if j=0 then 0 else p.c (j-1)) else if j=0 then-p.b (i-1) else p.A (i-1) (j-1)⟩
def StartR(p:Lp)(t:Tb)(e:Int):Prop:=(¬LOk p/\t=Tb.zero/\e=1)\/(LOk p/\t=ZD p/\e=0)
theorem Zhg(d:Bool):Value.bool d=B (d=true):=by
 cases d
 · exact(B_false (by simp)).symm
 · exact(ZP rfl).symm
theorem Yq{l:List Ent}{vB U V I F G:Value}{D:Int->Value}{t u:Tb}{E1 Z Y X:TypeId}(hO:TAt w vB U V vv t)(hS:Sat w0 w l)(i:Nat)
   (hi:l[i]? =some (.sem (Frame.lc (u=t/\I=vB/\F=U/\G=V/\D=vv) (Frame.gm [.own I 1 E1 u.nb (ints u.B),.own F 1 Z u.nf (ints u.F),.own G 1 Y u.nc D,.sem (Frame.rows X u.nc D u.ln u.C)])))):TAt w I F G D u:=by
 rcases hS.holds _ (List.mem_of_getElem? hi) with h|⟨h,_⟩
 · obtain⟨rfl,rfl,rfl,rfl,rfl⟩:=h;exact hO
 · have W:=h (.sem (Frame.rows X u.nc D u.ln u.C)) (by simp)
   exact⟨(h (.own I 1 E1 u.nb (ints u.B)) (by simp)).row,(h (.own F 1 Z u.nf (ints u.F)) (by simp)).row,(h (.own G 1 Y u.nc D) (by simp)).row,fun k O J=>(W.1 k O J).row,fun k O J=>(W.1 k O J).roomy⟩
theorem NextR.ia{t:Tb}{c:Int}{d:Bool}(h:NextR t r c d e): -1<=r/\r<=t.nb.toNat/\ -1<=c/\c<=t.nf.toNat:=by
 have h1:=YX t t.nb.toNat
 have D:=Ws t (Z3 t t.nb.toNat) t.nf.toNat
 rcases h with⟨_,h3,h4,_⟩|⟨_,_,_,h3,h4,_⟩|⟨_,_,_,_,h3,h4,_⟩|⟨_,_,_,_,h3,h4,_⟩<;>omega
theorem NextR.ns{t:Tb}{c:Int}{d:Bool}(h:NextR t r c d e)(D:e≠1):TPrp t/\t.ix:=by
 rcases h with⟨_,_,_,_,h⟩|⟨h,h2,_⟩|⟨h,h2,_⟩|⟨h,h2,_⟩
 · exact absurd h D
 · exact⟨h,h2⟩
 · exact⟨h,h2⟩
 · exact⟨h,h2⟩
theorem Run.ll{k:Nat}{t u:Tb}(h:Run k t u e):u.nb=t.nb/\u.nf=t.nf/\u.nc=t.nc/\u.vars=t.vars:=by
 induction h with
 |stop=>exact⟨rfl,rfl,rfl,rfl⟩
 |lim=>exact⟨rfl,rfl,rfl,rfl⟩
 |bad=>exact⟨rfl,rfl,rfl,rfl⟩
 | go h hp hr ih=>
   rcases hp with⟨_,_,h⟩|⟨_,_,_,h⟩|⟨_,_,_,_,h⟩|⟨_,_,_,rfl,_⟩
   · omega
   · omega
   · omega
   · exact ih
theorem Run.fin {k:Nat} {t u:Tb} (h:Run k t u e) (G:e=0\/e=19):TPrp u/\u.ix/\(e=0->Z3 u u.nb.toNat<0)/\(e=19->0<=Z3 u u.nb.toNat/\Xl u (Z3 u u.nb.toNat) u.nf.toNat<0):=by
 induction h with
 | stop h hd=>
   have:=h.ns Oa
   refine⟨this.1,this.2,fun F=> ?_,fun F=> ?_⟩
   · rcases h with⟨_,_,_,_,h⟩|⟨_,_,h,_⟩|⟨_,_,_,_,_,_,_,h⟩|⟨_,_,_,_,_,_,D,h⟩
     · omega
     · exact h
     · omega
     · rcases hd with hd|hd
       · rw [hd] at D;cases D
       · exact absurd F hd
   · rcases h with⟨_,_,_,_,h⟩|⟨_,_,_,_,_,_,h⟩|⟨_,_,h1,h2,_⟩|⟨_,_,_,_,_,_,_,h⟩
     · omega
     · omega
     · exact⟨h1,h2⟩
     · omega
 |lim=>omega
 | bad h hp he'=>
   rcases hp with⟨_,_,h⟩|⟨_,_,_,h⟩|⟨_,_,_,_,h⟩|⟨_,_,_,_,h⟩<;>omega
 |go h hp hr ih=>exact ih G
def rdX(u:Tb):Nat->Int->Int
  |0=>fun _=>0
  |k+1=>if u.B k<u.vars then upd (rdX u k) (u.B k) (u.C (k+1) 0) else rdX u k
def rdY(u:Tb):Nat->Int->Int
  |0=>fun _=>0
  |k+1=>if u.vars<=u.F k then upd (rdY u k) (u.F k-u.vars) (u.C 0 (k+1)) else rdY u k
theorem V6(u:Tb)(h:0<=i):rdX u (i+1).toNat=if u.B i<u.vars then upd (rdX u i.toNat) (u.B i) (u.C (i+1) 0) else rdX u i.toNat:=by
 rw [show(i+1).toNat=i.toNat+1 by omega,rdX,Int.toNat_of_nonneg h]
theorem V5(u:Tb)(h:0<=i):rdY u (i+1).toNat=if u.vars<=u.F i then upd (rdY u i.toNat) (u.F i-u.vars) (u.C 0 (i+1)) else rdY u i.toNat:=by
 rw [show(i+1).toNat=i.toNat+1 by omega,rdY,Int.toNat_of_nonneg h]
structure So where
  n:Int
  m:Int
  X:Oe
  Y:Oe
  val:Int
  den:Int
def So.zero:So:=⟨0,0,fun _=>0,fun _=>0,0,0⟩
def XU(u:Tb):So:=⟨u.nf,u.nb,rdX u u.nb.toNat,rdY u u.nf.toNat,u.C 0 0,u.den⟩
def SolveR(p:Lp)(s:So)(e:Int):Prop:=(¬LOk p/\s=So.zero/\e=1)\/(LOk p/\∃u,Run 1000 (ZD p) u e/\((e≠0/\s=So.zero)\/(e=0/\s=XU u)))
end Go.Proofs.Gw
namespace Go.Proofs.YtkichmnjjblodaaGreat
open Go.Shelf
noncomputable abbrev Oj:=Tryz.prog
def Zbh:Go.Shelf.Ren:=⟨fun|189=>238|125=>243|257=>242|128=>253|129=>254|294=>244|295=>245|296=>246|297=>247|298=>248|299=>249|216=>250|300=>251|301=>252|328=>255|329=>256|330=>257|331=>258|332=>259|215=>174|343=>260|n=>n,fun|28=>22|3=>3|46=>259|0=>0|51=>277|53=>280|4=>4|183=>298|182=>297|131=>237|5=>5|9=>9|218=>305|222=>309|228=>311|229=>312|n=>n,fun|n=>n⟩
theorem Zc5:Go.Proofs.Lays.n189 Oj Zbh:={
 mixed:=Gw.Ob
 f125:=Tryz.func243.trans (congrArg some (by kernel_rfl))
 f128:=Tryz.func253.trans (congrArg some (by kernel_rfl))
 f129:=Tryz.func254.trans (congrArg some (by kernel_rfl))
 f189:=Tryz.func238.trans (congrArg some (by kernel_rfl))
 f215:=Tryz.func174.trans (congrArg some (by kernel_rfl))
 f216:=Tryz.func250.trans (congrArg some (by kernel_rfl))
 f257:=Tryz.func242.trans (congrArg some (by kernel_rfl))
 f294:=Tryz.func244.trans (congrArg some (by kernel_rfl))
 f295:=Tryz.func245.trans (congrArg some (by kernel_rfl))
 f296:=Tryz.func246.trans (congrArg some (by kernel_rfl))
 f297:=Tryz.func247.trans (congrArg some (by kernel_rfl))
 f298:=Tryz.func248.trans (congrArg some (by kernel_rfl))
 f299:=Tryz.func249.trans (congrArg some (by kernel_rfl))
 f300:=Tryz.func251.trans (congrArg some (by kernel_rfl))
 f301:=Tryz.func252.trans (congrArg some (by kernel_rfl))
 f328:=Tryz.func255.trans (congrArg some (by kernel_rfl))
 f329:=Tryz.func256.trans (congrArg some (by kernel_rfl))
 f330:=Tryz.func257.trans (congrArg some (by kernel_rfl))
 f331:=Tryz.func258.trans (congrArg some (by kernel_rfl))
 f332:=Tryz.func259.trans (congrArg some (by kernel_rfl))
 f343:=Tryz.func260.trans (congrArg some (by kernel_rfl))
 t0:=Tryz.underlying0
 a0:=Tryz.isAgg0
 z0:=Tryz.sizeOf0
 v0:=Tryz.zeroValue0
 t3:=Tryz.underlying3
 a3:=Tryz.isAgg3
 z3:=Tryz.sizeOf3
 v3:=Tryz.zeroValue3
 t4:=Tryz.underlying4
 a4:=Tryz.isAgg4
 z4:=Tryz.sizeOf4
 v4:=Tryz.zeroValue4
 t5:=Tryz.underlying5
 a5:=Tryz.isAgg5
 z5:=Tryz.sizeOf5
 v5:=Tryz.zeroValue5
 t9:=Tryz.underlying9
 a9:=Tryz.isAgg9
 z9:=Tryz.sizeOf9
 v9:=Tryz.zeroValue9
 t28:=Tryz.underlying22
 a28:=Tryz.isAgg22
 z28:=Tryz.sizeOf22
 v28:=Tryz.zeroValue22
 t46:=Tryz.underlying259
 a46:=Tryz.isAgg259
 z46:=Tryz.sizeOf259
 v46:=Tryz.zeroValue259
 t51:=Tryz.underlying277
 a51:=Tryz.isAgg277
 z51:=Tryz.sizeOf277
 v51:=Tryz.zeroValue277
 t53:=Tryz.underlying280
 a53:=Tryz.isAgg280
 z53:=Tryz.sizeOf280
 v53:=Tryz.zeroValue280
 t131:=Tryz.underlying237
 a131:=Tryz.isAgg237
 z131:=Tryz.sizeOf237
 v131:=Tryz.zeroValue237
 t182:=Tryz.underlying297
 a182:=Tryz.isAgg297
 z182:=Tryz.sizeOf297
 v182:=Tryz.zeroValue297
 t183:=Tryz.underlying298
 a183:=Tryz.isAgg298
 z183:=Tryz.sizeOf298
 v183:=Tryz.zeroValue298
 t218:=Tryz.underlying305
 a218:=Tryz.isAgg305
 z218:=Tryz.sizeOf305
 v218:=Tryz.zeroValue305
 t222:=Tryz.underlying309
 a222:=Tryz.isAgg309
 z222:=Tryz.sizeOf309
 v222:=Tryz.zeroValue309
 t228:=Tryz.underlying311
 a228:=Tryz.isAgg311
 z228:=Tryz.sizeOf311
 v228:=Tryz.zeroValue311
 t229:=Tryz.underlying312
 a229:=Tryz.isAgg312
 z229:=Tryz.sizeOf312
 v229:=Tryz.zeroValue312}
open Go.Sort Go.RowKit in
theorem slices_Sort_int(D off cap:Nat)(F:List Int)(w:World)(J:Holds (Value.int .i64) w D off F.toArray)(I:D<w.heap.size)(G:F.length<4611686018427387904):
 Calls Oj 238 #[.slice (some ⟨D,off,none⟩) F.length cap] w fun e w'=>
   e= .returned (.tuple #[])/\∃n os,w'=grow (putRow (Value.int .i64) (Sort.ahead w n) D off (F.mergeSort fun x y=>decide (x<=y)).toArray) os:=Any.slices_Sort_int Zc5 D off cap F w J I G
def Zbg:Go.Shelf.Ren:=⟨fun|212=>207|263=>219|264=>220|n=>n,fun|46=>259|51=>277|146=>278|53=>280|148=>281|n=>n,fun|n=>n⟩
theorem Zh8:Go.Proofs.Lays.n212 Oj Zbg:={
 mixed:=Gw.Ob
 f212:=Tryz.func207.trans (congrArg some (by kernel_rfl))
 f263:=Tryz.func219.trans (congrArg some (by kernel_rfl))
 f264:=Tryz.func220.trans (congrArg some (by kernel_rfl))
 t46:=Tryz.underlying259
 a46:=Tryz.isAgg259
 z46:=Tryz.sizeOf259
 v46:=Tryz.zeroValue259
 t51:=Tryz.underlying277
 a51:=Tryz.isAgg277
 z51:=Tryz.sizeOf277
 v51:=Tryz.zeroValue277
 t53:=Tryz.underlying280
 a53:=Tryz.isAgg280
 z53:=Tryz.sizeOf280
 v53:=Tryz.zeroValue280
 t146:=Tryz.underlying278
 a146:=Tryz.isAgg278
 z146:=Tryz.sizeOf278
 v146:=Tryz.zeroValue278
 t148:=Tryz.underlying281
 a148:=Tryz.isAgg281
 z148:=Tryz.sizeOf281
 v148:=Tryz.zeroValue281}
open Go.RowKit Go.Lib in
theorem Tryz.bits_Mul(x y:Nat)(F:x<18446744073709551616)(D:y<18446744073709551616)(w:World):
 Calls Oj 207 #[.int .u64 x,.int .u64 y] w fun e w'=>e= .returned (.tuple #[.int .u64 ((x*y/18446744073709551616:Nat):Int),.int .u64 ((x*y%18446744073709551616:Nat):Int)])/\w'=w:=Any.bits_Mul Zh8 x y F D w
def Ro:Go.Shelf.Ren:=⟨fun|15=>65|n=>n,fun|22=>22|3=>3|4=>4|n=>n,fun|n=>n⟩
theorem UJ:Go.Proofs.Lays2.n15 Oj Ro:={
 mixed:=Gw.Ob
 f15:=Tryz.func65.trans (congrArg some (by kernel_rfl))
 t3:=Tryz.underlying3
 a3:=Tryz.isAgg3
 z3:=Tryz.sizeOf3
 v3:=Tryz.zeroValue3
 t4:=Tryz.underlying4
 a4:=Tryz.isAgg4
 z4:=Tryz.sizeOf4
 v4:=Tryz.zeroValue4
 t22:=Tryz.underlying22
 a22:=Tryz.isAgg22
 z22:=Tryz.sizeOf22
 v22:=Tryz.zeroValue22
 i3:=by kernel_rfl}
open Go.RowKit Go.Lib in
theorem slices_Clone_int(b off n c:Nat)(D:List Int)(w:World)(G:n<=D.length)(I:n*8<=140737488355328)(hc:∀j,j<D.length->w.cell? ⟨b,off+j,none⟩=some (.int Gw.Oh (D.getD j 0))):
 Calls Oj 65 #[.slice (some ⟨b,off,none⟩) n c] w fun e w'=>∃F,e= .returned F/\w'.ownsRow w.heap.size 3 1 F n ((D.take n).map (Value.int .i64))/\F≠ Gw.Og/\Below w.heap.size w w':=Any.slices_Clone_int UJ b off n c D w G I hc
open Go.RowKit Go.Lib in
theorem slices_Clone_int_nil(n c:Nat)(w:World):
 Calls Oj 65 #[.slice none n c] w fun e w'=>e= .returned Gw.Og/\w'=w:=Any.slices_Clone_int_nil UJ n c w
open Go.RowKit Go.Lib in
theorem slices_Clone_int_zero(a:Addr)(c:Nat)(w:World):
 Calls Oj 65 #[.slice (some a) 0 c] w fun e w'=>∃D,e= .returned D/\w'.ownsRow w.heap.size 3 1 D 0 []/\D≠ Gw.Og/\Below w.heap.size w w':=Any.slices_Clone_int_zero UJ a c w
open Go.RowKit Go.Sort in
theorem slices_Sort_int_none(p:Option Addr)(cap:Nat)(w:World):
 Calls Oj 238 #[.slice p 0 cap] w fun e w'=>e= .returned (.tuple #[])/\w'=w:=Any.slices_Sort_int_none Zc5 p cap w
def VD:Go.Shelf.Ren:=⟨fun|41=>163|n=>n,fun|22=>83|23=>22|4=>4|n=>n,fun|n=>n⟩
theorem WT:Go.Proofs.SlLaysE0.n41 Oj VD:={
 mixed:=Gw.Ob
 f41:=⟨Tryz.f163.name,by decide,Tryz.func163.trans (congrArg some (by kernel_rfl))⟩
 t4:=Tryz.underlying4
 a4:=Tryz.isAgg4
 z4:=Tryz.sizeOf4
 v4:=Tryz.zeroValue4
 t22:=Tryz.underlying83
 a22:=Tryz.isAgg83
 z22:=Tryz.sizeOf83
 v22:=Tryz.zeroValue83}
open Go.RowKit Go.Lib in
theorem VY(G:TypeInfo)(z:Value)(size F:Nat)(hi:Tryz.prog.info? 22=some G)(W:G.zero=some z)(V:G.size=size)(U:G.bytes=F)(O:z.cells.size=size)(X:0<size)(I:∀w,(Go.sizeOf 22).run Oj w= .ok size w)(b off n c:Nat)(D:List Value)(w:World)(Y:D.length=n*size)(hn:n<=maxLen)(Z:n*F<=140737488355328)(hc:∀j u,D[j]? =some u->w.cell? ⟨b,off+j,none⟩=some u)(h1:∀u∈D,u.oneCell'=true):
 Calls Oj 163 #[.slice (some ⟨b,off,none⟩) n c] w fun e w'=>∃J,e= .returned J/\w'.ownsRow w.heap.size 22 size J n D/\J≠ Gw.Og/\Below w.heap.size w w':=AnyE.slices_Clone WT G z size F hi W V U O X I b off n c D w Y hn Z hc h1
open Go.RowKit Go.Lib in
theorem WW(n c:Nat)(w:World):
 Calls Oj 163 #[.slice none n c] w fun e w'=>e= .returned Gw.Og/\w'=w:=AnyE.slices_Clone_nil WT n c w
open Go Go.RowKit Go.Shelf
attribute [local go_sem] Oper.semAt_some
def It.upto{α:Type}(f:Nat->α)(k:Nat):List α:=(List.range k).map f
theorem It.upto_succ{α:Type}(f:Nat->α)(k:Nat):It.upto f (k+1)=It.upto f k++ [f k]:=by simp [It.upto,List.range_succ]
theorem It.upto_length{α:Type}(f:Nat->α)(k:Nat):(It.upto f k).length=k:=by simp [It.upto]
theorem It.upto_all(zs:List Int):It.upto (fun j=>zs[j]?.getD 0) zs.length=zs:=by
 apply List.ext_getElem
 · simp [It.upto]
 · intro i h1 D
   simp [It.upto,D]
set_option maxRecDepth 100000 in
theorem It.values1_in (F:Fence) (n:Nat) (h7:F.fn 239) (hro:F.round=none) (hn:1<=n) (l Bs n₀ b off len cap:Nat) (zs:List Int) (zU:len*8<=140737488351232) (hb:b<n₀) (J Jx:List Int->World->Prop)
   (hY:∀pre x W,J pre W->pre.length<len->YieldAt F (n-1) Oj l #[.int Gw.Oh x] W fun e W'=>
     (e= .returned (.bool true)/\J (pre++ [x]) W'/\Below n₀ W W')\/(e= .returned (.bool false)/\Jx (pre++ [x]) W'))
   (W:World) (hBs:W.cell? ⟨Bs,0,none⟩=some (.slice (some ⟨b,off,none⟩) len cap)) (hc:∀j,j<len->W.cell? ⟨b,off+j,none⟩=some (.int Gw.Oh (zs[j]?.getD 0))) (h0:J [] W):
   CallsIn F n Oj 239 #[.func (.yield l) #[] #[],Gw.Oq Bs] W fun e W'=>(∃v,e= .returned v)/\
     ((∃ys,ys=It.upto (fun j=>zs[j]?.getD 0) len/\J ys W')\/(∃pre,(∃k,k<=len/\pre=It.upto (fun j=>zs[j]?.getD 0) k)/\Jx pre W')):=by
 refine callsIn_of_wp Tryz.func239 rfl h7 ?_ hro
 simp only [Tryz.ntmps239,List.size_toArray,List.length_cons,List.length_nil,Nat.reduceAdd,Nat.reduceSub,Array.replicate_succ,Array.replicate_zero,List.push_toArray,List.append_toArray,List.nil_append,List.cons_append]
 gi_wp2
 gi_loopw [7] (fun i wr=>∃k:Nat,k<=len/\i= .int Gw.Oh k/\J (It.upto (fun j=>zs[j]?.getD 0) k) wr/\Below n₀ W wr)
   (fun i _=>len-(intOf i).toNat)
 case atStart=>exact⟨0,Nat.zero_le _,rfl,h0,Below.refl _ _⟩
 case round=>
   obtain⟨k,hk,rfl,hJs,hnx⟩:=hrel
   have hcx:k<len->wr.cell? ⟨b,off+k,none⟩=some (.int Gw.Oh (zs[k]?.getD 0)):=fun h=>(hnx.cell (p:=⟨b,off+k,none⟩) hb).trans (hc k h)
   by_cases hlt:k<len
   · obtain⟨fn,tmps,assign,body,hy,hR⟩:=hY _ (zs[k]?.getD 0) wr hJs (by rw [It.upto_length];exact hlt)
     have me:=hcx hlt
     gi_wp2
     refine hR.mono ?_
     rintro e W3 (⟨rfl,hJ3,hk3⟩|⟨rfl,ke⟩)
     ·
       gi_wp2
       go_roundw
       case rel=>exact⟨k+1,Gw.Oa,by simp,by rw [It.upto_succ];exact hJ3,hnx.trans hk3⟩
       case measure=>simp [intOf];omega
     · gi_wp2
       refine bodyPost_ret (results_none rfl _ _ _) rfl ?_
       exact⟨⟨_,rfl⟩,.inr ⟨_,⟨k+1,Gw.Oa,(It.upto_succ _ _).symm⟩,ke⟩⟩
   · obtain rfl:k=len:=Gw.Oa
     gi_wp2
     go_end0
     exact⟨⟨_,rfl⟩,.inl ⟨_,rfl,hJs⟩⟩
theorem It.upto_take(D:List Int){k:Nat}(F:k<=D.length):It.upto (fun j=>D[j]?.getD 0) k=D.take k:=by
 apply List.ext_getElem
 · simp [It.upto,F]
 · intro i h1 G
   have:i<D.length:=by simp [It.upto] at h1;omega
   simp [It.upto,this]
def It.Ints(n₀:Nat)(W:World)(sv:Value)(zs:List Int):Prop:=
  (sv=Gw.Og/\zs= [])\/∃b off cap,sv= .slice (some ⟨b,off,none⟩) zs.length cap/\b<n₀/\∀j,j<zs.length->W.cell? ⟨b,off+j,none⟩=some (.int Gw.Oh (zs[j]?.getD 0))
theorem It.Ints.below{D:Nat}{A B:World}(h:Below D A B){G:Value}{F:List Int}:It.Ints D A G F->It.Ints D B G F
 | .inl e=> .inl e
 | .inr ⟨b,off,cap,e,hb,hc⟩=> .inr ⟨b,off,cap,e,hb,fun j I=>(h.cell (p:=⟨b,off+j,none⟩) hb).trans (hc j I)⟩
set_option maxRecDepth 100000 in
theorem It.values1_nil_in(F:Fence)(n:Nat)(h7:F.fn 239)(hro:F.round=none)(l Bs:Nat)(J:List Int->World->Prop)(W:World)(hBs:W.cell? ⟨Bs,0,none⟩=some Gw.Og)(h0:J [] W):
   CallsIn F n Oj 239 #[.func (.yield l) #[] #[],Gw.Oq Bs] W fun e W'=>(∃v,e= .returned v)/\J [] W':=by
 refine callsIn_of_wp Tryz.func239 rfl h7 ?_ hro
 simp only [Tryz.ntmps239,List.size_toArray,List.length_cons,List.length_nil,Nat.reduceAdd,Nat.reduceSub,Array.replicate_succ,Array.replicate_zero,List.push_toArray,List.append_toArray,List.nil_append,List.cons_append]
 gi_wp2
 gi_loopw [7] (fun i wr=>i= .int Gw.Oh 0/\J [] wr) (fun _ _=>0)
 case atStart=>exact⟨rfl,h0⟩
 case round=>
   obtain⟨rfl,hJs⟩:=hrel
   gi_wp2
   go_end0
   exact⟨⟨_,rfl⟩,hJs⟩
theorem It.values_stops(F:Fence)(n:Nat)(h7:F.fn 239)(U:F.round=none)(hn:1<=n)(O D:Nat)(sv:Value)(G:List Int)(zU:G.length*8<=140737488351232)(w:World)(Z:O<w.heap.size)(I:D<=w.heap.size)
   (hc:w.cell? ⟨O,0,none⟩=some sv) (hI:It.Ints D w sv G):
   SeqStopsK F n Oj 239 #[Gw.Oq O] (fun x:Int=> #[Value.int Gw.Oh x]) (Below D) (fun ys=>ys=G) (fun pre=>pre<+:G) G.length w:=fun l J Jx W hW _ _ hY h0=>by
 have X:=(hW.cell (p:=⟨O,0,none⟩) Z).trans hc
 rcases hI.below (hW.mono I) with⟨rfl,rfl⟩|⟨b,off,cap,rfl,hb,hcs⟩
 · exact(It.values1_nil_in F n h7 U l O J W X h0).mono fun e W' ⟨Y,V⟩=>⟨Y,.inl ⟨_,rfl,V⟩⟩
 · refine(It.values1_in F n h7 U hn l O D b off G.length cap G zU hb J Jx hY W X hcs h0).mono ?_
   rintro e W' ⟨Y,⟨ys,rfl,V⟩|⟨pre,⟨k,hk,rfl⟩,V⟩⟩
   · exact⟨Y,.inl ⟨_,It.upto_all G,V⟩⟩
   · exact⟨Y,.inr ⟨_,by rw [It.upto_take G hk];exact List.take_prefix _ _,V⟩⟩
theorem It.info3:(Tryz.prog.info? 3).map (fun i=>(i.zero,i.size,i.bytes))=some (some (.int Gw.Oh 0),1,8):=Gw.Ob
set_option maxRecDepth 100000 in
theorem It.appendSeq_in(F:Fence)(n:Nat)(h3:F.fn 241)(h5:F.fn 239)(hro:F.round=none)(hn:3<=n)(Bs:Nat)(sv:Value)(zs:List Int)(xV:zs.length<=maxLen)(zU:zs.length*8<=140737488351232)(w:World)
   (hBs:Bs<w.heap.size) (hcs:w.cell? ⟨Bs,0,none⟩=some sv) (hI:It.Ints w.heap.size w sv zs):
   CallsIn F n Oj 241 #[Gw.Og,.func (.func 239) #[] #[Gw.Oq Bs]] w fun e W'=>∃v,e= .returned v/\W'.ownsRow w.heap.size 3 1 v zs.length (zs.map (Value.int .i64))/\Below w.heap.size w W':=by
 have h1:1<=n:=Gw.Oa
 obtain⟨i0,hi,hz0,hz1,hz2⟩:=info_parts It.info3
 refine callsIn_of_wp_marks Tryz.func241 rfl h3 ?_ hro
 simp only [Tryz.ntmps241,List.size_toArray,List.length_cons,List.length_nil,Nat.reduceAdd,Nat.reduceSub,Array.replicate_succ,Array.replicate_zero,List.push_toArray,List.append_toArray,List.nil_append,List.cons_append]
 gi_wp2
 have bO:=Boxed.new w 22 Gw.Og
 have hB0:Below w.heap.size w (w.alloc (.cells #[Gw.Og] 22)):=(Below.refl _ w).alloc (Nat.le_refl _) _
 refine wpIn_rangeFunc_ownG hro h1 (gf:=239) (lb:= #[Gw.Oq Bs]) rfl h5 (enters_of Tryz.func239 (by kernel_rfl) rfl)
   (It.values_stops F (n-1) h5 hro Gw.Oa Bs w.heap.size sv zs zU _ (by simp;omega) (by simp) ((hB0.cell (p:=⟨Bs,0,none⟩) hBs).trans hcs) (hI.below hB0)) belowK_t (belowK_b (by simp)) (Below.refl _ _) (fun _=>rfl)
   (fun pre W=>(∃v,Boxed W w.heap.size 22 v/\W.ownsRow w.heap.size 3 1 v pre.length (pre.map (Value.int .i64))/\True)/\Below w.heap.size w W)
   (fun _ _ _=>False)
   (OwnFrom.and (Own.from (holdsRow_own w.heap.size w.heap.size 22 3 1 (fun pre:List Int=>pre.length) (fun pre=>pre.map (Value.int .i64)) (fun pre v=>True)) _) (ownFrom_below (Nat.le_refl _) (by simp)))
   (fun _ _ _ _ _ hs _ _=>hs)
   ⟨⟨_,bO,World.ownsRow_nil _ _ _ _,trivial⟩,hB0⟩
   (fun x=>{tmps:= #[Gw.Og,.func (.func 239) #[] #[Gw.Oq Bs],.pointer (some ⟨w.heap.size,0,none⟩),undef,Gw.Og,.int Gw.Oh x,.func (.func 239) #[] #[Gw.Oq Bs],.int Gw.Oh x,undef,undef,undef,undef,undef],defers:= []}) ?assign ?body ?done ?stop
 case assign=>
   intro l x W K hK
   gi_wp2
   exact hK
 case body=>
   rintro l pre x W ⟨⟨v,hv,qK,_⟩,hB⟩ hlt
   have hc:=hv.cell
   gi_wp2_with (gi_at_builtin;refine wpListIn_append_own _ rfl _ _ 22 rfl w.heap.size 3 i0 (.int Gw.Oh 0) 1 8 Tryz.underlying22 hi hz0 hz1 hz2 rfl (by decide) _ _ _ rfl (qK.alloc _) ⟨W.heap.size,0,none⟩ 1 1 [.int Gw.Oh x] rfl rfl (cell_one_new _ _ _) (by simp [Value.oneCell']) Gw.Oa Gw.Oa (by have:=hB.size;simp;omega) ?_;intro v' w1 du gL _;obtain⟨g',cap',rfl⟩:=ownsRow_succ du;obtain⟨hv1,hv2,hr2,hk2,hb2⟩:=hv.appended (by decide) qK hB.size (Nat.le_refl _) du gL;have hc1:=hv1.cell;have hf1:=hv1.frozen)
   exact⟨hk2.from _,hb2,⟨_,hv2,by simpa using hr2,trivial⟩,hB.trans hb2⟩
 case done=>
   rintro D ys W hD rfl ⟨⟨v,hv,qK,_⟩,hB⟩ hK
   have hc:=hv.cell
   gi_wp2
   refine⟨by simp,.inl ⟨_,_,rfl,run_takeDeferred hK,?_⟩⟩
   exact⟨_,results_tmp rfl _ _ _,v,rfl,ownsRow_putObj qK _ hK rfl,hB.trans (belowK_b (w:=w) (Nat.le_refl _) W D _ _ (by simp at hD;omega) hK rfl rfl)⟩
 case stop=>
   rintro D c pre W _ _ h _
   exact h.elim
open Go.Proofs.Gw in
theorem c_appendSeq{v:Value}{n:Int}{f:Oe}{O:Nat}{E:TypeId}(w0:World)(hc:w0.cell? ⟨O,0,none⟩=some v)(U:(Ent.own v 1 E n (ints f)).holds w0)(hn:n<=1000000):
   Calls Oj 241 [Og,.func (.func 239) #[] #[Oq O]].toArray w0 fun e w=>∃u,e= .returned u/\∃r,u=r/\Slh r n/\Sat w0 w [.own r 1 3 n (ints f)]:=by
 have V:=U.row
 have G:=V.cf.n0
 have D:=Ye f n
 have Z:It.Ints w0.heap.size w0 v (ZB f n):=by
   obtain⟨_,_,⟨rfl,h0⟩|⟨g,cap,cur,rfl,I,_⟩⟩:=U
   · exact .inl ⟨rfl,List.eq_nil_of_length_eq_zero Oa⟩
   · refine .inr ⟨g,0,cap,by rw [D],(Array.getElem?_eq_some_iff.1 I).1,fun j Y=> ?_⟩
     rw [D] at Y
     have:=V.2 j Oa
     rw [List.getElem?_eq_getElem Oa]
     simp only [Option.getD_some]
     rw [Nat.zero_add]
     simp only [cad,Int.toNat_natCast,Nat.zero_add] at this
     rw [this]
     simp [ints,ZB]
 have X:maxLen=9223372036854775807\/1000000<=maxLen:= .inr (by unfold maxLen;omega)
 refine(callsIn_wide.1 (It.appendSeq_in Fence.wide 3 trivial trivial rfl (Nat.le_refl _) O v (ZB f n) (by rw [D];unfold maxLen;omega) (by rw [D];omega) w0 (World.block_lt_of_cell? w0 _ hc) hc Z)).mono fun e w h=> ?_
 obtain⟨r,rfl,F,hB⟩:=h
 rw [D] at F
 have W:(Ent.own r 1 3 n (ints f)).holds w:=Ent.holds.ic G Oa (by rw [Nat.mul_one,UK];exact F)
 refine⟨r,rfl,r,rfl,W.row.cf,hB,fun e J=> ?_,fun e J g I=> ?_,List.pairwise_singleton _ _⟩
 · obtain rfl:=List.mem_singleton.1 J;exact W
 · obtain rfl:=List.mem_singleton.1 J
   exact(F.lt g I).1
end Go.Proofs.YtkichmnjjblodaaGreat
namespace Go.Proofs.YtkichmnjjblodaaGreat
open Go Go.RowKit Go.Proofs.Gw
variable {m:Int} {f:Oe} {v:Value}
theorem Vd:Zc Oj 151=true:=Ob
theorem Vc:Zc Oj 159=true:=Ob
theorem ZkS:Zc Oj 232=true:=Ob
theorem pl_3:ZR Oj 3=true:=Ob
theorem Zb:ZJ Oj 22=some (3,1):=Ob
theorem ZmW{x:Int}{G:Addr}(w0:World)(D:w0.cell? G=some (.int Oh m))(I:0<=m/\m<=1099511627776):
   Calls Oj 232 [.int Oh x,.pointer (some G)].toArray w0 fun e w=>∃v,e= .returned v/\v=B (¬(-m<=x/\x<=m))/\Sat w0 w []:=by
 refine zenG Tryz.func232 Tryz.ntmps232 fun w F=> ?_
 refine zsr<|(zP)<|zlz<|(zP)<|(zV (xlf pl_3 D F))<|(zV (ZbX (r:= -m)))<|(Om)<|zlb 8 ?_ ?_<;>intro hc
 ·
  iterate 3 refine zlo ?_
  refine(Om)<|zx1<|Oi ?_
  exact⟨ZT Oa,F⟩
 refine(zP)<|(zV (xlf pl_3 D F))<|(On)<|zx1<|Oi ?_
 exact⟨Zn Oa,F⟩
theorem Zi0{n:Int}{V:Addr}(w0:World)(G:Row w0 v 1 n (ints f))(I:w0.cell? V=some (.int Oh m))(Z:0<=m/\m<=1099511627776):
   Calls Oj 159 [v,.func (.func 232) #[] #[.pointer (some V)]].toArray w0 fun e w=>∃v,e= .returned v/\∃r:Int,v= .int Oh r/\((r= -1/\∀k,0<=k->k<n->¬(¬(-m<=f k/\f k<=m)))\/(0<=r/\r<n/\(¬(-m<=f r/\f r<=m))))/\Sat w0 w []:=by
 have hn:=G.cf.n0;have Y:=G.cf.n1
 refine zenG Tryz.func159 Tryz.ntmps159 fun w D=> ?_
 refine zsr<|(zP)<|zx5<|(zP)<|(zV (xln Zb G.cf))<|(zP)<|zx6<|zlp (fun X M w=>∃(i:Int),X=((n-i).toNat)/\(0<=i)/\(i<=n)/\(∀k,0<=k->k<i->¬(¬(-m<=f k/\f k<=m)))/\M= [(0,v),(1,.func (.func 232) #[] #[.pointer (some V)]),(7,.int Oh n),(8,.int Oh i)]/\Sat w0 w []) ⟨0,rfl,Oa,Oa,?_,rfl,D⟩ ?_
 ·
  intro k U h1;omega
 clear D w
 rintro X M w ⟨i,rfl,U,h1,W,rfl,D⟩
 refine zsr<|(zP)<|zx7<|Ze ?_ ?_<;>intro hc
 ·
  refine zx3<|(Om)<|zlz<|(On)<|(zV (xix (kk:=i) Zb G.cf))<|(zV (xlr (u:= .int Oh (f i)) pl_3 (G.below D.below)))<|zlc (xcc (vs:= [_]) ZkS) (ZmW (x:=(f i)) (m:=m) w (D.ref I) Z) ?_;rintro _ w ⟨rfl,F⟩
  replace D:=D.cmp F;clear F
  refine zlt<|Ze ?_ ?_<;>intro hc
  ·
   refine zsr<|(Om)<|zx2<|Oi ?_
   exact⟨i,rfl,.inr ⟨by omega,Oa,‹¬(-m<=f i/\f i<=m)›⟩,D⟩
  refine zx4<|(zV (Zg (r:=i+1)))<|(zP)<|zln<|zlq ⟨i+1,rfl,Oa,Oa,?_,rfl,D⟩
  ·
   intro k O aa;rcases Int.lt_or_eq_of_le (show k<=i by omega) with J|J;exact W k O J;rw [J];assumption
 refine zx8<|(zP)<|zx1<|Oi ?_
 exact⟨-1,rfl,.inl ⟨rfl,fun k U h1=>W k U Oa⟩,D⟩
theorem Zi8{n:Int}{J:Addr}(w0:World)(U:Row w0 v 1 n (ints f))(I:w0.cell? J=some (.int Oh m))(O:0<=m/\m<=1099511627776):
   Calls Oj 151 [v,.func (.func 232) #[] #[.pointer (some J)]].toArray w0 fun e w=>∃v,e= .returned v/\v=B (∃k,0<=k/\k<n/\(¬(-m<=f k/\f k<=m)))/\Sat w0 w []:=by
 refine zenG Tryz.func151 Tryz.ntmps151 fun w F=> ?_
 refine zsr<|(zP)<|zlz<|(Om)<|zlc (xc0 Vc) (Zi0 w (U.below F.below) (F.ref I) O) ?_;rintro _ w ⟨Y,rfl,G,D⟩
 replace F:=F.cmp D;clear D
 refine(Om)<|zx1<|Oi ?_
 exact⟨Zn (by
  rcases G with⟨h1,h2⟩|⟨h1,h2,h3⟩
  · exact⟨fun h=>Oa,fun⟨k,X,W,V⟩=>absurd V (h2 k X W)⟩
  · exact⟨fun _=>⟨_,h1,h2,h3⟩,fun _=>h1⟩),F⟩
theorem VA{n:Int}(w0:World)(U:Row w0 v 1 n (ints f))(O:0<=m/\m<=1099511627776):
   Calls Oj 225 [v,.int Oh m].toArray w0 fun e w=>∃v,e= .returned v/\v=B (Btw f n m)/\Sat w0 w []:=by
 refine zenG Tryz.func225 Tryz.ntmps225 fun w D=> ?_
 refine zsr<|zla (xbx (cs:= [_]) D) ?_;rintro _ w ⟨V,rfl,D⟩
 refine(zP)<|zlz<|(zP)<|(zV xmf)<|zlc (xc0 Vd) (Zi8 (m:=m) w (U.below D.below) (D.gw 0 rfl rfl) O) ?_;rintro _ w ⟨rfl,F⟩
 replace D:=D.cmp F;clear F
 refine(Om)<|zx1<|Oi ?_
 exact⟨Zn ⟨fun h k I G=>Oc fun J=>h ⟨k,I,G,J⟩,fun h ⟨k,I,G,J⟩=>J (h k I G)⟩,D.nl⟩
theorem ZjN{n:Int}(w0:World)(G:Row w0 v 1 n (ints f))(hn:1<=n):
   Calls Oj 227 [v].toArray w0 fun e w=>∃v,e= .returned v/\∃x:Int,v= .int Oh x/\(∃k,0<=k/\k<n/\f k=x)/\(∀k,0<=k->k<n->x<=f k)/\Sat w0 w []:=by
 have X:=G.cf.n1
 refine zenG Tryz.func227 Tryz.ntmps227 fun w F=> ?_
 refine zsr<|(zP)<|zx5<|(zP)<|(zV (xln Zb G.cf))<|(zV (xkf Z7))<|zlt<|zcf<|zsk<|ztn<|zsr ?_
 refine(zP)<|(zV (xix (kk:=0) Zb G.cf))<|(zV (xlr (u:= .int Oh (f 0)) pl_3 (G.below F.below)))<|(zP)<|zx5<|(zP)<|zx6<|zlp (fun V M w=>∃(x:Int) (i:Int),V=((n-i).toNat)/\(1<=i)/\(i<=n)/\(∃k,0<=k/\k<n/\f k=x)/\(∀k,0<=k->k<i->x<=f k)/\M= [(0,v),(2,.int Oh 0),(3,.int Oh x),(4,.int Oh i)]/\Sat w0 w []) ⟨(f 0),1,rfl,Oa,Oa,?_,?_,rfl,F⟩ ?_
 ·
  exact⟨0,Oa,Oa,rfl⟩
 ·
  intro k J W;rw [show k=0 by omega];exact Int.le_refl _
 clear F w
 rintro V M w ⟨x,i,rfl,Y,h1,D,U,rfl,F⟩
 refine zx11<|(Om)<|(zV (xln Zb G.cf))<|(zP)<|zlt<|Ze ?_ ?_<;>intro hc
 ·
  refine zsk<|ztn<|zsq<|zbk<|zrg<|(On)<|(zV (xix (kk:=i) Zb G.cf))<|(zV (xlr (u:= .int Oh (f i)) pl_3 (G.below F.below)))<|(zV (U9 (r:=(min x (f i)))))<|(zP)<|zx10<|(zP)<|(zV (Zg (r:=i+1)))<|(zP)<|zln<|zlq ⟨(min x (f i)),i+1,rfl,Oa,Oa,?_,?_,rfl,F⟩
  ·
   rcases Int.le_total x (f i) with I|I
   · first|(rw [Int.min_eq_left I];exact D)|(rw [Int.min_eq_right I];exact⟨i,Oa,Oa,rfl⟩)
   · first|(rw [Int.min_eq_right I];exact⟨i,Oa,Oa,rfl⟩)|(rw [Int.min_eq_left I];exact D)
  ·
   intro k J W;rcases Int.lt_or_eq_of_le (show k<=i by omega) with O|O
   · have:=U k J O;omega
   · rw [O];omega
 refine zx8<|(Om)<|zx1<|Oi ?_
 exact⟨_,rfl,D,fun k J W=>U k J Oa,F⟩
theorem ZgV{n:Int}(w0:World)(G:Row w0 v 1 n (ints f))(hn:1<=n):
   Calls Oj 187 [v].toArray w0 fun e w=>∃v,e= .returned v/\∃x:Int,v= .int Oh x/\(∃k,0<=k/\k<n/\f k=x)/\(∀k,0<=k->k<n->f k<=x)/\Sat w0 w []:=by
 have X:=G.cf.n1
 refine zenG Tryz.func187 Tryz.ntmps187 fun w F=> ?_
 refine zsr<|(zP)<|zx5<|(zP)<|(zV (xln Zb G.cf))<|(zV (xkf Z7))<|zlt<|zcf<|zsk<|ztn<|zsr ?_
 refine(zP)<|(zV (xix (kk:=0) Zb G.cf))<|(zV (xlr (u:= .int Oh (f 0)) pl_3 (G.below F.below)))<|(zP)<|zx5<|(zP)<|zx6<|zlp (fun V M w=>∃(x:Int) (i:Int),V=((n-i).toNat)/\(1<=i)/\(i<=n)/\(∃k,0<=k/\k<n/\f k=x)/\(∀k,0<=k->k<i->f k<=x)/\M= [(0,v),(2,.int Oh 0),(3,.int Oh x),(4,.int Oh i)]/\Sat w0 w []) ⟨(f 0),1,rfl,Oa,Oa,?_,?_,rfl,F⟩ ?_
 ·
  exact⟨0,Oa,Oa,rfl⟩
 ·
  intro k J W;rw [show k=0 by omega];exact Int.le_refl _
 clear F w
 rintro V M w ⟨x,i,rfl,Y,h1,D,U,rfl,F⟩
 refine zx11<|(Om)<|(zV (xln Zb G.cf))<|(zP)<|zlt<|Ze ?_ ?_<;>intro hc
 ·
  refine zsk<|ztn<|zsq<|zbk<|zrg<|(On)<|(zV (xix (kk:=i) Zb G.cf))<|(zV (xlr (u:= .int Oh (f i)) pl_3 (G.below F.below)))<|(zV (KE (r:=(max x (f i)))))<|(zP)<|zx10<|(zP)<|(zV (Zg (r:=i+1)))<|(zP)<|zln<|zlq ⟨(max x (f i)),i+1,rfl,Oa,Oa,?_,?_,rfl,F⟩
  ·
   rcases Int.le_total x (f i) with I|I
   · first|(rw [Int.max_eq_left I];exact D)|(rw [Int.max_eq_right I];exact⟨i,Oa,Oa,rfl⟩)
   · first|(rw [Int.max_eq_right I];exact⟨i,Oa,Oa,rfl⟩)|(rw [Int.max_eq_left I];exact D)
  ·
   intro k J W;rcases Int.lt_or_eq_of_le (show k<=i by omega) with O|O
   · have:=U k J O;omega
   · rw [O];omega
 refine zx8<|(Om)<|zx1<|Oi ?_
 exact⟨_,rfl,D,fun k J W=>U k J Oa,F⟩
theorem Ve{n lo hi:Int}(w0:World)(F:Row w0 v 1 n (ints f)):
   Calls Oj 200 [v,.int Oh lo,.int Oh hi].toArray w0 fun e w=>∃v,e= .returned v/\v=B (∀k,0<=k->k<n->lo<=f k/\f k<=hi)/\Sat w0 w []:=by
 have hn:=F.cf.n0;have W:=F.cf.n1
 refine zenG Tryz.func200 Tryz.ntmps200 fun w D=> ?_
 refine zsr<|(zP)<|zx5<|(zP)<|zx6<|zlp (fun U M w=>∃(i:Int),U=((n-i).toNat)/\(0<=i)/\(i<=n)/\(∀k,0<=k->k<i->lo<=f k/\f k<=hi)/\M= [(0,v),(1,.int Oh lo),(2,.int Oh hi),(7,.int Oh i)]/\Sat w0 w []) ⟨0,rfl,Oa,Oa,?_,rfl,D⟩ ?_
 ·
  intro k Y h1;omega
 clear D w
 rintro U M w ⟨i,rfl,Y,h1,O,rfl,D⟩
 refine zx11<|(Om)<|(zV (xln Zb F.cf))<|(zP)<|zlt<|Ze ?_ ?_<;>intro hc
 ·
  refine zx3<|(Om)<|(zV (xix (kk:=i) Zb F.cf))<|(zV (xlr (u:= .int Oh (f i)) pl_3 (F.below D.below)))<|(On)<|zlb 20 ?_ ?_<;>intro hc
  ·
   iterate 6 refine zlo ?_
   refine(zP)<|zlt<|zct<|zsr ?_
   refine(zP)<|zx2<|Oi ?_
   exact⟨false_B (by intro I;have:=I i Oa Oa;omega),D⟩
  refine(Om)<|(zV (xix (kk:=i) Zb F.cf))<|(zV (xlr (u:= .int Oh (f i)) pl_3 (F.below D.below)))<|(On)<|zlt<|Ze ?_ ?_<;>intro hc
  ·
   refine zsr<|(zP)<|zx2<|Oi ?_
   exact⟨false_B (by intro I;have:=I i Oa Oa;omega),D⟩
  refine zx4<|(zP)<|(zV (Zg (r:=i+1)))<|(zP)<|zln<|zlq ⟨i+1,rfl,Oa,Oa,?_,rfl,D⟩
  ·
   intro k J X;rcases Int.lt_or_eq_of_le (show k<=i by omega) with G|G;exact O k J G;rw [G];omega
 refine zx8<|(zP)<|zx1<|Oi ?_
 exact⟨ZT (by exact fun k V Z=>O k V Oa),D⟩
theorem c_clone {n:Int} (w0:World) (I:Row w0 v 1 n (ints f)) (hn:n<=1000000):Calls Oj 65 [v].toArray w0 fun e w=>∃u,e= .returned u/\∃r,u=r/\Slh r n/\Sat w0 w [.own r 1 3 n (ints f)]:=by
 have G:=I.cf.n0
 have U:=Ye f n
 have fin:∀{r:Value} {w:World} {F:List Value},w.ownsRow w0.heap.size 3 1 r n.toNat F->F=cellsOf (ints f) n.toNat->Below w0.heap.size w0 w->Slh r n/\Sat w0 w [.own r 1 3 n (ints f)]:=fun {r w F} qK hxs hB=>by
   subst hxs
   have O:(Ent.own r 1 3 n (ints f)).holds w:=Ent.holds.ic G Oa (by rw [Nat.mul_one];exact qK)
   exact⟨O.row.cf,hB,fun e D=>by obtain rfl:=List.mem_singleton.1 D;exact O,fun e D g V=>by obtain rfl:=List.mem_singleton.1 D;exact(qK.lt g V).1,List.pairwise_singleton _ _⟩
 obtain⟨_,_,a,cap,rfl,h⟩:=I.cf
 cases a with
 | none=>
   have W:n=0:=by rcases h with h|⟨_,_,h⟩;exact h;cases h
   subst W
   refine(slices_Clone_int_nil 0 cap w0).mono fun e w ⟨D,hw⟩=>⟨_,D,_,rfl,slh_nil,?_⟩
   rw [hw]
   exact(Sat.start w0).cg 1 3 (ints f)
 | some ad=>
   rcases h with h|⟨b,off,h⟩
   · subst h
     refine(slices_Clone_int_zero ad cap w0).mono fun e w ⟨r,D,qK,_,hB⟩=>⟨r,D,r,rfl,?_⟩
     exact fin qK rfl hB
   · cases h
     refine(slices_Clone_int b off n.toNat cap (ZB f n) w0 Oa Oa (fun j J=> ?_)).mono fun e w ⟨r,D,qK,_,hB⟩=>⟨r,D,r,rfl,fin qK ?_ hB⟩
     · have:=I.2 j Oa
       simp only [cad,Int.toNat_natCast] at this
       rw [this]
       rw [U] at J
       simp [ints,ZB,J]
     · rw [List.take_of_length_le Oa,UK];rfl
end Go.Proofs.YtkichmnjjblodaaGreat
namespace Go.Proofs.YtkichmnjjblodaaGreat
open Go Go.RowKit Go.Proofs.Gw
variable {v:Value}
theorem ZkN:Zc Oj 237=true:=Ob
theorem ZkM:Zc Oj 238=true:=Ob
theorem ZkL:Zc Oj 240=true:=Ob
theorem ZkK:Zc Oj 241=true:=Ob
theorem Zm:ZV Oj 3=some (.int Oh 0,1,8):=Ob
theorem pl_22:ZR Oj 22=true:=Ob
theorem Zi:ZJ Oj 83=some (22,1):=Ob
theorem ZmH{n:Int}(w0:World)(I:0<=n)(h1:n<=1000000):
   Calls Oj 240 [Og,.int Oh n].toArray w0 fun e w=>∃v,e= .returned v/\∃r,v=r/\Slh r 0/\Sat w0 w [.own r 1 3 0 (ints (fun _=>0))]:=by
 refine zenG Tryz.func240 Tryz.ntmps240 fun w D=> ?_
 refine zsr<|(zP)<|zx5<|(zP)<|(zV (xkf Z7))<|zlt<|zcf<|zsk<|ztn<|zsq<|zsr ?_
 refine(Om)<|Rk rfl rfl rfl (WL rfl Zb rfl) ?_
 refine(zP)<|(zV (xln Zb slh_nil))<|(zV (Zw (r:=0)))<|(zV (Zw (r:=n)))<|(zP)<|zlz<|(Om)<|zlt<|Ze ?_ ?_<;>intro hc
 ·
  refine zrg<|(Om)<|Rk rfl rfl rfl (WL rfl Zb rfl) ?_
  refine(zV (xany (v:=Og)))<|(zP)<|KA rfl rfl rfl (TX rfl Zb Tryz.underlying3 Zm rfl Oa rfl rfl Oa Oa D) ?_;rintro G w ⟨D,F⟩
  refine(zP)<|(zV (xln Zb slh_nil))<|Rk rfl rfl rfl (Uo rfl Zb rfl rfl F) ?_
  replace D:=D.cut 0 rfl (ints (fun _=>0))
  refine(zP)<|zlz<|(Om)<|zx1<|Oi ?_
  exact⟨_,rfl,(Zds F),D⟩
 refine ZM<|(Om)<|zx1<|Oi ?_
 exact⟨_,rfl,slh_nil,(D.cg 1 3 (ints fun _=>0)).sub (.cons_cons _ .slnil)⟩
theorem Zg9{n:Int}{vv:Int->Value}{ln:Oe}{f:Of}(w0:World)(hM:NAt w0 v n vv ln f)(X:∀k,0<=k->k<=n->tot ln k.toNat<=100000):
   Calls Oj 235 [v].toArray w0 fun e w=>∃v,e= .returned v/\∃r,v=r/\Slh r (tot ln n.toNat)/\Sat w0 w [.own r 1 3 (tot ln n.toNat) (ints (VE ln f n.toNat))]:=by
 have hn:=hM.row.cf.n0;have ab:=hM.row.cf.n1
 refine zenG Tryz.func235 Tryz.ntmps235 fun w D=> ?_
 refine zsr<|(zP)<|zlz<|(zP)<|zx5<|(zP)<|(zV (xln Zi hM.row.cf))<|(zP)<|zx6<|zlp (fun I M w=>∃(s:Int) (i:Int),I=((n-i).toNat)/\(0<=i)/\(i<=n)/\(s=tot ln i.toNat)/\(0<=s)/\M= [(0,v),(2,Og),(3,.int Oh s),(9,v),(10,.int Oh n),(11,.int Oh i)]/\Sat w0 w []) ⟨0,0,rfl,Oa,Oa,?_,Oa,rfl,D⟩ ?_
 ·
  rfl
 clear D w
 rintro I M w ⟨s,i,rfl,F,h1,hs,aa,rfl,D⟩
 refine zsr<|(zP)<|zx7<|Ze ?_ ?_<;>intro hc
 ·
  refine zx3<|(zV (xix (kk:=i) Zi hM.row.cf))<|zlv (xlr (u:=(vv i)) pl_22 (hM.row.below D.below)) ?_
  have hl:=(hM.p i F Oa).cf.n0;have G:=X (i+1) Oa Oa;rw [XC ln F] at G
  refine(zP)<|zlz<|(Om)<|(zV (xln Zb (hM.p i Oa Oa).cf))<|(zV (Zg (r:=s+(ln i))))<|(zP)<|zlz<|(zP)<|(zV (xkf Z7))<|zlt<|zcf<|zsk<|zbn<|ztn<|zrg ?_
  refine(zV (Zg (r:=i+1)))<|(zP)<|zln<|zlq ⟨s+(ln i),i+1,rfl,Oa,Oa,?_,Oa,rfl,D⟩
  ·
   rw [XC ln F,hs]
 refine zx8<|zlv xmv ?_
 have Z:i=n:=Oa
 have W:=X n hn (Int.le_refl _);rw [<-Z] at W
 refine zlc (xc0 ZkL) (ZmH (n:=s) w Oa Oa) ?_;rintro O w ⟨_,rfl,qb,J⟩
 replace D:=(D.comp J).n1;clear J
 refine(zP)<|zx5<|(zP)<|(zV (xln Zi hM.row.cf))<|(zP)<|zx6<|zlp (fun I M w=>∃(m:Int) (j:Int) (vb:Value) (g:Oe),I=((n-j).toNat)/\(0<=j)/\(j<=n)/\(m=tot ln j.toNat)/\(0<=m)/\(g=VE ln f j.toNat)/\(Slh vb m)/\M= [(2,Og),(6,vb),(25,v),(26,.int Oh n),(27,.int Oh j)]/\Sat w0 w [.own vb 1 3 m (ints g)]) ⟨0,0,O,(fun _=>0),rfl,Oa,Oa,?_,Oa,?_,?_,rfl,D⟩ ?_
 ·
  rfl
 ·
  rfl
 ·
  exact qb
 clear D w
 rintro I M w ⟨m,j,vb,g,rfl,F,h1,Y,ac,hg,U,rfl,D⟩
 refine zsr<|(zP)<|zx7<|Ze ?_ ?_<;>intro hc
 ·
  refine zx3<|(zV (xix (kk:=j) Zi hM.row.cf))<|zlv (xlr (u:=(vv j)) pl_22 (hM.row.below D.below)) ?_
  have hl:=(hM.p j F Oa).cf.n0;have G:=X (j+1) Oa Oa;rw [XC ln F] at G
  refine(zP)<|zlt<|zrg<|(Om)<|zla (xap 0 (r:=m+(ln j)) (f:=ints (cat m g (f j))) Zb Zm D ((hM.p j Oa Oa).below D.below) (by exact Zu _ _ _)) ?_;rintro v1 w ⟨D,V⟩
  refine(zP)<|zx10<|(zV (Zg (r:=j+1)))<|(zP)<|zln<|zlq ⟨m+(ln j),j+1,v1,(cat m g (f j)),rfl,Oa,Oa,?_,Oa,?_,?_,rfl,D⟩
  ·
   rw [XC ln F,Y]
  ·
   rw [catN_next ln f F,<-hg,<-Y]
  ·
   exact V
 refine zx8<|(Om)<|zx1<|Oi ?_
 obtain rfl:j=n:=Oa
 subst hg;subst Y
 exact⟨_,rfl,U,D⟩
theorem Zgw{vs:Value}{n:Int}(w0:World)(D:Slh vs n):
   Calls Oj 234 [vs].toArray w0 fun e w=>∃v,e= .returned v/\∃g,v= .func (.func 239) #[] #[Oq g]/\Sat w0 w [.blk g [vs]]:=by
 refine zenG Tryz.func234 Tryz.ntmps234 fun w F=> ?_
 refine zsr<|zla (xbx (cs:= [_]) F (hc:=Slh.cells D)) ?_;rintro _ w ⟨G,rfl,F⟩
 refine(zP)<|zlz<|(zV xmf)<|(zP)<|zx1<|Oi ?_
 exact⟨_,rfl,F⟩
theorem ZeF{n:Int}{f:Oe}{I:Nat}{E:TypeId}(w0:World)(G:w0.cell? ⟨I,0,none⟩=some v)(U:(Ent.own v 1 E n (ints f)).holds w0)(hn:n<=1000000):
   Calls Oj 237 [.func (.func 239) #[] #[.pointer (some (⟨I,0,none⟩))]].toArray w0 fun e w=>∃v,e= .returned v/\∃r,v=r/\Slh r n/\Sat w0 w [.own r 1 3 n (ints f)]:=by
 refine zenG Tryz.func237 Tryz.ntmps237 fun w F=> ?_
 refine zsr<|(zP)<|zlz<|(zP)<|zlc (xc0 ZkK) (c_appendSeq (f:=f) w (F.ref G) (F.kept U) hn) ?_;rintro J w ⟨_,rfl,O,D⟩
 replace F:=(F.comp D).n1;clear D
 refine(zP)<|zx1<|Oi ?_
 exact⟨_,rfl,O,F⟩
theorem ZgC{n:Int}{f:Oe}{J:Nat}{E:TypeId}(w0:World)(G:w0.cell? ⟨J,0,none⟩=some v)(X:(Ent.own v 1 E n (ints f)).holds w0)(hn:n<=1000000):
   Calls Oj 233 [.func (.func 239) #[] #[.pointer (some (⟨J,0,none⟩))]].toArray w0 fun e w=>∃v,e= .returned v/\∃r g,v=r/\Slh r n/\ZB g n=((ZB f n).mergeSort fun x y=>decide (x<=y))/\Sat w0 w [.own r 1 3 n (ints g)]:=by
 refine zenG Tryz.func233 Tryz.ntmps233 fun w D=> ?_
 refine zsr<|(zP)<|zlz<|(zP)<|zlc (xc0 ZkN) (ZeF (f:=f) w (D.ref G) (D.kept X) hn) ?_;rintro U w ⟨_,rfl,W,F⟩
 replace D:=(D.comp F).n1;clear F
 refine(zP)<|zlz<|(zP)<|zlc (xc0 ZkM) (ZdY (fun p cap w=>slices_Sort_int_none p cap w) (fun I off cap O w=>slices_Sort_int I off cap O w) (l1:= []) (l2:= []) D) ?_;rintro _ w ⟨rfl,V,Y,D⟩
 refine zlz<|(Om)<|zx1<|Oi ?_
 exact⟨_,_,rfl,W,Y,D⟩
end Go.Proofs.YtkichmnjjblodaaGreat
