import Derived.WalkKit
import Derived.WalkLawsBesides
import Derived.OrdersHeld
import Derived.StillTail
import Derived.Deep.RegionHeld3
import Derived.Sort.OwnSortedInts
import Derived.Shelf.Slices.CompactI
import Derived.Laws.CopyRow
import Derived.Laws.IdiomCopy
import Derived.Shelf.Small.Bits
import Derived.Shelf.Strconv.Itoa0
import Derived.Shelf.Sort.Plain
import Derived.Shelf.Bits.Mul64
import Derived.Ground.Names2Prog
import Derived.Shelf.Slices.Clone
import Derived.Shelf.Slices.SearchI
import Derived.Shelf.Slices.In.SortNone
import Derived.Ground.SlgnProg
import Derived.Shelf.SlicesE.Clone
import Derived.Test.YtpnamgfdakfccaaGreatProg
import Derived.RangeFuncBox
import Derived.RangeFuncLeaves
import Derived.Shelf.Abstract
import Derived.OwnWalkIn
import Derived.TacticsInMore
import Derived.LoopNIn
import Derived.LoopIn
import Derived.Maps.AppendAt
set_option linter.unusedVariables false
set_option linter.unusedSimpArgs false
set_option maxRecDepth 20000
set_option maxHeartbeats 4000000
namespace Go.Proofs.Gw
open Go Go.RowKit
theorem Oa{p:Prop}(h:p:=by omega):p:=h
theorem Oc{p:Prop}(h:p:=by kernel_rfl):p:=h
theorem Od{p:Prop}(h:¬¬p):p:=Classical.not_not.1 h
theorem Oe{p:Prop}(h:p:=by first|assumption|exact Classical.not_not.1 ‹_›):p:=h
abbrev Of:=Int->Int
abbrev Ov:=Int->Value
abbrev Og:=Int->Int->Int
abbrev Oh:Value:=.slice none 0 0
abbrev Oi:=IntKind.i64
abbrev Or(a:Nat):Value:=.pointer (some ⟨a,0,none⟩)
def I64(n:Int):Prop:= -9223372036854775808<=n/\n<=9223372036854775807
theorem I64.wrap{n:Int}(h:I64 n):IntKind.i64.wrap n=n:=by
 obtain⟨h1,D⟩:=h
 rw [IntKind.wrap_i64];omega
noncomputable def B(p:Prop):Value:= .bool (@decide p (Classical.propDecidable p))
theorem FP(p:Prop) [Decidable p]:Value.bool (decide p)=B p:=by
 unfold B;congr
theorem ZV{p:Prop}(h:p):B p= .bool true:=by simp [B,h]
theorem ZB{p:Prop}(h:¬p):B p= .bool false:=by simp [B,h]
theorem Zm{p q:Prop}(h:p↔q):B p=B q:=by rw [propext h]
theorem Yk{p:Prop}(h:p):Value.bool true=B p:=(ZV h).symm
theorem Zi{p:Prop}(h:¬p):Value.bool false=B p:=(ZB h).symm
theorem Fv{a b:Nat}(h:a≠b):Nat.beq a b=false:=by
 cases D:Nat.beq a b with
 |false=>rfl
 |true=>exact absurd (Nat.eq_of_beq_eq_true D) h
def lk:List (Nat×Value)->Nat->Option Value
  | [],_=>none
  |(k,v)::r,t=>bif Nat.beq k t then some v else lk r t
def iZ(L:List (Nat×Value)):Operand->Option Value
  | .tmp t=>lk L t
  | .const v=>some v
  | .global g=>some (Or g)
  | .func f=>some (.func (.func f) #[] #[])
structure Fr (a:Act) (n:Nat) (ds:List Deferred) (L:List (Nat×Value)):Prop where
  size:a.tmps.size=n
  defers:a.defers=ds
  get:∀t v,lk L t=some v->a.tmps.getD t undef=v
def Ht(L:List (Nat×Value))(ρ:Operand->Value):Prop:=∀x v,iZ L x=some v->ρ x=v
theorem Fr.wP{a:Act}{n:Nat}{ds:List Deferred}{L:List (Nat×Value)}(h:Fr a n ds L):Ht L a.eval:=fun x v D=>by
 cases x with
 |tmp t=>exact h.get t v D
 |const u=>exact Option.some.inj D
 |global g=>exact Option.some.inj D
 |func f=>exact Option.some.inj D
theorem Fr.put{a:Act}{n:Nat}{ds:List Deferred}{L:List (Nat×Value)}(h:Fr a n ds L){d:Nat}(hd:d<n)(v:Value):Fr (a.put (some d) v) n ds ((d,v)::L):=by
 refine⟨by simp [Act.put,h.size],by simp [Act.put,h.defers],fun t u D=> ?_⟩
 simp only [lk] at D
 by_cases e:d=t
 {
 subst e
 rw [Nat.beq_refl] at D
 simp only [cond_true,Option.some.injEq] at D
 subst D
 simp [Act.put,Array.getD,h.size,hd]}
 {
 have:Nat.beq d t=false:=Fv e
 rw [this] at D
 simp only [cond_false] at D
 have:=h.get t u D
 rw [<-this]
 simp only [Act.put,Array.getD_eq_getD_getElem?,Array.getElem?_setIfInBounds]
 rw [if_neg e]}
theorem Fr.known{a:Act}{n:Nat}{ds:List Deferred}{L:List (Nat×Value)}(h:Fr a n ds L){d:Nat}{p:Prop}(hd:lk L d=some (B p)){t:Bool}(F:B p= .bool t):Fr a n ds ((d,.bool t)::L):=by
 refine⟨h.size,h.defers,fun x u D=> ?_⟩
 simp only [lk] at D
 by_cases e:d=x
 {
 subst e
 rw [Nat.beq_refl] at D
 simp only [cond_true,Option.some.injEq] at D
 subst D
 rw [<-F]
 exact h.get d _ hd}
 {
 have:Nat.beq d x=false:=Fv e
 rw [this] at D
 exact h.get x u D}
theorem Fr.as{a:Act}{n:Nat}{ds:List Deferred}{L:List (Nat×Value)}(h:Fr a n ds L){d:Nat}{v:Value}(hd:lk L d=some v){u:Value}(e:v=u):Fr a n ds ((d,u)::L):=by
 subst e
 refine⟨h.size,h.defers,fun x u D=> ?_⟩
 simp only [lk] at D
 by_cases e:d=x
 {
 subst e
 rw [Nat.beq_refl] at D
 simp only [cond_true,Option.some.injEq] at D
 subst D
 exact h.get d _ hd}
 {
 have:Nat.beq d x=false:=Fv e
 rw [this] at D
 exact h.get x u D}
theorem Fr.enter{vs:Array Value}{n:Nat}(hn:vs.size<=n){L:List (Nat×Value)}(D:∀t v,lk L t=some v->vs[t]? =some v):
   Fr {tmps:=vs++Array.replicate (n-vs.size) undef,defers:= []} n [] L:=by
 refine⟨by simp;omega,rfl,fun t v h=> ?_⟩
 have:=D t v h
 have hlt:t<vs.size:=(Array.getElem?_eq_some_iff.1 this).1
 simp only [Array.getD_eq_getD_getElem?,Array.getElem?_append,hlt,if_true,this,Option.getD_some]
section
variable {P:Program} {l:List Oper} {Q:Exit->Act->World->Prop} {a:Act} {w:World} {rest:List Oper} {o:Oper} {n:Nat} {ds:List Deferred} {L:List (Nat×Value)}
def Want(l:List Oper)(L:List (Nat×Value))(o:Oper)(b:Bool):Prop:=
  (o.guard=none/\b=true)\/(∃j p oj dj t,o.guard=some (j,p)/\l[j]? =some oj/\oj.dst=some dj/\lk L dj=some (.bool t)/\(t==p)=b)\/
    ∃j p oj dj,o.guard=some (j,p)/\l[j]? =some oj/\oj.dst=some dj/\lk L dj=some undef/\b=false
theorem Want.off{j D:Nat}{p:Bool}{h:Oper}(h1:o.guard=some (j,p))(J:l[j]? =some h)(I:h.dst=some D)(F:lk L D=some undef):Want l L o false:= .inr (.inr ⟨j,p,h,D,h1,J,I,F,rfl⟩)
theorem Want.on{j D:Nat}{p t b:Bool}{h:Oper}(h1:o.guard=some (j,p))(N:l[j]? =some h)(J:h.dst=some D)(I:lk L D=some (.bool t))(F:(t==p)=b):Want l L o b:= .inr (.inl ⟨j,p,h,D,t,h1,N,J,I,F⟩)
theorem Want.free(h:o.guard=none):Want l L o true:= .inl ⟨h,rfl⟩
theorem Want.wanted{b:Bool}(I:Fr a n ds L)(h:Want l L o b):Region.wanted o (yielded l.toArray a.tmps)=b:=by
 rcases h with⟨h,rfl⟩|⟨j,p,oj,dj,t,h1,h2,h3,h4,h5⟩|⟨j,p,oj,dj,h1,h2,h3,h4,rfl⟩
 · simp [Region.wanted,h]
 {
 have D:=I.get dj _ h4
 have J:a.tmps[dj]? =some (.bool t):=by
   rw [Array.getD_eq_getD_getElem?] at D
   cases F:a.tmps[dj]? with
   |none=>rw [F] at D;simp [undef] at D
   |some u=>rw [F] at D;simp at D;rw [D]
 simp only [Region.wanted,h1,yielded,List.getElem?_toArray,h2,Option.bind_some,h3,J,<-h5]
 cases t<;>cases p<;>rfl}
 {
 have D:=I.get dj _ h4
 rw [Array.getD_eq_getD_getElem?] at D
 simp only [Region.wanted,h1,yielded,List.getElem?_toArray,h2,Option.bind_some,h3]
 cases F:a.tmps[dj]? with
 |none=>simp
 |some u=>rw [F] at D;simp at D;subst D;simp [undef]}
def Runs(P:Program)(L:List (Nat×Value))(w:World)(o:Oper)(r:Next)(w':World):Prop:=∀ρ,Ht L ρ->(execOp ρ o).run P w= .ok r w'
theorem Qa{d:Nat}{v:Value}{w':World}(D:Fr a n ds L)(I:Want l L o true)(hd:o.dst=some d)(h:Nat.blt d n=true)(hr:Runs P L w o (.value v) w')
   (K:∀F,Fr F n ds ((d,v)::L)->wpList P l.toArray Q rest F w'):wpList P l.toArray Q (o::rest) a w:=by
 unfold wpList
 rw [if_pos (I.wanted D)]
 refine .inl ?_
 unfold Oper.wp
 rw [hr _ D.wP,Oper.upon_value,hd]
 exact K _ (D.put (by simpa [Nat.blt_eq] using h) v)
theorem Zmi{w':World}(h:Fr a n ds L)(D:Want l L o true)(hd:o.dst=none)(hr:Runs P L w o .skip w')
   (K:wpList P l.toArray Q rest a w'):wpList P l.toArray Q (o::rest) a w:=by
 unfold wpList
 rw [if_pos (D.wanted h)]
 refine .inl ?_
 unfold Oper.wp
 rw [hr _ h.wP,Oper.upon_skip,hd]
 exact K
theorem Zmh{d:Nat}(D:Fr a n ds L)(I:Want l L o false)(hd:o.dst=some d)(h:Nat.blt d n=true)
   (K:∀F,Fr F n ds ((d,undef)::L)->wpList P l.toArray Q rest F w):wpList P l.toArray Q (o::rest) a w:=by
 unfold wpList
 rw [if_neg (by rw [I.wanted D];simp),hd]
 exact K _ (D.put (by simpa [Nat.blt_eq] using h) undef)
theorem Zj4{d:Nat}{f:FuncId}{args:Array Value}{R:Value->World->Prop}(D:Fr a n ds L)(I:Want l L o true)(hd:o.dst=some d)(h:Nat.blt d n=true)(hr:Runs P L w o (.enter f args) w)
   (hc:Calls P f args w fun e w'=>∃v,e= .returned v/\R v w')
   (K:∀v w',R v w'->∀F,Fr F n ds ((d,v)::L)->wpList P l.toArray Q rest F w'):wpList P l.toArray Q (o::rest) a w:=by
 unfold wpList
 rw [if_pos (I.wanted D)]
 refine .inl ?_
 unfold Oper.wp
 rw [hr _ D.wP,Oper.upon_enter]
 refine hc.mono fun e w' ⟨v,he,hR⟩=> ?_
 subst he
 rw [hd]
 exact K v w' hR _ (D.put (by simpa [Nat.blt_eq] using h) v)
end
section
variable {P:Program} {Q:Exit->Act->World->Prop} {a:Act} {w:World} {n:Nat} {ds:List Deferred} {L:List (Nat×Value)} {x y:Code} {c:Operand}
theorem ZpW{p:Prop}(D:Fr a n ds L)(hc:iZ L c=some (B p))(h:p->x.wp P Q a w)(hf:¬p->y.wp P Q a w):(Code.cond c x y).wp P Q a w:=by
 have:=D.wP _ _ hc
 by_cases hp:p
 · exact wp_cond_true (by rw [this,ZV hp]) (h hp)
 · exact wp_cond_false (by rw [this,ZB hp]) (hf hp)
theorem Zq9(D:Fr a n ds L)(hc:iZ L c=some (.bool true))(h:x.wp P Q a w):(Code.cond c x y).wp P Q a w:=wp_cond_true (D.wP _ _ hc) h
theorem Zra(D:Fr a n ds L)(hc:iZ L c=some (.bool false))(h:y.wp P Q a w):(Code.cond c x y).wp P Q a w:=wp_cond_false (D.wP _ _ hc) h
theorem ZkF{body:Code}(I:Nat->Act->World->Prop){m:Nat}(h0:I m a w)
   (round:∀m a w,I m a w->body.wp P (Exit.then (fun W w'=>∃m',m'<m/\I m' W w') Q) a w):(Code.loop body).wp P Q a w:=by
 intro b k cs
 have key:∀m a w,I m a w->
     ∃e W w',Q e W w'/\Arrives P (lone (b.at a (.code body:: .inLoop body::k)) cs w) b k cs e W w':=by
   intro m
   induction m using Nat.strongRecOn with
   | _ m ih=>
     intro a w hI
     obtain⟨e,D,h,N,J⟩:=round m a w hI b (.inLoop body::k) cs
     cases e with
     | normal=>
       obtain⟨m',hlt,U⟩:=N
       obtain⟨Z,a₂,Y,O,F⟩:=ih m' hlt D h U
       exact⟨Z,a₂,Y,O,.of_steps (Steps.trans J (.one step_inLoop)) F⟩
     |exit id=>exact⟨_,D,h,N,.pass (x:= .inLoop body) rfl (fun _ _=> .inl (by simp)) J⟩
     |goto l=>exact⟨_,D,h,N,.pass (x:= .inLoop body) rfl (fun _ _=> .inl (by simp)) J⟩
     |ret=>exact⟨_,D,h,N,.pass (x:= .inLoop body) rfl (fun _ _=> .inl (by simp)) J⟩
     |panic ch=>exact⟨_,D,h,N,.pass (x:= .inLoop body) rfl (fun _ _=> .inl (by simp)) J⟩
     |outgrown=>exact⟨_,D,h,N,.pass (x:= .inLoop body) rfl (fun _ _=> .inl (by simp)) J⟩
 obtain⟨e,W,w',N,J⟩:=key m a w h0
 exact⟨e,W,w',N,.of_steps (.one step_loop) J⟩
theorem Znb{x:Code}{Q':Exit->Act->World->Prop}(J:Act->World->Prop)(h:x.wp P (Exit.then J (fun e a w=>e≠ .normal/\Q' e a w)) a w)(k:∀a w,J a w->Q' .normal a w):x.wp P Q' a w:=
 wp_mono h fun e a w q=>by cases e<;>first|exact k _ _ q|exact q.2
theorem Zq7{fn:Func}{R:Ending->World->Prop}{t:Nat}{v:Value}(D:Fr a n [] L)(hr:fn.results= #[.tmp t])(hv:lk L t=some v)(h:R (.returned v) w):bodyPost P fn R .ret a w:=
 ⟨D.defers,v,by rw [results_tmp hr,D.get t v hv],h⟩
theorem Zq6{fn:Func}{R:Ending->World->Prop}{t u:Nat}{v x:Value}(D:Fr a n [] L)(hr:fn.results= #[.tmp t,.tmp u])(hv:lk L t=some v)(F:lk L u=some x)(h:R (.returned (.tuple #[v,x])) w):bodyPost P fn R .ret a w:=
 ⟨D.defers,_,by rw [results_tmp2 hr,D.get t v hv,D.get u x F],h⟩
theorem ZcY{f:FuncId}{fn:Func}{c:Code}{args:Array Value}{R:Ending->World->Prop}(hf:P.funcs[f]? =some fn)(D:fn.body=some c)(hn:fn.ntmps=n)
   (F:Fr {tmps:=args++Array.replicate (n-args.size) undef,defers:= []} n [] L)
   (h:∀a,Fr a n [] L->c.wp P (bodyPost P fn R) a w):Calls P f args w R:=
 calls_of_wp hf D (by rw [hn];exact h _ F)
end
end Go.Proofs.Gw
namespace Go.Proofs.Gw
open Go Go.RowKit
variable {c:Ov} {cs:List Value} {g:Nat} {v:Value} {w w' w0:World}
def iK(v:Value)(n:Int):Prop:=0<=n/\n<=140737488355328/\∃a cap,v= .slice a n.toNat cap/\(n=0\/∃b off,a=some ⟨b,off,none⟩)
def pW(v:Value)(k:Int):Addr:=match v with
  | .slice (some a) _ _=>⟨a.block,a.off+k.toNat,none⟩
  |_=>⟨0,0,none⟩
def Row(w:World)(v:Value)(s:Nat)(n:Int)(c:Ov):Prop:=
  iK v n/\∀k:Nat,(k:Int)<n*s->w.cell? (pW v k)=some (c k)
theorem Row.fP{s:Nat}{n:Int}(h:Row w v s n c):iK v n:=h.1
theorem Row.cell{w:World}{v:Value}{s:Nat}{n:Int}{c:Ov}(h:Row w v s n c){k:Int}(D:0<=k)(h1:k<n*s):w.cell? (pW v k)=some (c k):=by
 obtain⟨j,rfl⟩:=Int.eq_ofNat_of_zero_le D
 exact h.2 j h1
theorem Row.below{s:Nat}{n:Int}(h:Row w v s n c)(F:Below w.heap.size w w'):Row w' v s n c:=
 ⟨h.1,fun k D=>by
   have:=h.2 k D
   rw [F.cell (World.block_lt_of_cell? w _ this)];exact this⟩
theorem Row.congr{s:Nat}{n:Int}{d:Ov}(h:Row w v s n c)(e:∀k,0<=k->k<n*s->c k=d k):Row w v s n d:=
 ⟨h.1,fun k D=>by rw [h.2 k D,e k Oa D]⟩
theorem iK.n0{n:Int}(h:iK v n):0<=n:=h.1
theorem iK.n1{n:Int}(h:iK v n):n<=140737488355328:=h.2.1
def ints(f:Of):Ov:=fun k=> .int Oi (f k)
def upd{α:Type}(f:Int->α)(k:Int)(x:α):Int->α:=fun j=>if j=k then x else f j
def cat{α:Type}(n:Int)(f g:Int->α):Int->α:=fun j=>if j<n then f j else g (j-n)
theorem ZA(f:Of)(k x:Int):upd (ints f) k (.int Oi x)=ints (upd f k x):=by
 funext j;simp only [upd,ints];split<;>rfl
theorem Zir(n:Int)(f g:Of):cat n (ints f) (ints g)=ints (cat n f g):=by
 funext j;simp only [cat,ints];split<;>rfl
structure Frame where
  holds:World->Prop
  has:Nat->Prop
  keep:∀{w w':World},holds w->(∀g,has g->w'.heap[g]? =w.heap[g]?)->holds w'
  lt:∀{w:World} {g:Nat},holds w->has g->g<w.heap.size
inductive iO where
  |blk (g:Nat) (cs:List Value)
  |own (v:Value) (s:Nat) (E:TypeId) (n:Int) (c:Ov)
  |sem (F:Frame)
def iO.has:iO->Nat->Prop
  | .blk g _,k=>g=k
  | .own v _ _ _ _,k=>v.ownBlock=some k
  | .sem F,k=>F.has k
def iO.holds(w:World):iO->Prop
  | .blk g cs=>∃T,w.heap[g]? =some (.cells cs.toArray T (0,0))
  | .own v s E n c=>0<=n/\n<=140737488355328/\((v=Oh/\n=0)\/∃g cap cur,v= .slice (some ⟨g,0,none⟩) n.toNat cap/\w.heap[g]? =some (.cells cur E (0,0))/\
      n.toNat<=cap/\cap<=maxLen/\cur.size=cap*s/\∀k:Nat,(k:Int)<n*s->cur[k]? =some (c k))
  | .sem F=>F.holds w
theorem iO.holds.keep{e:iO}{w w':World}(h:e.holds w)(D:∀g,e.has g->w'.heap[g]? =w.heap[g]?):e.holds w':=by
 cases e with
 |blk g cs=>obtain⟨T,h⟩:=h;exact⟨T,by rw [D g rfl];exact h⟩
 | own v s E n c=>
   obtain⟨I,h1,h|⟨g,cap,cur,rfl,J,h⟩⟩:=h
   · exact⟨I,h1,.inl h⟩
   · exact⟨I,h1,.inr ⟨g,cap,cur,rfl,by rw [D g rfl];exact J,h⟩⟩
 |sem F=>exact F.keep h D
theorem iO.holds.lt{e:iO}{w:World}(h:e.holds w){g:Nat}(D:e.has g):g<w.heap.size:=by
 cases e with
 |blk I cs=>obtain⟨T,h⟩:=h;cases D;exact(Array.getElem?_eq_some_iff.1 h).1
 | own v s E n c=>
   obtain⟨_,_,h|⟨I,cap,cur,rfl,h,_⟩⟩:=h
   · obtain⟨rfl,_⟩:=h;simp [iO.has,Value.ownBlock] at D
   · simp [iO.has,Value.ownBlock] at D;subst D;exact(Array.getElem?_eq_some_iff.1 h).1
 |sem F=>exact F.lt h D
def Apart(d e:iO):Prop:=∀g,d.has g->¬e.has g
structure Sat (w0 w:World) (l:List iO):Prop where
  below:Below w0.heap.size w0 w
  holds:∀e∈l,e.holds w
  new:∀e∈l,∀g,e.has g->w0.heap.size<=g
  sep:l.Pairwise Apart
theorem Sat.start(w:World):Sat w w []:=⟨Below.refl _ _,by simp,by simp,.nil⟩
theorem Sat.sub{l m:List iO}(h:Sat w0 w l)(D:m.Sublist l):Sat w0 w m:=
 ⟨h.below,fun e F=>h.holds e (D.subset F),fun e F=>h.new e (D.subset F),h.sep.sublist D⟩
theorem Sat.draw{l:List iO}(h:Sat w0 w l):Sat w0 w.drew l:=
 ⟨h.below.drew,fun e D=>(h.holds e D).keep fun _ _=>rfl,h.new,h.sep⟩
theorem Sat.size{w0 w:World}{l:List iO}(h:Sat w0 w l):w0.heap.size<=w.heap.size:=h.below.size
theorem Sat.comp{l m:List iO}(h:Sat w0 w l)(k:Sat w w' m):Sat w0 w' (l++m):=by
 refine⟨h.below.trans (k.below.mono h.size),fun e D=> ?_,fun e D g F=> ?_,?_⟩
 {
 rcases List.mem_append.1 D with D|D
 · exact(h.holds e D).keep fun g F=>k.below.block g ((h.holds e D).lt F)
 · exact k.holds e D}
 {
 rcases List.mem_append.1 D with D|D
 · exact h.new e D g F
 · exact Nat.le_trans h.size (k.new e D g F)}
 {
 refine List.pairwise_append.2 ⟨h.sep,k.sep,fun d hd e D g F I=> ?_⟩
 have h1:=(h.holds d hd).lt F
 have J:=k.new e D g I
 omega}
theorem Sat.alloc{w0 w:World}{l:List iO}(h:Sat w0 w l)(o:Obj){e:iO}(I:e.holds (w.alloc o))(D:∀g,e.has g->g=w.heap.size):Sat w0 (w.alloc o) (l++ [e]):=
 h.comp (m:= [e]) ⟨(Below.refl _ _).alloc (Nat.le_refl _) _,by simpa using I,fun d hd g F=>by rw [List.mem_singleton] at hd;subst hd;exact Nat.le_of_eq (D g F).symm,List.pairwise_singleton _ _⟩
theorem Sat.box{l:List iO}(h:Sat w0 w l)(cs:List Value)(T:TypeId):Sat w0 (w.alloc (.cells cs.toArray T)) (l++ [.blk w.heap.size cs]):=
 h.alloc _ ⟨T,heap_alloc_new w _⟩ (fun g D=>(D:w.heap.size=g).symm)
theorem Sat.turn{l1 l2:List iO}{d e:iO}(h:Sat w0 w (l1++d::l2))(Z:∀k,k<w.heap.size->¬d.has k->w'.heap[k]? =w.heap[k]?)(ht:w'.tape=w.tape)(ho:w'.os=w.os)(hp:w'.output=w.output)(hz:w.heap.size<=w'.heap.size)
   (he:e.holds w') (J:∀g,e.has g->d.has g\/w.heap.size<=g):Sat w0 w' (l1++e::l2):=by
 have hd:d∈l1++d::l2:=by simp
 have N:=List.pairwise_append.1 h.sep
 have aY:=List.pairwise_cons.1 N.2.1
 refine⟨h.below.trans ⟨ho,ht,hp,hz,fun k hk=>Z k (Nat.lt_of_lt_of_le hk h.size) fun W=> ?_⟩,fun x D=> ?_,fun x D g I=> ?_,?_⟩
 · have:=h.new d hd k W;omega
 {
 rcases List.mem_append.1 D with D|D
 · have O:=h.holds x (by simp [D])
   exact O.keep fun g I=>Z g (O.lt I) fun W=>N.2.2 x D d (by simp) g I W
 {
 rcases List.mem_cons.1 D with rfl|D
 · exact he
 · have O:=h.holds x (by simp [D])
   exact O.keep fun g I=>Z g (O.lt I) fun W=>aY.1 x D g W I}}
 {
 rcases List.mem_append.1 D with D|D
 · exact h.new x (by simp [D]) g I
 {
 rcases List.mem_cons.1 D with rfl|D
 · rcases J g I with F|F
   · exact h.new d hd g F
   · exact Nat.le_trans h.size F
 · exact h.new x (by simp [D]) g I}}
 {
 refine List.pairwise_append.2 ⟨N.1,List.pairwise_cons.2 ⟨fun x D g I F=> ?_,aY.2⟩,fun x D y Y g I F=> ?_⟩
 {
 rcases J g I with U|U
 · exact aY.1 x D g U F
 · have:=(h.holds x (by simp [D])).lt F;omega}
 {
 rcases List.mem_cons.1 Y with rfl|Y
 · rcases J g F with U|U
   · exact N.2.2 x D d (by simp) g I U
   · have:=(h.holds x (by simp [D])).lt I;omega
 · exact N.2.2 x D y (by simp [Y]) g I F}}
theorem Sat.get{l1 l2:List iO}{d:iO}(h:Sat w0 w (l1++d::l2)):d.holds w:=h.holds d (by simp)
theorem iO.holds.cell{g:Nat}{cs:List Value}{w:World}(h:(iO.blk g cs).holds w){o:Nat}{v:Value}(hv:cs[o]? =some v):w.cell? ⟨g,o,none⟩=some v:=by
 obtain⟨T,h⟩:=h
 simp [World.cell?,h,hv]
theorem iO.holds.free(h:(iO.blk g cs).holds w)(o:Nat):w.frozen? ⟨g,o,none⟩=false:=by
 obtain⟨T,h⟩:=h
 simp [World.frozen?,h]
theorem Sat.Ew{l1 l2:List iO}(h:Sat w0 w (l1++ .blk g cs::l2))(o:Nat)(v:Value):
   Sat w0 (w.setCell ⟨g,o,none⟩ v) (l1++ .blk g (cs.set o v)::l2):=by
 refine h.turn (d:= .blk g cs) (fun k _ D=>Below.heap_setCell _ _ _ _ fun e=>D (by rw [e];rfl)) rfl rfl rfl (by simp [World.setCell]) ?_ (fun _ h=> .inl h)
 obtain⟨T,F⟩:=h.get
 refine⟨T,?_⟩
 simp [World.setCell,Array.getElem?_modify,F]
theorem iO.holds.row{s:Nat}{E:TypeId}{n:Int}(h:(iO.own v s E n c).holds w):Row w v s n c:=by
 obtain⟨F,h1,⟨rfl,rfl⟩|⟨g,cap,cur,rfl,I,U,O,N,J⟩⟩:=h
 · exact⟨⟨F,h1,_,_,rfl,.inl rfl⟩,fun k D=>by rw [Int.zero_mul] at D;omega⟩
 {
 refine⟨⟨F,h1,_,_,rfl,.inr ⟨_,_,rfl⟩⟩,fun k D=> ?_⟩
 simp [pW,World.cell?,I,J k D]}
theorem iO.holds.freeRow{s:Nat}{E:TypeId}{n:Int}(h:(iO.own v s E n c).holds w)(k:Int):v=Oh\/w.frozen? (pW v k)=false:=by
 obtain⟨O,h1,⟨rfl,rfl⟩|⟨g,cap,cur,rfl,D,N,J,I,F⟩⟩:=h
 · exact .inl rfl
 · right;simp [pW,World.frozen?,D]
theorem iO.holds.congr{s:Nat}{E:TypeId}{n:Int}{d:Ov}(h:(iO.own v s E n c).holds w)(e:∀k,0<=k->k<n*s->c k=d k):(iO.own v s E n d).holds w:=by
 obtain⟨F,h1,h|⟨g,cap,cur,rfl,I,U,O,N,J⟩⟩:=h
 · exact⟨F,h1,.inl h⟩
 · exact⟨F,h1,.inr ⟨g,cap,cur,rfl,I,U,O,N,fun k D=>by rw [J k D,e k Oa D]⟩⟩
theorem Sat.A_{l1 l2:List iO}{s:Nat}{E:TypeId}{n:Int}(h:Sat w0 w (l1++ .own v s E n c::l2))(k:Int)(h0:0<=k)(h1:k<n*s)(x:Value):
   Sat w0 (w.setCell (pW v k) x) (l1++ .own v s E n (upd c k x)::l2):=by
 obtain⟨j,rfl⟩:=Int.eq_ofNat_of_zero_le h0
 obtain⟨F,D,⟨rfl,rfl⟩|⟨g,cap,cur,rfl,U,Z,Y,W,J⟩⟩:=h.get
 · rw [Int.zero_mul] at h1;omega
 {
 refine h.turn (fun k _ N=>Below.heap_setCell _ _ _ _ fun e=>N (by rw [e];simp [iO.has,Value.ownBlock,pW])) rfl rfl rfl (by simp [World.setCell]) ?_ (fun _ h=> .inl h)
 refine⟨F,D,.inr ⟨g,cap,cur.setIfInBounds j x,rfl,?_,Z,Y,by simp [W],fun i hi=> ?_⟩⟩
 · simp [World.setCell,Array.getElem?_modify,U,pW]
 {
 have O:=J j h1
 have I:=(Array.getElem?_eq_some_iff.1 O).1
 rw [Array.getElem?_setIfInBounds]
 by_cases e:j=i
 · subst e;simp [upd,I]
 · rw [if_neg e,J i hi]
   simp only [upd]
   rw [if_neg Oa]}}
def cellsOf(c:Ov)(m:Nat):List Value:=(List.range m).map fun(k:Nat)=>c (k:Int)
theorem l7(c:Ov)(m k:Nat):(cellsOf c m)[k]? =if k<m then some (c k) else none:=by
 unfold cellsOf
 by_cases h:k<m
 · simp [h]
 · simp [h]
theorem YG(c:Ov)(m:Nat):(cellsOf c m).length=m:=by simp [cellsOf]
theorem iO.holds.owns{s:Nat}{E:TypeId}{n:Int}(h:(iO.own v s E n c).holds w)(base:Nat)(N:∀g,v.ownBlock=some g->base<=g):
   w.ownsRow base E s v n.toNat (cellsOf c (n.toNat*s)):=by
 obtain⟨W,h1,⟨rfl,rfl⟩|⟨g,cap,cur,rfl,J,F,U,D,O⟩⟩:=h
 · exact⟨by simp [cellsOf],.inl ⟨rfl,rfl⟩⟩
 {
 refine⟨by simp [cellsOf],.inr ⟨g,cap,cur,rfl,N g rfl,J,F,U,D,?_⟩⟩
 have I:n.toNat*s<=cur.size:=by rw [D];exact Nat.mul_le_mul_right _ F
 apply List.ext_getElem?
 intro k
 rw [l7,List.getElem?_take]
 by_cases hk:k<n.toNat*s
 · have e:((n.toNat*s:Nat):Int)=n*s:=by rw [Int.natCast_mul,Int.toNat_of_nonneg W]
   rw [if_pos hk,if_pos hk,Array.getElem?_toList,O k Oa]
 · rw [if_neg hk,if_neg hk]}
theorem iO.holds.uX{s:Nat}{E:TypeId}{n:Int}{base:Nat}(F:0<=n)(h1:n<=140737488355328)(h:w.ownsRow base E s v n.toNat (cellsOf c (n.toNat*s))):(iO.own v s E n c).holds w:=by
 obtain⟨_,⟨rfl,h⟩|⟨g,cap,cur,rfl,Y,I,U,O,N,J⟩⟩:=h
 · exact⟨F,h1,.inl ⟨rfl,Oa⟩⟩
 {
 refine⟨F,h1,.inr ⟨g,cap,cur,rfl,I,U,O,N,fun k W=> ?_⟩⟩
 have D:k<n.toNat*s:=by
   have:((n.toNat*s:Nat):Int)=n*s:=by rw [Int.natCast_mul,Int.toNat_of_nonneg F]
   omega
 have:=congrArg (fun l=>l[k]?) J
 simp only [List.getElem?_take,l7,D,if_true,Array.getElem?_toList] at this
 exact this}
end Go.Proofs.Gw
namespace Go.Proofs.Gw
open Go Go.RowKit
def ZF(P:Program)(T:TypeId):Bool:=
  match P.underlying T with
  |some (.struct _)|some (.array _ _)|none=>false
  |some _=>(P.info? T).map (·.size)==some 1
def ZC(P:Program)(T:TypeId):Option Nat:=
  match P.underlying T with
  |some (.struct _)=>(P.info? T).map (·.size)
  |_=>none
def Zw(P:Program)(T:TypeId)(f:Nat):Option Nat:=
  match P.underlying T with
  | some (.struct fs)=>match fs[f]? with
    | some d=>match P.info? d.type with
      |some i=>if i.size=0 then none else some d.offset
      |none=>none
    |none=>none
  |_=>none
def Zy(P:Program)(T:TypeId):Option (TypeId×Nat):=
  match P.underlying T with
  |some (.slice E)=>(P.info? E).map fun i=>(E,i.size)
  |_=>none
def ZN(P:Program)(E:TypeId):Option (Value×Nat×Nat):=
  match P.info? E with
  |some i=>i.zero.map fun z=>(z,i.size,i.bytes)
  |none=>none
def Zc(P:Program)(f:FuncId):Bool:=
  match P.funcs[f]? with
  |some fn=>fn.body.isSome&& !(fn.name== "runtime.NumGoroutine")
  |none=>false
section
variable {P:Program} {L:List (Nat×Value)} {w w0:World} {o:Oper} {x y z:Operand} {T T':TypeId}
theorem Zkr{v:Value}(F:o.op= .move x)(D:iZ L x=some v):Runs P L w o (.value v) w:=fun ρ h=>by
 simp [execOp,F,h x v D]
theorem ZfR{v:Value}(F:o.op= .assign x)(D:iZ L x=some v):Runs P L w o (.value v) w:=fun ρ h=>by
 simp [execOp,F,h x v D]
theorem ZfP{v:Value}(I:o.op= .pick x y z)(F:iZ L x=some (.bool true))(D:iZ L y=some v):Runs P L w o (.value v) w:=fun ρ h=>by
 simp [execOp,I,h _ _ F,h _ _ D,asBool]
theorem ZfQ{v:Value}(I:o.op= .pick x y z)(F:iZ L x=some (.bool false))(D:iZ L z=some v):Runs P L w o (.value v) w:=fun ρ h=>by
 simp [execOp,I,h _ _ F,h _ _ D,asBool]
section
variable {m n r:Int}
theorem ZmT(I:o.op= .binOp .add T x y T')(F:iZ L x=some (.int Oi m))(D:iZ L y=some (.int Oi n))(e:r=m+n)(hr:I64 r):Runs P L w o (.value (.int Oi r)) w:=fun ρ h=>by
 subst e
 simp [execOp,I,h _ _ F,h _ _ D,go_sem,Op.intArith,hr.wrap]
theorem ZmB(I:o.op= .binOp .sub T x y T')(F:iZ L x=some (.int Oi m))(D:iZ L y=some (.int Oi n))(e:r=m-n)(hr:I64 r):Runs P L w o (.value (.int Oi r)) w:=fun ρ h=>by
 subst e
 simp [execOp,I,h _ _ F,h _ _ D,go_sem,Op.intArith,hr.wrap]
theorem ZmH(I:o.op= .binOp .mul T x y T')(F:iZ L x=some (.int Oi m))(D:iZ L y=some (.int Oi n))(e:r=m*n)(hr:I64 r):Runs P L w o (.value (.int Oi r)) w:=fun ρ h=>by
 subst e
 simp [execOp,I,h _ _ F,h _ _ D,go_sem,Op.intArith,hr.wrap]
theorem ZmD(I:o.op= .binOp .quo T x y T')(F:iZ L x=some (.int Oi m))(D:iZ L y=some (.int Oi n))(hn:n≠0)(e:r=m.tdiv n)(hr:I64 r):Runs P L w o (.value (.int Oi r)) w:=fun ρ h=>by
 subst e
 simp [execOp,I,h _ _ F,h _ _ D,go_sem,Op.intDiv,hn,hr.wrap]
theorem ZmC(I:o.op= .binOp .rem T x y T')(F:iZ L x=some (.int Oi m))(D:iZ L y=some (.int Oi n))(hn:n≠0)(e:r=m.tmod n):Runs P L w o (.value (.int Oi r)) w:=fun ρ h=>by
 subst e
 simp [execOp,I,h _ _ F,h _ _ D,go_sem,Op.intDiv,hn]
theorem ZmG(F:o.op= .unOp .neg T x)(D:iZ L x=some (.int Oi m))(e:r= -m)(hr:I64 r):Runs P L w o (.value (.int Oi r)) w:=fun ρ h=>by
 subst e
 have:=hr.wrap
 simp [execOp,F,h _ _ D,Op.unary,Op.intArith,this]
variable {k:IntKind}
theorem ZmK(I:o.op= .binOp .lss T x y T')(F:iZ L x=some (.int k m))(D:iZ L y=some (.int k n)):Runs P L w o (.value (B (m<n))) w:=fun ρ h=>by
 rw [<-FP];simp [execOp,I,h _ _ F,h _ _ D,go_sem]
theorem ZmM(I:o.op= .binOp .leq T x y T')(F:iZ L x=some (.int k m))(D:iZ L y=some (.int k n)):Runs P L w o (.value (B (m<=n))) w:=fun ρ h=>by
 rw [<-FP];simp [execOp,I,h _ _ F,h _ _ D,go_sem]
theorem ZmO(I:o.op= .binOp .gtr T x y T')(F:iZ L x=some (.int k m))(D:iZ L y=some (.int k n)):Runs P L w o (.value (B (n<m))) w:=fun ρ h=>by
 rw [<-FP];simp [execOp,I,h _ _ F,h _ _ D,go_sem]
theorem ZmP(I:o.op= .binOp .geq T x y T')(F:iZ L x=some (.int k m))(D:iZ L y=some (.int k n)):Runs P L w o (.value (B (n<=m))) w:=fun ρ h=>by
 rw [<-FP];simp [execOp,I,h _ _ F,h _ _ D,go_sem]
theorem Zlp(m n:Int):(m==n)=decide (m=n):=by
 rw [Bool.eq_iff_iff];simp
theorem Zlo(m n:Int):(m !=n)=decide (m≠n):=by
 rw [Bool.eq_iff_iff];simp
theorem ZmQ(I:o.op= .binOp .eql T x y T')(F:iZ L x=some (.int k m))(D:iZ L y=some (.int k n)):Runs P L w o (.value (B (m=n))) w:=fun ρ h=>by
 rw [<-FP];simp [execOp,I,h _ _ F,h _ _ D,go_sem,Zlp]
theorem ZmF(I:o.op= .binOp .neq T x y T')(F:iZ L x=some (.int k m))(D:iZ L y=some (.int k n)):Runs P L w o (.value (B (m≠n))) w:=fun ρ h=>by
 rw [<-FP];simp [execOp,I,h _ _ F,h _ _ D,go_sem,Zlo]
theorem ZmE{p:Prop}(F:o.op= .unOp .not T x)(D:iZ L x=some (B p)):Runs P L w o (.value (B (¬p))) w:=fun ρ h=>by
 have e:Op.unary .not (B p)=pure (B (¬p)):=by
   by_cases hp:p
   · rw [ZV hp,ZB (fun h=>h hp)];rfl
   · rw [ZB hp,ZV hp];rfl
 simp [execOp,F,h _ _ D,e]
theorem ZhD(F:o.op= .unOp .not T x)(D:iZ L x=some (.bool true)):Runs P L w o (.value (.bool false)) w:=fun ρ h=>by
 simp [execOp,F,h _ _ D,Op.unary]
theorem ZhE(F:o.op= .unOp .not T x)(D:iZ L x=some (.bool false)):Runs P L w o (.value (.bool true)) w:=fun ρ h=>by
 simp [execOp,F,h _ _ D,Op.unary]
theorem ZmJ{ts:Array TypeId}(I:o.op= .call {callee:= .builtin .max,args:= #[x,y],argTypes:=ts})(F:iZ L x=some (.int k m))(D:iZ L y=some (.int k n))(e:r=max m n):Runs P L w o (.value (.int k r)) w:=fun ρ h=>by
 subst e
 have:(if n>m then n else m)=max m n:=by rw [Int.max_def];split<;>split<;>omega
 simp [execOp,I,resolve,invoke,builtin,h _ _ F,h _ _ D,Builtin.max_,Builtin.max2,this]
theorem ZmI{ts:Array TypeId}(I:o.op= .call {callee:= .builtin .min,args:= #[x,y],argTypes:=ts})(F:iZ L x=some (.int k m))(D:iZ L y=some (.int k n))(e:r=min m n):Runs P L w o (.value (.int k r)) w:=fun ρ h=>by
 subst e
 have:(if n<m then n else m)=min m n:=by rw [Int.min_def];split<;>split<;>omega
 simp [execOp,I,resolve,invoke,builtin,h _ _ F,h _ _ D,Builtin.min_,Builtin.min2,this]
end
theorem Zv{T E:TypeId}{s:Nat}(h:Zy P T=some (E,s)):P.underlying T=some (.slice E)/\∃i,P.info? E=some i/\i.size=s:=by
 unfold Zy at h
 split at h
 {
 rename_i F D
 cases hi:P.info? F with
 |none=>simp [hi] at h
 |some i=>simp [hi] at h;obtain⟨rfl,rfl⟩:=h;exact⟨D,i,hi,rfl⟩}
 · cases h
theorem ZmN{v:Value}{n:Int}{E:TypeId}{s:Nat}(J:o.op= .call {callee:= .builtin .len,args:= #[x],argTypes:= #[T]})(I:Zy P T=some (E,s))(D:iZ L x=some v)(hv:iK v n):
   Runs P L w o (.value (.int Oi n)) w:=fun ρ h=>by
 obtain⟨F,_⟩:=Zv I
 obtain⟨N,h1,a,cap,rfl,_⟩:=hv
 have e:goInt (max n 0)= .int Oi n:=by rw [Int.max_eq_left N];rfl
 simp [execOp,J,resolve,invoke,builtin,h _ _ D,Builtin.len_,run_underlying F,e]
theorem Addr.add_eq(a:Addr)(h:a.spot=none)(k:Nat):a.add k=⟨a.block,a.off+k,none⟩:=by
 unfold Addr.add
 split
 · rename_i e;subst e;cases a;simp at h;simp [h]
 · rfl
theorem ZhF{v:Value}{n i k:Int}{E:TypeId}{s:Nat}(U:o.op= .indexAddr T x y)(O:Zy P T=some (E,s))(J:iZ L x=some v)(I:iZ L y=some (.int Oi i))(hv:iK v n)(D:0<=i)(h1:i<n)(e:k=i*s):
   Runs P L w o (.value (.pointer (some (pW v k)))) w:=fun ρ h=>by
 subst e
 obtain⟨N,inf,hi,rfl⟩:=Zv O
 obtain⟨hn,_,a,cap,rfl,W|⟨b,off,rfl⟩⟩:=hv
 · omega
 {
 have hlt:¬max n 0<=i:=Oa
 have F:(i*(inf.size:Int)).toNat=i.toNat*inf.size:=by
   obtain⟨j,rfl⟩:=Int.eq_ofNat_of_zero_le D
   rw [<-Int.natCast_mul];exact Int.toNat_natCast _
 simp [execOp,U,h _ _ J,h _ _ I,Instr.indexAt,run_underlying N,asIntOf,sizeOf,typeInfo,hi,pW,Addr.add_eq,F,D]
 exact fun h=>absurd h hlt}
theorem ZcI{T:TypeId}{f off:Nat}(h:Zw P T f=some off):∃(D:Array Field) (d:Field) (i:TypeInfo),P.underlying T=some (.struct D)/\D[f]? =some d/\P.info? d.type=some i/\i.size≠0/\d.offset=off:=by
 unfold Zw at h
 split at h
 {
 rename_i D F
 split at h
 {
 rename_i d hd
 split at h
 {
 rename_i i hi
 split at h
 · cases h
 · rename_i I;cases h;exact⟨D,d,i,F,hd,hi,I,rfl⟩}
 · cases h}
 · cases h}
 · cases h
theorem _7{a b:Addr}{f off:Nat}(N:o.op= .fieldAddr T x f)(I:Zw P T f=some off)(D:iZ L x=some (.pointer (some a)))(O:a.add off=b):
   Runs P L w o (.value (.pointer (some b))) w:=fun ρ h=>by
 subst O
 obtain⟨U,d,i,F,hd,hi,J,rfl⟩:=ZcI I
 simp [execOp,N,h _ _ D,Instr.fieldAt,run_underlying F,hd,Instr.sureAddr,fieldPlace,sizeOf,typeInfo,hi,J]
theorem Sv{v:Value}{n:Int}(hv:iK v n){k:Int}(D:0<=k)(hn:0<n)(off:Nat):(pW v k).add off=pW v (k+off):=by
 obtain⟨_,_,a,cap,rfl,h|⟨b,o,rfl⟩⟩:=hv
 · omega
 {
 rw [Addr.add_eq _ rfl]
 have:(k+off).toNat=k.toNat+off:=Oa
 simp [pW,this,Nat.add_assoc]}
theorem YN{T:TypeId}(h:ZF P T=true):(∃d,P.underlying T=some d/\(isAgg T).run P w= .ok false w)/\∃i,P.info? T=some i/\i.size=1:=by
 unfold ZF at h
 split at h
 · cases h
 · cases h
 · cases h
 {
 rename_i d h1 F D
 refine⟨⟨d,D,?_⟩,?_⟩
 {
 unfold isAgg
 rw [Sem.run_bind,run_underlying D,Result.andThen_ok]
 cases d<;>first|rfl|(exact absurd rfl (h1 _))|(exact absurd rfl (F _ _))}
 {
 cases hi:P.info? T with
 |none=>simp [hi] at h
 |some i=>simp [hi] at h;exact⟨i,rfl,h⟩}}
theorem M_{a:Addr}{v:Value}(I:o.op= .load T x)(F:ZF P T=true)(D:iZ L x=some (.pointer (some a)))(hc:w.cell? a=some v):Runs P L w o (.value v) w:=fun ρ h=>by
 obtain⟨⟨d,N,J⟩,_⟩:=YN (w:=w) F
 simp [execOp,I,h _ _ D,Instr.loadAt,Instr.sureAddr,loadVar,J,hc]
theorem Xo{T:TypeId}{n:Nat}(h:ZC P T=some n):(isAgg T).run P w= .ok true w/\(sizeOf T).run P w= .ok n w:=by
 unfold ZC at h
 split at h
 {
 rename_i F D
 cases hi:P.info? T with
 |none=>simp [hi] at h
 | some i=>
   simp [hi] at h;subst h
   exact⟨by unfold isAgg;rw [Sem.run_bind,run_underlying D];rfl,by simp [sizeOf,typeInfo,hi]⟩}
 · cases h
theorem Uu{a:Addr}{cs:List Value}(I:o.op= .load T x)(F:ZC P T=some cs.length)(D:iZ L x=some (.pointer (some a)))(hc:∀j v,cs[j]? =some v->w.cell? (a.add j)=some v):Runs P L w o (.value (.agg cs.toArray)) w:=fun ρ h=>by
 obtain⟨h1,J⟩:=Xo (w:=w) F
 simp [execOp,I,h _ _ D,Instr.loadAt,Instr.sureAddr,loadVar,h1,J,run_loadCells_list (P:=P) w a cs hc]
theorem iO.holds.cells{g:Nat}{cs:List Value}(h:(iO.blk g cs).holds w):∀j v,cs[j]? =some v->w.cell? ((⟨g,0,none⟩:Addr).add j)=some v:=fun j v hv=>by
 rw [Addr.add_eq _ rfl]
 have:=h.cell hv
 simpa using this
theorem Rz{a:Addr}{v u:Value}(N:o.op= .store T x y)(J:ZF P T=true)(I:iZ L x=some (.pointer (some a)))(F:iZ L y=some v)(hv:v.oneCell'=true)(hc:w.cell? a=some u)(hf:w.frozen? a=false):
   Runs P L w o .skip (w.setCell a v):=fun ρ h=>by
 obtain⟨_,i,hi,hsz⟩:=YN (w:=w) J
 have D:v.cells= #[v]:=by cases v<;>first|rfl|(simp [Value.oneCell'] at hv)
 have O:a.add 0=a:=by simp [Addr.add]
 simp [execOp,N,h _ _ I,h _ _ F,Instr.storeAt,Instr.sureAddr,storeVar,sizeOf,typeInfo,hi,hsz,D,storeCells,O,run_store P w a v _ hv,hc,hf]
theorem Za6{l1 l2:List iO}{g k:Nat}{cs:List Value}{v u:Value}(J:o.op= .store T x y)(I:ZF P T=true)(h:Sat w0 w (l1++ .blk g cs::l2))(F:iZ L x=some (.pointer (some ⟨g,k,none⟩)))(D:iZ L y=some v)
   (hv:v.oneCell'=true) (N:cs[k]? =some u):∃w',Runs P L w o .skip w'/\Sat w0 w' (l1++ .blk g (cs.set k v)::l2):=
 ⟨_,Rz J I F D hv (h.get.cell N) (h.get.free k),h.Ew k v⟩
theorem Za5{l1 l2:List iO}{v u:Value}{s:Nat}{E:TypeId}{n k:Int}{c:Ov}(O:o.op= .store T x y)(N:ZF P T=true)(D:Sat w0 w (l1++ .own v s E n c::l2))(J:iZ L x=some (.pointer (some (pW v k))))(I:iZ L y=some u)
   (hv:u.oneCell'=true) (F:0<=k) (h1:k<n*s):∃w',Runs P L w o .skip w'/\Sat w0 w' (l1++ .own v s E n (upd c k u)::l2):=by
 refine⟨_,Rz O N J I hv (D.get.row.cell F h1) ?_,D.A_ k F h1 u⟩
 rcases D.get.freeRow k with h|h
 {
 obtain⟨_,_,⟨_,rfl⟩|⟨g,cap,cur,rfl,_⟩⟩:=D.get
 · rw [Int.zero_mul] at h1;omega
 · cases h}
 · exact h
theorem Rb(g:Nat)(E:TypeId):∀(vs:List Value) (k:Nat) (cur:List Value) (w:World),w.heap[g]? =some (.cells cur.toArray E (0,0))->k+vs.length<=cur.length->(∀v∈vs,v.oneCell'=true)->
   ∃w',(storeCells ⟨g,0,none⟩ vs k).run P w= .ok () w'/\w'.heap[g]? =some (.cells (cur.take k++vs++cur.drop (k+vs.length)).toArray E (0,0))/\(∀j,j≠g->w'.heap[j]? =w.heap[j]?)/\w'.tape=w.tape/\w'.os=w.os/\w'.output=w.output/\w'.heap.size=w.heap.size
 | [],k,cur,w,hg,hk,_=>⟨w,rfl,by simp [hg],fun _ _=>rfl,rfl,rfl,rfl,rfl⟩
 | v::vs,k,cur,w,hg,hk,h1=>by
   simp only [List.length_cons] at hk
   have hv:=h1 v (by simp)
   have hlt:k<cur.length:=Oa
   have hc:w.cell? ⟨g,k,none⟩=some cur[k]:=by simp [World.cell?,hg,hlt]
   have hf:w.frozen? ⟨g,k,none⟩=false:=by simp [World.frozen?,hg]
   have h:(w.setCell ⟨g,k,none⟩ v).heap[g]? =some (.cells (cur.set k v).toArray E (0,0)):=by simp [World.setCell,Array.getElem?_modify,hg]
   obtain⟨w',Y,W,U,O,N,J,I⟩:=Rb g E vs (k+1) (cur.set k v) (w.setCell ⟨g,k,none⟩ v) h (by simp;omega) (fun u F=>h1 u (by simp [F]))
   refine⟨w',?_,?_,fun j D=> ?_,O,N,J,?_⟩
   {
   have e0:(⟨g,0,none⟩:Addr).add k=⟨g,k,none⟩:=by rw [Addr.add_eq _ rfl];simp
   simp only [storeCells,Sem.run_bind,e0]
   rw [run_store P w _ v _ hv,hc]
   simp only [hf]
   exact Y}
   {
   rw [W]
   congr 3
   have e1:(cur.set k v).take (k+1)=cur.take k++ [v]:=by
     rw [List.take_set,List.take_succ_eq_append_getElem hlt,List.set_append_right _ _ (by simp;omega)]
     simp [Nat.min_eq_left (Nat.le_of_lt hlt)]
   have Z:(cur.set k v).drop (k+1+vs.length)=cur.drop (k+(v::vs).length):=by
     rw [List.drop_set_of_lt Oa];congr 1;simp;omega
   rw [e1,Z];simp}
   · rw [U j D];exact Below.heap_setCell _ _ _ _ D
   · rw [I];simp [World.setCell]
theorem Ys{E:TypeId}{z:Value}{s b:Nat}(h:ZN P E=some (z,s,b)):∃i,P.info? E=some i/\i.zero=some z/\i.size=s/\i.bytes=b:=by
 unfold ZN at h
 split at h
 {
 rename_i i hi
 cases D:i.zero with
 |none=>simp [D] at h
 |some z'=>simp [D] at h;obtain⟨rfl,rfl,rfl⟩:=h;exact⟨i,hi,D,rfl,rfl⟩}
 · cases h
theorem ZmR{l:List iO}{v:Value}{cs:List Value}(F:o.op= .box T x)(I:Sat w0 w l)(D:iZ L x=some v)(hc:v.cells=cs.toArray):
   ∃u w',Runs P L w o (.value u) w'/\∃g,u= Or g/\Sat w0 w' (l++ [.blk g cs]):=by
 refine⟨_,w.alloc (.cells cs.toArray T),fun ρ h=> ?_,w.heap.size,rfl,I.box cs T⟩
 simp [execOp,F,h _ _ D,Instr.box,newVar,newRow,hc]
theorem ZhI{l:List iO}{z:Value}{s b:Nat}{cs:List Value}(I:o.op= .alloc T)(F:ZN P T=some (z,s,b))(J:Sat w0 w l)(hc:z.cells=cs.toArray):
   ∃u w',Runs P L w o (.value u) w'/\∃g,u= Or g/\Sat w0 w' (l++ [.blk g cs]):=by
 refine⟨_,w.alloc (.cells cs.toArray T),fun ρ h=> ?_,w.heap.size,rfl,J.box cs T⟩
 obtain⟨i,hi,D,_⟩:=Ys F
 simp [execOp,I,Instr.alloc,zeroValue,typeInfo,hi,D,newVar,newRow,hc]
theorem MR{w:World}{E:TypeId}{s:Nat}{n:Int}{c:Ov}{cur:Array Value}(D:0<=n)(h1:n<=140737488355328)(h:cur.size=n.toNat*s)(hc:∀k:Nat,(k:Int)<n*s->cur[k]? =some (c k)):
   (iO.own (.slice (some ⟨w.heap.size,0,none⟩) n.toNat n.toNat) s E n c).holds (w.alloc (.cells cur E)):=
 ⟨D,h1,.inr ⟨_,_,_,rfl,heap_alloc_new w _,Nat.le_refl _,by unfold maxLen;omega,h,hc⟩⟩
theorem Zks{l:List iO}{E:TypeId}{s b:Nat}{n:Int}{D:Value}(ho:o.op= .makeSlice T x y)(ht:Zy P T=some (E,s))(he:ZN P E=some (D,s,b))(U:D.cells= #[D])(hs:s=1)(hS:Sat w0 w l)
   (Y:iZ L x=some (.int Oi n)) (W:iZ L y=some (.int Oi n)) (J:0<=n) (hb:b*n<=140737488355328) (h1:n<=140737488355328):
   ∃u w',Runs P L w o (.value u) w'/\Sat w0 w' (l++ [.own u s E n (fun _=>D)])/\iK u n:=by
 subst hs
 obtain⟨Z,_⟩:=Zv ht
 obtain⟨i,hi,F,hsz,I⟩:=Ys he
 {
 have O:∀w:World,(Instr.makeSlice T (.int Oi n) (.int Oi n)).run P w= .ok (.slice (some ⟨w.heap.size,0,none⟩) n.toNat n.toNat) (w.alloc (.cells (madeCells D.cells (n.toNat*i.size)) E)):=fun w=>
   run_make w T E i D Z hi F .i64 .i64 n n J (Int.le_refl _) (by rw [I];omega) Oa
 refine⟨_,w.alloc (.cells (madeCells D.cells (n.toNat*i.size)) E),fun ρ h=> ?_,hS.alloc _ (MR (s:=1) J h1 (by simp [madeCells,hsz]) ?_) ?_,⟨J,h1,_,_,rfl,.inr ⟨_,_,rfl⟩⟩⟩
 · simp [execOp,ho,h _ _ Y,h _ _ W,O]
 {
 intro k hk
 have:k<n.toNat*i.size:=by rw [hsz];omega
 rw [U]
 simp [madeCells,this,Nat.mod_one]}
 · intro g N;simp [iO.has,Value.ownBlock] at N;exact N.symm}
theorem ZmL{l:List iO}{E:TypeId}{s b len:Nat}{parts:Array (Nat×Operand)}{pv:List (Nat×Value)}{cs:List Value}{n:Int}{c:Ov}{D:Value}(Z:o.op= .buildSlice T len parts)(W:Zy P T=some (E,s))(he:ZN P E=some (D,s,b))(hS:Sat w0 w l)
   (Y:∀ρ,Ht L ρ->(parts.toList.map fun x=>(x.1,ρ x.2))=pv) (hf:Instr.fill (fun i=>some (i*s,s)) ((Array.range (len*s)).map fun j=>D.cells[j%D.cells.size]!) pv=some cs.toArray)
   (hl:len*s<=16777216) (J:len*s≠0) (hn:n=len) (N:cs.length=len*s) (hc:∀k:Nat,(k:Int)<n*s->cs[k]? =some (c k)) (h1:n<=140737488355328):
   ∃u w',Runs P L w o (.value u) w'/\Sat w0 w' (l++ [.own u s E n c])/\iK u n:=by
 obtain⟨U,_⟩:=Zv W
 obtain⟨i,hi,F,rfl,aa⟩:=Ys he
 have e:n.toNat=len:=Oa
 refine⟨.slice (some ⟨w.heap.size,0,none⟩) n.toNat n.toNat,w.alloc (.cells cs.toArray E),fun ρ h=> ?_,hS.alloc _ (MR (s:=i.size) Oa h1 (by rw [e];simpa using N) (fun k hk=>by simpa using hc k hk)) ?_,⟨by omega,h1,_,_,rfl,.inr ⟨_,_,rfl⟩⟩⟩
 {
 have I:=Y ρ h
 have bk:¬16777216<len*i.size:=Oa
 simp [execOp,Z,Instr.buildSlice,run_underlying U,sizeOf,typeInfo,hi,J,bk,zeroValue,F,I,hf,newRow,e]}
 · intro g O;simp [iO.has,Value.ownBlock] at O;exact O.symm
theorem Zkt{l:List iO}{E:TypeId}{s:Nat}{c:Ov}(J:o.op= .buildSlice T 0 #[])(I:Zy P T=some (E,s))(O:Sat w0 w l):
   ∃u w',Runs P L w o (.value u) w'/\Sat w0 w' (l++ [.own u s E 0 c])/\iK u 0:=by
 obtain⟨F,i,hi,rfl⟩:=Zv I
 refine⟨.slice (some ⟨w.heap.size,0,none⟩) 0 0,w.alloc (.cells #[] E),fun ρ h=> ?_,O.alloc _ (MR (n:=0) (s:=i.size) Oa Oa (by simp) (fun k N=>by rw [Int.zero_mul] at N;omega)) ?_,⟨by omega,Oa,_,_,rfl,.inr ⟨_,_,rfl⟩⟩⟩
 {
 simp [execOp,J,Instr.buildSlice,run_underlying F,sizeOf,typeInfo,hi,Instr.fill,newRow]
 exact congrArg (fun c=>w.alloc (.cells c E)) (by simp [Array.range])}
 · intro g D;simp [iO.has,Value.ownBlock] at D;exact D.symm
end
end Go.Proofs.Gw
namespace Go.Proofs.Gw
open Go Go.RowKit
section
variable {P:Program} {l:List Oper} {Q:Exit->Act->World->Prop} {a:Act} {w:World} {rest:List Oper} {o:Oper} {n:Nat} {ds:List Deferred} {L:List (Nat×Value)}
theorem Zmj{d:Nat}{R:Value->World->Prop}(J:Fr a n ds L)(F:Want l L o true)(hd:o.dst=some d)(h:Nat.blt d n=true)(hr:∃v w',Runs P L w o (.value v) w'/\R v w')
   (K:∀v w',R v w'->∀D,Fr D n ds ((d,v)::L)->wpList P l.toArray Q rest D w'):wpList P l.toArray Q (o::rest) a w:=by
 obtain⟨v,w',hr,I⟩:=hr
 exact Qa J F hd h hr (K v w' I)
theorem Zj3{R:World->Prop}(F:Fr a n ds L)(h:Want l L o true)(hd:o.dst=none)(hr:∃w',Runs P L w o .skip w'/\R w')
   (K:∀w',R w'->wpList P l.toArray Q rest a w'):wpList P l.toArray Q (o::rest) a w:=by
 obtain⟨w',hr,D⟩:=hr
 exact Zmi F h hd hr (K w' D)
theorem V_{p:Prop}{d:Nat}{G:Prop}(h:Fr a n ds L)(hd:lk L d=some (B p))(D:p->Fr a n ds ((d,.bool true)::L)->G)(hf:¬p->Fr a n ds ((d,.bool false)::L)->G):G:=by
 by_cases hp:p
 · exact D hp (h.known hd (ZV hp))
 · exact hf hp (h.known hd (ZB hp))
end
section
variable {P:Program} {L:List (Nat×Value)} {w w0:World} {o:Oper} {x y z:Operand} {T T':TypeId}
def Te(L:List (Nat×Value))(xs:Array Operand)(vs:List Value):Prop:=∀ρ,Ht L ρ->xs.map ρ=vs.toArray
theorem G6:Te L #[] []:=fun _ _=>by simp
theorem Wz{F:List Operand}{v:Value}{vs:List Value}(I:iZ L x=some v)(h:Te L F.toArray vs):Te L (x::F).toArray (v::vs):=fun ρ D=>by
 have h1:=congrArg Array.toList (h ρ D)
 have J:=D x v I
 simp only [List.map_toArray] at h1⊢
 rw [List.map_cons,J,h1]
theorem SI{g:FuncId}{N:Array Operand}{ts:Array TypeId}{vs:List Value}{cap:Array Value}{D:Array Value}(W:o.op= .call {callee:= .value x,args:=N,argTypes:=ts})(U:iZ L x=some (.func (.func g) #[] cap))(F:Zc P g=true)(Y:Te L N vs)
   (e:vs.toArray++cap=D):Runs P L w o (.enter g D) w:=fun ρ h=>by
 subst e
 have h1:=Y ρ h
 unfold Zc at F
 cases hf:P.funcs[g]? with
 |none=>simp [hf] at F
 | some fn=>
   simp only [hf,Bool.and_eq_true,Bool.not_eq_true'] at F
   obtain⟨O,hn⟩:=F
   have J:fn.body≠none:=by intro e;rw [e] at O;simp at O
   have I:fn.name≠ "runtime.NumGoroutine" :=by simpa using hn
   simp [execOp,W,resolve,h _ _ U,Deferred.ofValue,invoke,callFunc,hf,I,J,h1]
theorem ZdG{k:Nat}{vs:List Value}{v:Value}(F:o.op= .extract x k)(D:iZ L x=some (.tuple vs.toArray))(hv:vs[k]? =some v):Runs P L w o (.value v) w:=fun ρ h=>by
 simp [execOp,F,h _ _ D,Instr.extract,hv]
theorem ZcL{f:Fn}{vs:List Value}{D:Array Operand}(F:o.op= .makeFunc f #[] D)(I:Te L D vs):Runs P L w o (.value (.func f #[] vs.toArray)) w:=fun ρ h=>by
 have h1:=I ρ h
 simp [execOp,F,Instr.makeFunc,h1]
theorem ZmS{r:Next}{w':World}(I:∀cs b,o.op≠ .select cs b)(F:(o.op.operands.toList.all fun x=>(iZ L x).isSome)=true)(hr:(execOp (fun x=>(iZ L x).getD undef) o).run P w= .ok r w'):Runs P L w o r w':=fun ρ h=>by
 rw [<-hr,execOp_congr o I fun x D=> ?_]
 have:=List.all_eq_true.1 F x (by simpa using D)
 obtain⟨v,hv⟩:=Option.isSome_iff_exists.1 this
 rw [hv,h x v hv];rfl
theorem Zf2{s:Nat}{n m:Int}{c d:Ov}(h:0<=n)(h1:0<=m):cellsOf c (n.toNat*s)++cellsOf d (m.toNat*s)=cellsOf (cat (n*s) c d) ((n+m).toNat*s):=by
 have e:(n+m).toNat*s=n.toNat*s+m.toNat*s:=by rw [<-Nat.add_mul];congr 1;omega
 have D:((n.toNat*s:Nat):Int)=n*s:=by rw [Int.natCast_mul,Int.toNat_of_nonneg h]
 apply List.ext_getElem?
 intro k
 rw [List.getElem?_append,l7,l7,l7,YG,e]
 by_cases hk:k<n.toNat*s
 {
 rw [if_pos hk,if_pos hk,if_pos Oa]
 simp only [cat];rw [if_pos Oa]}
 {
 rw [if_neg hk]
 by_cases hk2:k<n.toNat*s+m.toNat*s
 {
 rw [if_pos Oa,if_pos hk2]
 simp only [cat];rw [if_neg Oa]
 congr 2;omega}
 · rw [if_neg Oa,if_neg hk2]}
theorem UA(w:World)(base:Nat)(t e:TypeId)(i:TypeInfo)(z:Value)(size bytes:Nat)(Z:P.underlying t=some (.slice e))(hi:P.info? e=some i)(hz:i.zero=some z)
   (x8:i.size=size) (D:i.bytes=bytes) (O:z.cells.size=size) (hsz:0<size)
   (v:Value) (n:Nat) (I:List Value) (N:w.ownsRow base e size v n I)
   (a:Addr) (m c:Nat) (news:List Value) (U:news.length=m*size) (Y:∀j u,news[j]? =some u->w.cell? (a.add j)=some u) (h1:∀u∈news,u.oneCell'=true)
   (F:n+m<=maxLen) (zX:(n+m)*bytes<=140737488355328) (yS:base<=w.heap.size) (ty:TypeId):
   ∃J w',(Builtin.append_ #[t,t] ty #[v,.slice (some a) m c]).run P w= .ok J w'/\w'.ownsRow base e size J (n+m) (I++news)/\w.grownBy w' v.ownBlock/\
     (J.ownBlock=v.ownBlock\/∀g,J.ownBlock=some g->w.heap.size<=g):=by
 obtain⟨J,w',hr,h2,h3,_⟩:=run_append_own (P:=P) w base t ty e i z size bytes Z hi hz x8 D O hsz v n I N a m c news U Y h1 F zX yS
 refine⟨J,w',hr,h2,h3,?_⟩
 rcases N.2 with⟨rfl,rfl⟩|⟨g,cap,cur,rfl,hbg,W,hnc,hcm,hcs,kA⟩
 {
 obtain⟨v2,w2,h,h4,_⟩:=run_append_own (P:=P) w w.heap.size t ty e i z size bytes Z hi hz x8 D O hsz Oh 0 I ⟨N.1,.inl ⟨rfl,rfl⟩⟩ a m c news U Y h1 F zX (Nat.le_refl _)
 rw [hr] at h
 cases h
 exact .inr fun g W=>(h4.lt g W).1}
 {
 subst x8
 by_cases qC:n+m<=cap
 {
 have qJ:n*i.size+news.length<=cur.size:=by rw [U,hcs,<-Nat.add_mul];exact Nat.mul_le_mul_right _ qC
 have h:=run_append_room (P:=P) w t ty e i Z hi g n cap cur W a m c news U Y h1 qC qJ
 rw [hr] at h
 cases h
 exact .inl rfl}
 {
 subst D
 have je:n+m<=9223372036854775807:=by simp only [maxLen] at F;omega
 have holds:∀j u,I[j]? =some u->w.cell? ((⟨g,0,none⟩:Addr).add j)=some u:=N.cells (g:=g) rfl
 have h:=run_append_grow (P:=P) w t ty e i z Z hi hz ⟨g,0,none⟩ n cap I N.1 holds a m c news U Y Oa Oa (growslice_fits Oa zX)
 rw [hr] at h
 cases h
 exact .inr fun g W=>by simp [Value.ownBlock] at W;omega}}
theorem Apart.symm{d e:iO}(h:Apart d e):Apart e d:=fun g D hd=>h g hd D
theorem Sat.perm{l m:List iO}(h:Sat w0 w l)(D:l.Perm m):Sat w0 w m:=
 ⟨h.below,fun e F=>h.holds e (D.mem_iff.2 F),fun e F=>h.new e (D.mem_iff.2 F),(D.pairwise_iff (fun h=>Apart.symm h)).1 h.sep⟩
theorem ZfS{l1 l2:List iO}{v u:Value}{E:TypeId}{s b:Nat}{n m:Int}{c d:Ov}{Z:Value}(ho:o.op= .call {callee:= .builtin .append,args:= #[x,y],argTypes:= #[T,T]})(ht:Zy P T=some (E,s))(he:ZN P E=some (Z,s,b))(hz:Z.cells.size=s)(hs:0<s)
   (W:Sat w0 w (l1++ .own v s E n c::l2)) (hx:iZ L x=some v) (hy:iZ L y=some u) (hu:Row w u s m d) (h1:∀k,0<=k->k<m*s->(d k).oneCell'=true) (hb:b*(n+m)<=140737488355328) (ab:n+m<=140737488355328):
   ∃r w',Runs P L w o (.value r) w'/\Sat w0 w' (l1++ .own r s E (n+m) (cat (n*s) c d)::l2)/\iK r (n+m):=by
 obtain⟨J,_⟩:=Zv ht
 obtain⟨i,hi,aa,hsz,af⟩:=Ys he
 have I:=W.get
 obtain⟨U,ag,_⟩:=I
 have D:=hu.fP.n0
 have yE:=W.get.owns w0.heap.size (fun g I=>W.new (.own v s E n c) (by simp) g I)
 have en:n.toNat+m.toNat=(n+m).toNat:=Oa
 have eb:(n.toNat+m.toNat)*b<=140737488355328:=by
   have:(((n.toNat+m.toNat)*b:Nat):Int)=b*(n+m):=by rw [Int.natCast_mul,Int.natCast_add,Int.toNat_of_nonneg U,Int.toNat_of_nonneg D,Int.mul_comm]
   omega
 have key:∃r w',(∀(ty:TypeId),(Builtin.append_ #[T,T] ty #[v,u]).run P w= .ok r w')/\w'.ownsRow w0.heap.size E s r (n.toNat+m.toNat) (cellsOf c (n.toNat*s)++cellsOf d (m.toNat*s))/\w.grownBy w' v.ownBlock/\(r.ownBlock=v.ownBlock\/∀g,r.ownBlock=some g->w.heap.size<=g):=by
   obtain⟨_,ah,a,cap,rfl,h⟩:=hu.fP
   have ae:(cellsOf d (m.toNat*s)).length=m.toNat*s:=YG _ _
   cases a with
   | some ad=>
     have dU:∀j t,(cellsOf d (m.toNat*s))[j]? =some t->w.cell? (ad.add j)=some t:=by
       intro j t F
       rw [l7] at F
       split at F
       {
       rename_i hlt
       have e':((m.toNat*s:Nat):Int)=m*s:=by rw [Int.natCast_mul,Int.toNat_of_nonneg D]
       have:=hu.2 j Oa
       cases F
       rw [<-this]
       rcases h with h|⟨b',off,h⟩
       · subst h;simp at hlt
       · cases h;rw [Addr.add_eq _ rfl];simp [pW]}
       · cases F
     have qo:∀t∈cellsOf d (m.toNat*s),t.oneCell'=true:=by
       intro t ht
       obtain⟨j,F⟩:=List.getElem?_of_mem ht
       rw [l7] at F
       split at F
       · rename_i hlt
         have e':((m.toNat*s:Nat):Int)=m*s:=by rw [Int.natCast_mul,Int.toNat_of_nonneg D]
         cases F;exact h1 j Oa Oa
       · cases F
     obtain⟨r,w',hr,Y,O,N⟩:=UA (P:=P) w w0.heap.size T E i Z s b J hi aa hsz af hz hs v n.toNat _ yE ad m.toNat cap _ ae dU qo (by unfold maxLen;omega) eb W.size 0
     refine⟨r,w',fun ty=> ?_,Y,O,N⟩
     rw [<-hr];rfl
   | none=>
     have hm:m=0:=by rcases h with h|⟨_,_,h⟩;exact h;cases h
     subst hm
     refine⟨v,w,fun ty=> ?_,by simpa [cellsOf] using yE,⟨rfl,rfl,rfl,Nat.le_refl _,fun _ _ _=>rfl⟩,.inl rfl⟩
     obtain⟨_,⟨rfl,_⟩|⟨g,cp,cur,rfl,_,I,ac,_⟩⟩:=yE
     · simp [Builtin.append_,run_underlying J,sizeOf,typeInfo,hi,Builtin.lenOf,Builtin.firstCells]
     · simp [Builtin.append_,run_underlying J,sizeOf,typeInfo,hi,Builtin.lenOf,Builtin.firstCells,ac,storeCells]
 obtain⟨r,w',hr,Y,O,N⟩:=key
 rw [Zf2 U D,en] at Y
 have hE:(iO.own r s E (n+m) (cat (n*s) c d)).holds w':=iO.holds.uX Oa ab Y
 refine⟨r,w',fun ρ h=> ?_,?_,hE.row.fP⟩
 · simp [execOp,ho,resolve,invoke,builtin,h _ _ hx,h _ _ hy,hr]
 {
 exact W.turn (fun k hl hk=>O.block k hl (fun e=>hk e.symm)) O.tape O.os O.output O.size hE (fun g I=>by
   simp only [iO.has] at I⊢
   rcases N with N|N
   · exact .inl (by rw [<-N];exact I)
   · exact .inr (N g I))}
end
end Go.Proofs.Gw
namespace Go.Proofs.Gw
open Go Go.RowKit
section
variable {P:Program} {ops:Array Oper} {Q:Exit->Act->World->Prop} {S A:World->Prop} {brk:Nat}
def SA(S A:World->Prop)(brk:Nat)(listed:Array Bool)(w:World):Prop:=(listed.getD brk false=false->S w)/\A w
def uV(P:Program)(ops:Array Oper)(Q:Exit->Act->World->Prop)(S A:World->Prop)(brk:Nat):Nat->Array Bool->Act->World->Prop
  |0,listed,a,w=>Region.ready .any ops listed= []/\Q .normal a w
  | fuel+1,listed,a,w=>
    (Region.ready .any ops listed= []->Q .normal a w)/\
    ∀i∈Region.ready .any ops listed,wpOp P ops Q i (fun a' w'=>SA S A brk (listed.setIfInBounds i true) w'/\uV P ops Q S A brk fuel (listed.setIfInBounds i true) a' w') a w
theorem VL:∀(fuel:Nat) (listed:Array Bool) (a:Act) (w:World),uV P ops Q S A brk fuel listed a w->wpAny P .any ops Q fuel listed a w
 |0,_,_,_,h=>h
 |fuel+1,_,_,_,h=>⟨h.1,fun i hi=>wpOp_mono (fun F w' D=>VL fuel _ F w' D.2) (h.2 i hi)⟩
theorem Yr{listed:Array Bool}{i j:Nat}(b:Bool)(h:i≠j):(listed.setIfInBounds i true).getD j b=listed.getD j b:=by
 simp only [Array.getD_eq_getD_getElem?,Array.getElem?_setIfInBounds_ne h]
def Closed(ops:Array Oper)(listed:Array Bool):Prop:=
  listed.size=ops.size/\∀j oj,ops[j]? =some oj->listed.getD j false=true->∀e∈oj.after,Region.binds .any e=true->listed.getD e.on false=true
theorem Closed.start:Closed ops (Array.replicate ops.size false):=⟨by simp,fun j D _ h=>by
 rw [getD_replicate_false] at h;cases h⟩
theorem Closed.set{listed:Array Bool}{i:Nat}(h:Closed ops listed)(hi:i∈Region.ready .any ops listed):Closed ops (listed.setIfInBounds i true):=by
 obtain⟨_,oi,F,U⟩:=mem_ready.1 hi
 refine⟨by simp [h.1],fun j I D J e N O=> ?_⟩
 by_cases hij:i=j
 {
 subst hij
 have:I=oi:=Option.some.inj (D.symm.trans F)
 subst this
 exact getD_set_true (U e N O)}
 {
 rw [Yr false hij] at J
 exact getD_set_true (h.2 j I D J e N O)}
def Jb(ops:Array Oper)(brk i:Nat):Bool:=
  Region.waitsFor .any ops brk i||(List.range ops.size).any fun m=>Region.waitsFor .any ops brk m&&(Region.waitsFor .any ops m i||(List.range ops.size).any fun m'=>Region.waitsFor .any ops m m'&&Region.waitsFor .any ops m' i)
theorem Closed.wait{listed:Array Bool}(h:Closed ops listed){j i:Nat}(I:Region.waitsFor .any ops j i=true)(J:listed.getD j false=true):listed.getD i false=true:=by
 obtain⟨F,D,e,N,O,rfl⟩:=Region.waitsFor_spec I
 exact h.2 j F D J e N O
theorem Closed.waits{listed:Array Bool}(h:Closed ops listed){j i:Nat}(D:Jb ops j i=true)(N:listed.getD j false=true):listed.getD i false=true:=by
 unfold Jb at D
 rw [Bool.or_eq_true] at D
 rcases D with D|D
 · exact h.wait D N
 {
 obtain⟨m,_,I⟩:=List.any_eq_true.1 D
 rw [Bool.and_eq_true,Bool.or_eq_true] at I
 have h1:=h.wait I.1 N
 rcases I.2 with J|J
 · exact h.wait J h1
 {
 obtain⟨O,_,F⟩:=List.any_eq_true.1 J
 rw [Bool.and_eq_true] at F
 exact h.wait F.2 (h.wait F.1 h1)}}
theorem SA.up{listed:Array Bool}{w:World}{i:Nat}(h:SA S A brk listed w)(D:i≠brk):SA S A brk (listed.setIfInBounds i true) w:=⟨fun F=>h.1 (by rw [Yr false D] at F;exact F),h.2⟩
theorem SA.down{listed:Array Bool}{w:World}{i:Nat}(h:SA S A brk (listed.setIfInBounds i true) w)(D:i≠brk):SA S A brk listed w:=⟨fun F=>h.1 (by rw [Yr false D];exact F),h.2⟩
theorem Vm{S':World->Prop}{i:Nat}{I:Oper}{v:Value}(hi:ops[i]? =some I)(fj:∀(j:Nat) (o:Oper) cs b,ops[j]? =some o->o.op≠ .select cs b)
   (hQ:∀c a w,Q (.panic c) (a.put I.dst v) w->Q (.panic c) a w) (N:i≠brk)
   (hk:∀(listed:Array Bool) (w:World),Closed ops listed->listed.getD i true=false->SA S A brk listed w->S' w):
   ∀(fuel:Nat) (listed:Array Bool) (a:Act) (w:World),
     (∀j F,ops[j]? =some F->j≠i->listed.getD j true=false->(∀e∈F.after,Region.binds .any e=true->e.on≠i)->I.apart ops F=true)->
     i∈Region.ready .any ops listed->YieldsIf P ops S' I v a->Closed ops listed->SA S A brk listed w->
     uV P ops Q S A brk fuel (listed.setIfInBounds i true) (a.put I.dst v) w->uV P ops Q S A brk (fuel+1) listed a w:=by
 intro fuel
 induction fuel with
 | zero=>
   intro listed a w _ hr hy D Z H
   refine⟨fun h=>(by rw [h] at hr;cases hr),fun j U=> ?_⟩
   by_cases hji:j=i
   · subst hji;exact hy.wpOp hi (hk _ _ D (mem_ready.1 hr).1 Z) ⟨Z.up N,H⟩
   {
   have:=ready_mono U hji
   rw [H.1] at this
   cases this}
 | succ fuel ih=>
   intro listed a w cJ hr hy D Z H
   refine⟨fun h=>(by rw [h] at hr;cases hr),fun j U=> ?_⟩
   by_cases hji:j=i
   · subst hji;exact hy.wpOp hi (hk _ _ D (mem_ready.1 hr).1 Z) ⟨Z.up N,H⟩
   {
   have h1:=H.2 j (ready_mono U hji)
   obtain⟨fK,F,J,qa⟩:=mem_ready.1 U
   have bk:∀e∈F.after,Region.binds .any e=true->e.on≠i:=fun e he hb ad=>by
     have h1:=qa e he hb
     have h0:=(mem_ready.1 hr).1
     rw [ad] at h1
     rcases Nat.lt_or_ge i listed.size with h'|h'
     · simp [h'] at h0 h1;rw [h0] at h1;cases h1
     · simp [Array.getElem?_eq_none h'] at h1
   have h2:=wpOp_putIf J (cJ j F J hji fK bk) (fun cs b=>fj i I cs b hi) (fun cs b=>fj j F cs b J) hQ hy h1
   have dO:∀k ok,ops[k]? =some ok->k≠i->(listed.setIfInBounds j true).getD k true=false->
       (∀e∈ok.after,Region.binds .any e=true->e.on≠i)->I.apart ops ok=true:=fun k ok hk ac O ab=>by
     refine cJ k ok hk ac ?_ ab
     by_cases hjk:j=k
     · subst hjk;exact fK
     · rw [getD_set_ne true hjk] at O;exact O
   have gd:(listed.setIfInBounds i true).setIfInBounds j true=(listed.setIfInBounds j true).setIfInBounds i true:=Array.setIfInBounds_comm _ _ (Ne.symm hji)
   refine wpOp_mono (fun a' w' h3=> ?_) h2
   obtain⟨aa,Y,h4⟩:=h3
   rw [gd] at Y h4
   have W:SA S A brk (listed.setIfInBounds j true) w':=Y.down N
   exact⟨W,ih (listed.setIfInBounds j true) a' w' dO (ready_mono hr (Ne.symm hji)) aa (D.set U) W h4⟩}
theorem Zgp{listed:Array Bool}{a:Act}{w:World}(hr:Region.ready .any ops listed= [])(h:Q .normal a w):∀fuel,uV P ops Q S A brk fuel listed a w
 |0=>⟨hr,h⟩
 |_+1=>⟨fun _=>h,by rw [hr];simp⟩
end
section
variable {P:Program} {l:List Oper} {Q:Exit->Act->World->Prop} {S A:World->Prop} {brk:Nat} {a:Act} {w:World} {n:Nat} {ds:List Deferred} {L:List (Nat×Value)} {o:Oper} {listed:Array Bool} {fuel i:Nat}
theorem ZhY{id:Nat}(S A:World->Prop)(brk:Nat)(D:P.follows .mixedOrders=true)(F:S w.drew)(I:A w.drew)(hn:l.length=fuel)
   (h:S w.drew->A w.drew->Closed l.toArray (Array.replicate fuel false)->uV P l.toArray (NoPanic Q) S A brk fuel (Array.replicate fuel false) a w.drew):(Code.region id l.toArray true).wp P Q a w:=by
 subst hn
 refine wp_region_noPanic (wp_region_any D ?_)
 have:=h F I (by have:=Closed.start (ops:=l.toArray);simpa using this)
 have J:=VL _ _ _ _ this
 simpa using J
theorem X5{v:Value}{dst:Option Tmp}:∀c (a:Act) (w:World),NoPanic Q (.panic c) (a.put dst v) w->NoPanic Q (.panic c) a w:=fun _ _ _ h=>h.elim
def WJ(l:List Oper)(listed:Array Bool)(i:Nat):Bool:=Region.noSelect l.toArray&&Region.free .any l.toArray listed i&&(Region.ready .any l.toArray listed).contains i
theorem Runs.yields(h:Fr a n ds L){S':World->Prop}(D:Want l L o true){v:Value}(hr:∀w,S' w->Runs P L w o (.value v) w):YieldsIf P l.toArray S' o v a:=
 .inl ⟨D.wanted h,fun w F=>hr w F _ h.wP⟩
theorem WO(hc:Closed l.toArray listed)(h:WJ l listed i=true):Closed l.toArray (listed.setIfInBounds i true):=by
 unfold WJ at h
 rw [Bool.and_eq_true,Bool.and_eq_true] at h
 exact hc.set (by simpa using h.2)
theorem Zm6{d:Nat}{v:Value}(U:Fr a n ds L)(hc:Closed l.toArray listed)(O:SA S A brk listed w)(i:Nat)(hi:l[i]? =some o)(Y:Want l L o true)(hd:o.dst=some d)(I:Nat.blt d n=true)(h:WJ l listed i=true)(F:Nat.beq i brk=false)
   (hr:∀w,Runs P L w o (.value v) w)
   (K:∀W,Fr W n ds ((d,v)::L)->Closed l.toArray (listed.setIfInBounds i true)->SA S A brk (listed.setIfInBounds i true) w->uV P l.toArray (NoPanic Q) S A brk fuel (listed.setIfInBounds i true) W w):uV P l.toArray (NoPanic Q) S A brk (fuel+1) listed a w:=by
 have N:i≠brk:=fun e=>by subst e;simp at F
 have J:=WO hc h
 unfold WJ at h
 rw [Bool.and_eq_true,Bool.and_eq_true] at h
 have D:l.toArray[i]? =some o:=by simpa using hi
 refine Vm (S':=fun _=>True) D (Region.noSelect_spec h.1.1) X5 N (fun _ _ _ _ _=>trivial) fuel listed a w (Region.free_spec D h.1.2) (by simpa using h.2) (Runs.yields U Y fun w _=>hr w) hc O ?_
 have:=K _ (U.put (by simpa [Nat.blt_eq] using I) v) J (O.up N)
 rw [hd];exact this
theorem Zm7{d:Nat}(U:Fr a n ds L)(hc:Closed l.toArray listed)(O:SA S A brk listed w)(i:Nat)(hi:l[i]? =some o)(Y:Want l L o false)(hd:o.dst=some d)(I:Nat.blt d n=true)(h:WJ l listed i=true)(F:Nat.beq i brk=false)
   (K:∀W,Fr W n ds ((d,undef)::L)->Closed l.toArray (listed.setIfInBounds i true)->SA S A brk (listed.setIfInBounds i true) w->uV P l.toArray (NoPanic Q) S A brk fuel (listed.setIfInBounds i true) W w):uV P l.toArray (NoPanic Q) S A brk (fuel+1) listed a w:=by
 have N:i≠brk:=fun e=>by subst e;simp at F
 have J:=WO hc h
 unfold WJ at h
 rw [Bool.and_eq_true,Bool.and_eq_true] at h
 have D:l.toArray[i]? =some o:=by simpa using hi
 refine Vm (S':=fun _=>True) D (Region.noSelect_spec h.1.1) X5 N (fun _ _ _ _ _=>trivial) fuel listed a w (Region.free_spec D h.1.2) (by simpa using h.2) (.inr ⟨Y.wanted U,rfl⟩) hc O ?_
 have:=K _ (U.put (by simpa [Nat.blt_eq] using I) undef) J (O.up N)
 rw [hd];exact this
theorem Zkw{d:Nat}{v:Value}(hF:Fr a n ds L)(hc:Closed l.toArray listed)(hS:SA S A brk listed w)(i:Nat)(hi:l[i]? =some o)(hg:Want l L o true)(hd:o.dst=some d)(O:Nat.blt d n=true)(D:WJ l listed i=true)(N:Nat.beq i brk=false)
   (h:(Nat.ble l.length brk||Jb l.toArray brk i)=true) (hr:∀w,S w->Runs P L w o (.value v) w)
   (K:∀a',Fr a' n ds ((d,v)::L)->Closed l.toArray (listed.setIfInBounds i true)->SA S A brk (listed.setIfInBounds i true) w->uV P l.toArray (NoPanic Q) S A brk fuel (listed.setIfInBounds i true) a' w):uV P l.toArray (NoPanic Q) S A brk (fuel+1) listed a w:=by
 have Z:i≠brk:=fun e=>by subst e;simp at N
 have U:=WO hc D
 unfold WJ at D
 rw [Bool.and_eq_true,Bool.and_eq_true] at D
 have I:l.toArray[i]? =some o:=by simpa using hi
 refine Vm (S':=S) I (Region.noSelect_spec D.1.1) X5 Z (fun ls w' J F W=>W.1 ?_) fuel listed a w (Region.free_spec I D.1.2) (by simpa using D.2) (Runs.yields hF hg hr) hc hS ?_
 {
 rw [Bool.or_eq_true] at h
 rcases h with h|h
 {
 have hb:l.length<=brk:=Nat.le_of_ble_eq_true h
 have hsz:=J.1
 rw [Array.getD_eq_getD_getElem?,Array.getElem?_eq_none (by rw [hsz];simpa using hb)];rfl}
 {
 cases hq:ls.getD brk false with
 |false=>rfl
 | true=>
   have h1:=J.waits h hq
   rcases Nat.lt_or_ge i ls.size with Y|Y
   · simp [Y] at F h1;rw [F] at h1;cases h1
   · simp [Array.getElem?_eq_none Y] at h1}}
 have:=K _ (hF.put (by simpa [Nat.blt_eq] using O) v) U (hS.up Z)
 rw [hd];exact this
theorem ZhZ{d:Nat}{v:Value}(W:Fr a n ds L)(hc:Closed l.toArray listed)(U:SA S A brk listed w)(i:Nat)(hi:l[i]? =some o)(hg:Want l L o true)(hd:o.dst=some d)(I:Nat.blt d n=true)(h:WJ l listed i=true)(F:Nat.beq i brk=false)
   (hr:∀w,A w->Runs P L w o (.value v) w)
   (K:∀Y,Fr Y n ds ((d,v)::L)->Closed l.toArray (listed.setIfInBounds i true)->SA S A brk (listed.setIfInBounds i true) w->uV P l.toArray (NoPanic Q) S A brk fuel (listed.setIfInBounds i true) Y w):uV P l.toArray (NoPanic Q) S A brk (fuel+1) listed a w:=by
 have O:i≠brk:=fun e=>by subst e;simp at F
 have J:=WO hc h
 unfold WJ at h
 rw [Bool.and_eq_true,Bool.and_eq_true] at h
 have D:l.toArray[i]? =some o:=by simpa using hi
 refine Vm (S':=A) D (Region.noSelect_spec h.1.1) X5 O (fun ls w' aa Z N=>N.2) fuel listed a w (Region.free_spec D h.1.2) (by simpa using h.2) (Runs.yields W hg hr) hc U ?_
 have:=K _ (W.put (by simpa [Nat.blt_eq] using I) v) J (U.up O)
 rw [hd];exact this
theorem MI(hc:Closed l.toArray listed)(i:Nat)(hr:Region.ready .any l.toArray listed= [i])(h:Closed l.toArray (listed.setIfInBounds i true)->wpOp P l.toArray (NoPanic Q) i (fun I w'=>SA S A brk (listed.setIfInBounds i true) w'/\uV P l.toArray (NoPanic Q) S A brk fuel (listed.setIfInBounds i true) I w') a w):
   uV P l.toArray (NoPanic Q) S A brk (fuel+1) listed a w:=
 ⟨fun F=>(by rw [hr] at F;cases F),fun j D=>by
   rw [hr] at D
   obtain rfl:=List.mem_singleton.1 D
   exact h (hc.set (by rw [hr];exact D))⟩
theorem Zm8{d:Nat}{R:Value->World->Prop}(N:Fr a n ds L)(hc:Closed l.toArray listed)(i:Nat)(hi:l[i]? =some o)(U:Want l L o true)(hd:o.dst=some d)(F:Nat.blt d n=true)(h:Region.ready .any l.toArray listed= [i])(hr:∃v w',Runs P L w o (.value v) w'/\R v w')
   (K:∀v w',R v w'->∀O,Fr O n ds ((d,v)::L)->Closed l.toArray (listed.setIfInBounds i true)->SA S A brk (listed.setIfInBounds i true) w'/\(SA S A brk (listed.setIfInBounds i true) w'->uV P l.toArray (NoPanic Q) S A brk fuel (listed.setIfInBounds i true) O w')):uV P l.toArray (NoPanic Q) S A brk (fuel+1) listed a w:=by
 refine MI hc i h fun I=> ?_
 obtain⟨v,w',hr,W⟩:=hr
 have D:l.toArray[i]? =some o:=by simpa using hi
 unfold wpOp
 rw [D]
 simp only [U.wanted N,if_true]
 refine .inl ?_
 unfold Oper.wp
 rw [hr _ N.wP,Oper.upon_value,hd]
 have J:=K v w' W _ (N.put (by simpa [Nat.blt_eq] using F) v) I
 exact⟨J.1,J.2 J.1⟩
theorem Zky{R:World->Prop}(J:Fr a n ds L)(hc:Closed l.toArray listed)(i:Nat)(hi:l[i]? =some o)(N:Want l L o true)(hd:o.dst=none)(h:Region.ready .any l.toArray listed= [i])(hr:∃w',Runs P L w o .skip w'/\R w')
   (K:∀w',R w'->Closed l.toArray (listed.setIfInBounds i true)->SA S A brk (listed.setIfInBounds i true) w'/\(SA S A brk (listed.setIfInBounds i true) w'->uV P l.toArray (NoPanic Q) S A brk fuel (listed.setIfInBounds i true) a w')):uV P l.toArray (NoPanic Q) S A brk (fuel+1) listed a w:=by
 refine MI hc i h fun F=> ?_
 obtain⟨w',hr,O⟩:=hr
 have D:l.toArray[i]? =some o:=by simpa using hi
 unfold wpOp
 rw [D]
 simp only [N.wanted J,if_true]
 refine .inl ?_
 unfold Oper.wp
 rw [hr _ J.wP,Oper.upon_skip,hd]
 have I:=K w' O F
 exact⟨I.1,I.2 I.1⟩
theorem ZkA{d:Nat}{f:FuncId}{args:Array Value}{R:Value->World->Prop}(N:Fr a n ds L)(hc:Closed l.toArray listed)(i:Nat)(hi:l[i]? =some o)(W:Want l L o true)(hd:o.dst=some d)(F:Nat.blt d n=true)(h:Region.ready .any l.toArray listed= [i])(hr:Runs P L w o (.enter f args) w)
   (U:Calls P f args w fun e w'=>∃v,e= .returned v/\R v w')
   (K:∀v w',R v w'->∀O,Fr O n ds ((d,v)::L)->Closed l.toArray (listed.setIfInBounds i true)->SA S A brk (listed.setIfInBounds i true) w'/\(SA S A brk (listed.setIfInBounds i true) w'->uV P l.toArray (NoPanic Q) S A brk fuel (listed.setIfInBounds i true) O w')):uV P l.toArray (NoPanic Q) S A brk (fuel+1) listed a w:=by
 refine MI hc i h fun I=> ?_
 have D:l.toArray[i]? =some o:=by simpa using hi
 unfold wpOp
 rw [D]
 simp only [W.wanted N,if_true]
 refine .inl ?_
 unfold Oper.wp
 rw [hr _ N.wP,Oper.upon_enter]
 refine U.mono fun e w' ⟨v,he,hR⟩=> ?_
 subst he
 rw [hd]
 have J:=K v w' hR _ (N.put (by simpa [Nat.blt_eq] using F) v) I
 exact⟨J.1,J.2 J.1⟩
def FT(P:Program)(l:List Oper)(Q:Exit->Act->World->Prop)(S A:World->Prop)(brk fuel:Nat)(listed:Array Bool)(a:Act)(w:World)(i:Nat):Prop:=
  Closed l.toArray (listed.setIfInBounds i true)->wpOp P l.toArray (NoPanic Q) i (fun a' w'=>SA S A brk (listed.setIfInBounds i true) w'/\uV P l.toArray (NoPanic Q) S A brk fuel (listed.setIfInBounds i true) a' w') a w
def GY(P:Program)(l:List Oper)(Q:Exit->Act->World->Prop)(S A:World->Prop)(brk fuel:Nat)(listed:Array Bool)(a:Act)(w:World)(r:List Nat):Prop:=∀i∈r,FT P l Q S A brk fuel listed a w i
theorem Zmw:GY P l Q S A brk fuel listed a w []:=fun i hi=>by cases hi
theorem Zko{r:List Nat}(h:FT P l Q S A brk fuel listed a w i)(hr:GY P l Q S A brk fuel listed a w r):GY P l Q S A brk fuel listed a w (i::r):=fun j D=>by
 rcases List.mem_cons.1 D with rfl|D
 · exact h
 · exact hr j D
theorem Zkx{r:List Nat}(hc:Closed l.toArray listed)(hn:r≠ [])(hr:Region.ready .any l.toArray listed=r)(h:GY P l Q S A brk fuel listed a w r):uV P l.toArray (NoPanic Q) S A brk (fuel+1) listed a w:=
 ⟨fun F=>absurd (hr.symm.trans F) hn,fun j D=>h j (hr▸D) (hc.set D)⟩
theorem Zmx{d:Nat}{R:Value->World->Prop}(J:Fr a n ds L)(i:Nat)(hi:l[i]? =some o)(O:Want l L o true)(hd:o.dst=some d)(D:Nat.blt d n=true)(hr:∃v w',Runs P L w o (.value v) w'/\R v w')
   (K:∀v w',R v w'->∀N,Fr N n ds ((d,v)::L)->Closed l.toArray (listed.setIfInBounds i true)->SA S A brk (listed.setIfInBounds i true) w'/\(SA S A brk (listed.setIfInBounds i true) w'->uV P l.toArray (NoPanic Q) S A brk fuel (listed.setIfInBounds i true) N w')):FT P l Q S A brk fuel listed a w i:=fun F=>by
 obtain⟨v,w',hr,U⟩:=hr
 have h:l.toArray[i]? =some o:=by simpa using hi
 unfold wpOp
 rw [h]
 simp only [O.wanted J,if_true]
 refine .inl ?_
 unfold Oper.wp
 rw [hr _ J.wP,Oper.upon_value,hd]
 have I:=K v w' U _ (J.put (by simpa [Nat.blt_eq] using D) v) F
 exact⟨I.1,I.2 I.1⟩
theorem Zkn{R:World->Prop}(I:Fr a n ds L)(i:Nat)(hi:l[i]? =some o)(J:Want l L o true)(hd:o.dst=none)(hr:∃w',Runs P L w o .skip w'/\R w')
   (K:∀w',R w'->Closed l.toArray (listed.setIfInBounds i true)->SA S A brk (listed.setIfInBounds i true) w'/\(SA S A brk (listed.setIfInBounds i true) w'->uV P l.toArray (NoPanic Q) S A brk fuel (listed.setIfInBounds i true) a w')):FT P l Q S A brk fuel listed a w i:=fun D=>by
 obtain⟨w',hr,N⟩:=hr
 have h:l.toArray[i]? =some o:=by simpa using hi
 unfold wpOp
 rw [h]
 simp only [J.wanted I,if_true]
 refine .inl ?_
 unfold Oper.wp
 rw [hr _ I.wP,Oper.upon_skip,hd]
 have F:=K w' N D
 exact⟨F.1,F.2 F.1⟩
theorem Zkp{d:Nat}{f:FuncId}{args:Array Value}{R:Value->World->Prop}(J:Fr a n ds L)(i:Nat)(hi:l[i]? =some o)(U:Want l L o true)(hd:o.dst=some d)(D:Nat.blt d n=true)(hr:Runs P L w o (.enter f args) w)
   (O:Calls P f args w fun e w'=>∃v,e= .returned v/\R v w')
   (K:∀v w',R v w'->∀N,Fr N n ds ((d,v)::L)->Closed l.toArray (listed.setIfInBounds i true)->SA S A brk (listed.setIfInBounds i true) w'/\(SA S A brk (listed.setIfInBounds i true) w'->uV P l.toArray (NoPanic Q) S A brk fuel (listed.setIfInBounds i true) N w')):FT P l Q S A brk fuel listed a w i:=fun F=>by
 have h:l.toArray[i]? =some o:=by simpa using hi
 unfold wpOp
 rw [h]
 simp only [U.wanted J,if_true]
 refine .inl ?_
 unfold Oper.wp
 rw [hr _ J.wP,Oper.upon_enter]
 refine O.mono fun e w' ⟨v,he,hR⟩=> ?_
 subst he
 rw [hd]
 have I:=K v w' hR _ (J.put (by simpa [Nat.blt_eq] using D) v) F
 exact⟨I.1,I.2 I.1⟩
theorem Zkz(hr:Region.ready .any l.toArray listed= [])(h:Q .normal a w):uV P l.toArray (NoPanic Q) S A brk fuel listed a w:=Zgp hr (NoPanic.normal h) fuel
end
end Go.Proofs.Gw
namespace Go.Proofs.Gw
open Go Go.RowKit
theorem Z3{α:Type}{l:List α}{i:Nat}{e:α}(h:l[i]? =some e):l=l.take i++e::l.drop (i+1):=by
 induction l generalizing i with
 |nil=>simp at h
 | cons x l ih=>
   cases i with
   |zero=>simp at h;subst h;rfl
   |succ i=>simp at h;have:=ih h;simp only [List.take_succ_cons,List.drop_succ_cons,List.cons_append];rw [<-this]
theorem YE{α:Type}{l:List α}{i:Nat}{e:α}(h:l[i]? =some e)(d:α):l.set i d=l.take i++d::l.drop (i+1):=by
 induction l generalizing i with
 |nil=>simp at h
 | cons x l ih=>
   cases i with
   |zero=>rfl
   |succ i=>simp at h;have:=ih h;simp only [List.take_succ_cons,List.drop_succ_cons,List.cons_append,List.set_cons_succ];rw [<-this]
section
variable {P:Program} {L:List (Nat×Value)} {w w0:World} {o:Oper} {x y:Operand} {T:TypeId} {l:List iO}
theorem Sat.lM(h:Sat w0 w l)(i:Nat){g:Nat}{cs:List Value}{k:Nat}{v:Value}(hi:l[i]? =some (.blk g cs))(D:cs[k]? =some v):w.cell? ⟨g,k,none⟩=some v:=
 (h.holds _ (List.mem_of_getElem? hi)).cell D
theorem Sat.f_(h:Sat w0 w l)(i:Nat){v:Value}{s:Nat}{E:TypeId}{n:Int}{c:Ov}(hi:l[i]? =some (.own v s E n c)):Row w v s n c:=
 (h.holds _ (List.mem_of_getElem? hi)).row
theorem ZcO(i:Nat){g k:Nat}{cs:List Value}{v:Value}(F:o.op= .load T x)(D:ZF P T=true)(h:iZ L x=some (.pointer (some ⟨g,k,none⟩)))(J:Sat w0 w l)(hi:l[i]? =some (.blk g cs))(I:cs[k]? =some v):Runs P L w o (.value v) w:=
 M_ F D h (J.lM i hi I)
theorem Za8(i:Nat){g:Nat}{cs:List Value}{k:Nat}(F:o.op= .load T x)(D:ZC P T=some k)(h:iZ L x=some (Or g))(J:Sat w0 w l)(hi:l[i]? =some (.blk g cs))(I:cs.length=k):Runs P L w o (.value (.agg cs.toArray)) w:=
 Uu F (by rw [D,I]) h (J.holds _ (List.mem_of_getElem? hi)).cells
theorem ZcM{s:Nat}{n k:Int}{c:Ov}{v u:Value}(F:o.op= .load T x)(D:ZF P T=true)(h:iZ L x=some (.pointer (some (pW v k))))(I:Row w v s n c)(J:0<=k)(h1:k<n*s)(e:c k=u):Runs P L w o (.value u) w:=
 M_ F D h (by rw [<-e];exact I.cell J h1)
theorem Zl7(i:Nat){g k:Nat}{cs:List Value}{v u:Value}(J:o.op= .store T x y)(I:ZF P T=true)(O:Sat w0 w l)(hi:l[i]? =some (.blk g cs))(F:iZ L x=some (.pointer (some ⟨g,k,none⟩)))(D:iZ L y=some v)
   (hv:v.oneCell'=true) (N:cs[k]? =some u):∃w',Runs P L w o .skip w'/\Sat w0 w' (l.set i (.blk g (cs.set k v))):=by
 have h:=O
 rw [Z3 hi] at h
 rw [YE hi]
 exact Za6 J I h F D hv N
theorem Zjy(i:Nat){g k:Nat}{cs ds:List Value}(W:o.op= .store T x y)(U:ZC P T=some k)(I:Sat w0 w l)(hi:l[i]? =some (.blk g cs))(O:iZ L x=some (Or g))(N:iZ L y=some (.agg ds.toArray))
   (F:(cs.length,ds.length)=(k,k)) (hd:∀v∈ds,v.oneCell'=true):∃w',Runs P L w o .skip w'/\Sat w0 w' (l.set i (.blk g ds)):=by
 have h1:cs.length=k:=congrArg Prod.fst F
 have J:ds.length=k:=congrArg Prod.snd F
 subst h1
 obtain⟨_,hsz⟩:=Xo (w:=w) U
 obtain⟨E,Z⟩:=I.holds _ (List.mem_of_getElem? hi)
 obtain⟨w',h3,h4,h5,h6,h7,h8,h9⟩:=Rb (P:=P) g E ds 0 cs w Z Oa hd
 refine⟨w',fun ρ h=> ?_,?_⟩
 · simp [execOp,W,h _ _ O,h _ _ N,Instr.storeAt,Instr.sureAddr,storeVar,Value.cells,hsz,J,h3]
 {
 have D:=I
 rw [Z3 hi] at D
 rw [YE hi]
 refine D.turn (fun j _ Y=>h5 j (fun e=>Y (by rw [e];rfl))) h6 h7 h8 Oa ⟨E,?_⟩ (fun _ h=> .inl h)
 rw [h4,List.take_zero,Nat.zero_add,J,List.drop_length];simp}
theorem Zl6(i:Nat){v u:Value}{s:Nat}{E:TypeId}{n k:Int}{c d:Ov}(J:o.op= .store T x y)(I:ZF P T=true)(N:Sat w0 w l)(hi:l[i]? =some (.own v s E n c))(F:iZ L x=some (.pointer (some (pW v k))))(D:iZ L y=some u)
   (hv:u.oneCell'=true) (O:0<=k) (h1:k<n*s) (e:upd c k u=d):∃w',Runs P L w o .skip w'/\Sat w0 w' (l.set i (.own v s E n d)):=by
 subst e
 have h:=N
 rw [Z3 hi] at h
 rw [YE hi]
 exact Za5 J I h F D hv O h1
theorem Zpc(i:Nat){v u:Value}{E:TypeId}{s b:Nat}{n m r:Int}{c d f:Ov}{F:Value}(Y:o.op= .call {callee:= .builtin .append,args:= #[x,y],argTypes:= #[T,T]})(U:Zy P T=some (E,s))(Z:ZN P E=some (F,s,b))(I:F.cells.size=s)(W:0<s)
   (hS:Sat w0 w l) (hi:l[i]? =some (.own v s E n c)) (N:iZ L x=some v) (J:iZ L y=some u) (O:Row w u s m d) (h1:∀k,0<=k->k<m*s->(d k).oneCell'=true) (hr:r=n+m) (hb:b*(n+m)<=140737488355328) (D:n+m<=140737488355328) (e:cat (n*s) c d=f):
   ∃q w',Runs P L w o (.value q) w'/\Sat w0 w' (l.set i (.own q s E r f))/\iK q r:=by
 subst e;subst hr
 have h:=hS
 rw [Z3 hi] at h
 obtain⟨q,w',h2,h3,h4⟩:=ZfS Y U Z I W h N J O h1 hb D
 exact⟨q,w',h2,by rw [YE hi];exact h3,h4⟩
end
theorem iK.one{v:Value}{n:Int}(h:iK v n):v.oneCell'=true:=by
 obtain⟨_,_,a,cap,rfl,_⟩:=h;rfl
theorem JW(p:Prop):(B p).oneCell'=true:=rfl
theorem Zj:∀v∈([]:List Value),v.oneCell'=true:=by simp
theorem Za{v:Value}{vs:List Value}(h:v.oneCell'=true)(F:∀u∈vs,u.oneCell'=true):∀u∈v::vs,u.oneCell'=true:=fun u D=>by
 rcases List.mem_cons.1 D with rfl|D
 · exact h
 · exact F u D
theorem d_:iK Oh 0:=⟨by omega,Oa,none,0,rfl,.inl rfl⟩
theorem Sat.nJ{w w0:World}{l:List iO}(i:Nat){v:Value}{s:Nat}{E:TypeId}{n:Int}{c d:Ov}(h:Sat w0 w l)(hi:l[i]? =some (.own v s E n c))(e:∀k,0<=k->k<n*s->c k=d k):Sat w0 w (l.set i (.own v s E n d)):=by
 have F:=h
 rw [Z3 hi] at F
 rw [YE hi]
 have J:=F.get
 have N:=List.pairwise_append.1 F.sep
 have I:=List.pairwise_cons.1 N.2.1
 refine⟨F.below,fun x D=> ?_,fun x D g J=> ?_,List.pairwise_append.2 ⟨N.1,List.pairwise_cons.2 ⟨fun x D=>I.1 x D,I.2⟩,fun x D y O=> ?_⟩⟩
 {
 rcases List.mem_append.1 D with D|D
 · exact F.holds x (by simp [D])
 {
 rcases List.mem_cons.1 D with rfl|D
 · exact J.congr e
 · exact F.holds x (by simp [D])}}
 {
 rcases List.mem_append.1 D with D|D
 · exact F.new x (by simp [D]) g J
 {
 rcases List.mem_cons.1 D with rfl|D
 · exact F.new (.own v s E n c) (by simp) g J
 · exact F.new x (by simp [D]) g J}}
 {
 rcases List.mem_cons.1 O with rfl|O
 · exact N.2.2 x D (.own v s E n c) (by simp)
 · exact N.2.2 x D y (by simp [O])}
theorem Sat.fU{w w0:World}{l:List iO}(h:Sat w0 w l)(s:Nat)(E:TypeId)(c:Ov):Sat w0 w (l++ [.own Oh s E 0 c]):=by
 refine h.comp (m:= [.own Oh s E 0 c]) ⟨Below.refl _ _,?_,?_,List.pairwise_singleton _ _⟩
 {
 intro e D
 obtain rfl:=List.mem_singleton.1 D
 exact⟨by omega,Oa,.inl ⟨rfl,rfl⟩⟩}
 {
 intro e D g F
 obtain rfl:=List.mem_singleton.1 D
 simp [iO.has,Value.ownBlock] at F}
def FX(k:IntKind)(n:Int):Prop:=match k with
  | .i64=> -9223372036854775808<=n/\n<=9223372036854775807
  | .u8=>0<=n/\n<=255
  | .u16=>0<=n/\n<=65535
  | .u32=>0<=n/\n<=4294967295
  | .u64=>0<=n/\n<=18446744073709551615
  |_=>False
theorem FX.wrap{k:IntKind}{n:Int}(h:FX k n):k.wrap n=n:=by
 by_cases hk:k= .i64
 · subst hk;exact I64.wrap h
 cases k<;>simp only [FX] at h<;>(first|exact h.elim|exact absurd rfl hk|skip)<;>simp only [IntKind.wrap,IntKind.bits,IntKind.signed,Bool.false_and,Bool.false_eq_true,if_false]<;>(try split)<;>omega
theorem Zku{P:Program}{L:List (Nat×Value)}{w:World}{o:Oper}{x:Operand}{S D:TypeId}{k k':IntKind}{n:Int}(N:o.op= .convert S D x)(J:(P.underlying S).isSome=true)(hd:P.underlying D=some (.int k'))(I:iZ L x=some (.int k n))(hr:FX k' n):Runs P L w o (.value (.int k' n)) w:=fun ρ h=>by
 obtain⟨d,F⟩:=Option.isSome_iff_exists.mp J
 have e:(convert S D (.int k n)).run P w= .ok (.int k' (k'.wrap n)) w:=by simp [convert,run_underlying F,run_underlying hd,Conv.intToInt]
 rw [hr.wrap] at e
 simp [execOp,N,h _ _ I,e]
section
variable {Q:Exit->Act->World->Prop} {K:Act->World->Prop} {a:Act} {w:World} {id j:Nat}
theorem Zkd(h:Q .normal a w):Exit.inBlock id Q (.exit id) a w:=by
 show if id=id then _ else _
 rw [if_pos rfl];exact h
end
def num:Nat->List Value->List (Nat×Value)
  |_, []=> []
  |k,v::r=>(k,v)::num (k+1) r
theorem Je:∀(vs:List Value) (k t:Nat) (v:Value),lk (num k vs) t=some v->k<=t/\vs[t-k]? =some v
 | [],_,_,_,h=>by simp [num,lk] at h
 | u::r,k,t,v,h=>by
   simp only [num,lk] at h
   by_cases e:k=t
   {
   subst e
   rw [Nat.beq_refl] at h
   simp only [cond_true,Option.some.injEq] at h
   subst h
   simp}
   {
   rw [Fv e] at h
   obtain⟨h1,D⟩:=Je r (k+1) t v h
   refine⟨by omega,?_⟩
   obtain⟨d,rfl⟩:∃d,t=k+1+d:=⟨t-(k+1),Oa⟩
   have I:k+1+d-k=d+1:=Oa
   have F:k+1+d-(k+1)=d:=Oa
   rw [I];rw [F] at D
   simpa using D}
theorem enter{P:Program}{f:FuncId}{fn:Func}{c:Code}{n:Nat}{w:World}{vs:List Value}{R:Ending->World->Prop}(hf:P.funcs[f]? =some fn)(F:fn.body=some c)(hn:fn.ntmps=n)(hv:Nat.ble vs.length n=true)
   (h:∀a,Fr a n [] (num 0 vs)->c.wp P (bodyPost P fn R) a w):Calls P f vs.toArray w R:=
 ZcY hf F hn (Fr.enter (vs:=vs.toArray) (by simpa using Nat.le_of_ble_eq_true hv) fun t v D=>by
   have:=(Je vs 0 t v D).2
   simpa using this) h
theorem Zm0{P:Program}{f:FuncId}{fn:Func}{c:Code}{n:Nat}{w0:World}{vs:List Value}{R:Ending->World->Prop}(hf:P.funcs[f]? =some fn)(D:fn.body=some c)(hn:fn.ntmps=n)(hv:Nat.ble vs.length n=true)
   (h:∀a w,Sat w0 w []->Fr a n [] (num 0 vs)->c.wp P (bodyPost P fn R) a w):Calls P f vs.toArray w0 R:=
 enter hf D hn hv fun a F=>h a w0 (Sat.start w0) F
section
variable {P:Program} {L:List (Nat×Value)} {w w0:World} {o:Oper} {x:Operand}
theorem ZhH{g:FuncId}{h:Array Operand}{ts:Array TypeId}{vs:List Value}(I:o.op= .call {callee:= .value x,args:=h,argTypes:=ts})(D:iZ L x=some (.func (.func g) #[] #[]))(F:Zc P g=true)(J:Te L h vs):Runs P L w o (.enter g vs.toArray) w:=
 SI I D F J (by simp)
theorem ZhG{g:FuncId}{h:Array Operand}{ts:Array TypeId}{vs cap:List Value}(I:o.op= .call {callee:= .value x,args:=h,argTypes:=ts})(D:iZ L x=some (.func (.func g) #[] cap.toArray))(F:Zc P g=true)(J:Te L h vs):Runs P L w o (.enter g (vs++cap).toArray) w:=
 SI I D F J (by simp)
def IJ(L:List (Nat×Value))(ps:List (Nat×Operand))(pv:List (Nat×Value)):Prop:=∀ρ,Ht L ρ->(ps.map fun x=>(x.1,ρ x.2))=pv
theorem Zmd:IJ L [] []:=fun _ _=>rfl
theorem ZdB{i:Nat}{v:Value}{F:List (Nat×Operand)}{pv:List (Nat×Value)}(I:iZ L x=some v)(h:IJ L F pv):IJ L ((i,x)::F) ((i,v)::pv):=fun ρ D=>by
 rw [List.map_cons,h ρ D,D x v I]
theorem Zkb{p:Prop}{w':World}(h:Runs P L w o (.value (B p)) w')(D:p):Runs P L w o (.value (.bool true)) w':=by rw [<-ZV D];exact h
theorem Zkc{p:Prop}{w':World}(h:Runs P L w o (.value (B p)) w')(D:¬p):Runs P L w o (.value (.bool false)) w':=by rw [<-ZB D];exact h
theorem NT{fn:Func}{R:Ending->World->Prop}{a:Act}{n:Nat}(D:Fr a n [] L)(hr:fn.results= #[])(h:R (.returned (.tuple #[])) w):bodyPost P fn R .ret a w:=
 ⟨D.defers,_,by rw [results_none hr],h⟩
theorem ZaH{fn:Func}{t u s:Tmp}(h:fn.results= #[.tmp t,.tmp u,.tmp s])(tmps:Array Value)(P:Program)(w:World):
   (results fn tmps).run P w= .ok (.tuple #[tmps.getD t undef,tmps.getD u undef,tmps.getD s undef]) w:=by
 simp [results,h]
theorem Zq5{fn:Func}{R:Ending->World->Prop}{a:Act}{n t u s:Nat}{v x y:Value}(D:Fr a n [] L)(hr:fn.results= #[.tmp t,.tmp u,.tmp s])(hv:lk L t=some v)(I:lk L u=some x)(F:lk L s=some y)(h:R (.returned (.tuple #[v,x,y])) w):bodyPost P fn R .ret a w:=
 ⟨D.defers,_,by rw [ZaH hr,D.get t v hv,D.get u x I,D.get s y F],h⟩
theorem Zmy(i:Nat){l:List iO}{fn:Func}{R:Ending->World->Prop}{a:Act}{n s t g k:Nat}{T:TypeId}{v:Value}{cs:List Value}(D:Fr a n [] L)(hr:fn.results= #[.cell s T,.tmp t])(N:lk L s=some (Or g))(hv:lk L t=some v)
   (J:ZC P T=some k) (U:Sat w0 w l) (hi:l[i]? =some (.blk g cs)) (O:cs.length=k) (h:R (.returned (.tuple #[.agg cs.toArray,v])) w):bodyPost P fn R .ret a w:=by
 refine⟨D.defers,_,?_,h⟩
 subst O
 obtain⟨h1,Y⟩:=Xo (w:=w) J
 have W:=run_loadCells_list (P:=P) w ⟨g,0,none⟩ cs (U.holds _ (List.mem_of_getElem? hi)).cells
 have I:=D.get s _ N
 have F:=D.get t _ hv
 rw [Array.getD_eq_getD_getElem?] at I F
 simp [results,hr,I,F,asAddr,loadVar,h1,Y,W]
theorem ZpQ(i:Nat){l:List iO}{fn:Func}{R:Ending->World->Prop}{a:Act}{n s g k:Nat}{T:TypeId}{cs:List Value}(D:Fr a n [] L)(hr:fn.results= #[.cell s T])(J:lk L s=some (Or g))
   (I:ZC P T=some k) (O:Sat w0 w l) (hi:l[i]? =some (.blk g cs)) (N:cs.length=k) (h:R (.returned (.agg cs.toArray)) w):bodyPost P fn R .ret a w:=by
 refine⟨D.defers,_,?_,h⟩
 subst N
 obtain⟨h1,W⟩:=Xo (w:=w) I
 have U:=run_loadCells_list (P:=P) w ⟨g,0,none⟩ cs (O.holds _ (List.mem_of_getElem? hi)).cells
 have F:=D.get s _ J
 rw [Array.getD_eq_getD_getElem?] at F
 simp [results,hr,F,asAddr,loadVar,h1,W,U]
end
end Go.Proofs.Gw
namespace Go.Proofs.Gw
open Go Go.RowKit
section
variable {P:Program} {L:List (Nat×Value)} {w w0:World} {o:Oper} {x y z:Operand} {T T':TypeId} {l:List iO}
def ZqV(P:Program)(t:TypeId)(name:String)(f:FuncId):Prop:=∀(v:Value) (args:Array Value) (w:World),(callMethod (.iface t v) name args).run P w= .ok (.enter f (#[v]++args)) w
theorem R4(i:Nat){g k m:Nat}{cs ds:List Value}(F:o.op= .load T x)(D:ZC P T=some m)(h:iZ L x=some (.pointer (some ⟨g,k,none⟩)))(N:Sat w0 w l)(hi:l[i]? =some (.blk g cs))(I:ds.length=m)(hd:(cs.drop k).take m=ds):
   Runs P L w o (.value (.agg ds.toArray)) w:=by
 subst I
 refine Uu F D h fun j v hv=> ?_
 rw [Addr.add_eq _ rfl]
 have J:j<ds.length:=(List.getElem?_eq_some_iff.1 hv).1
 rw [<-hd,List.getElem?_take_of_lt J,List.getElem?_drop] at hv
 exact N.lM i hi hv
theorem Za7{s:Nat}{n k:Int}{c:Ov}{v:Value}{cs:List Value}{m:Nat}(N:o.op= .load T x)(J:ZC P T=some m)(I:iZ L x=some (.pointer (some (pW v k))))(F:Row w v s n c)(W:0<=k)(h1:k+m<=n*s)(U:cs.length=m)(O:0<m)
   (e:∀(j:Nat) u,cs[j]? =some u->c (k+j)=u):Runs P L w o (.value (.agg cs.toArray)) w:=by
 subst U
 refine Uu N J I fun j u D=> ?_
 have Y:j<cs.length:=(List.getElem?_eq_some_iff.1 D).1
 have hn:0<n:=by
   rcases Int.lt_or_le 0 n with h|h
   · exact h
   · have:n*s<=0:=Int.mul_nonpos_of_nonpos_of_nonneg h Oa
     omega
 rw [Sv F.fP W hn,<-e j u D]
 exact F.cell Oa Oa
theorem ZcN{a:Addr}{v:Value}(F:o.op= .load T x)(D:ZF P T=true)(h:iZ L x=some (.pointer (some a)))(hc:w0.cell? a=some v)(I:Sat w0 w l):Runs P L w o (.value v) w:=
 M_ F D h (by rw [I.below.cell (World.block_lt_of_cell? w0 _ hc)];exact hc)
theorem UY(f:Of)(n:Nat):cellsOf (ints f) n=((List.range n).map fun(k:Nat)=>f k).map (Value.int .i64):=by
 unfold cellsOf ints
 rw [List.map_map];rfl
def Zs(f:Of)(n:Int):List Int:=(List.range n.toNat).map fun(k:Nat)=>f k
theorem Z0(f:Of)(n:Int):(Zs f n).length=n.toNat:=by simp [Zs]
theorem VV{f:Of}{n a:Int}:a∈Zs f n↔∃k,0<=k/\k<n/\f k=a:=by
 unfold Zs
 rw [List.mem_map]
 constructor
 {
 rintro⟨k,hk,rfl⟩
 rw [List.mem_range] at hk
 exact⟨k,Oa,Oa,rfl⟩}
 {
 rintro⟨k,h0,h1,rfl⟩
 exact⟨k.toNat,List.mem_range.2 Oa,by rw [Int.toNat_of_nonneg h0]⟩}
def Fq(l:List Int):Of:=fun k=>l.getD k.toNat 0
theorem Zcv(l:List Int):Zs (Fq l) l.length=l:=by
 unfold Zs Fq
 apply List.ext_getElem?
 intro i
 by_cases h:i<l.length
 · simp [h]
 · simp [h]
theorem ZdW(l:List Int)(n:Nat)(h:n<=l.length):cellsOf (ints (Fq l)) n=(l.take n).map (Value.int .i64):=by
 rw [UY]
 congr 1
 unfold Fq
 apply List.ext_getElem?
 intro i
 rw [List.getElem?_take]
 by_cases hi:i<n
 {
 have:i<l.length:=Oa
 simp [hi,this]}
 · simp [hi]
open Go.Sort in
theorem Sat.put{l1 l2:List iO}{g cap q:Nat}{E:TypeId}{n:Int}{f:Of}{ts:List Int}{os:Array Obj}(h:Sat w0 w (l1++ .own (.slice (some ⟨g,0,none⟩) n.toNat cap) 1 E n (ints f)::l2))(N:ts.length=n.toNat):
   Sat w0 (grow (putRow (Value.int .i64) (Sort.ahead w q) g 0 ts.toArray) os) (l1++ .own (.slice (some ⟨g,0,none⟩) n.toNat cap) 1 E n (ints (Fq ts))::l2):=by
 obtain⟨h0,h1,⟨hv,_⟩|⟨g',J,cur,hv,U,Z,Y,W,h5⟩⟩:=h.get
 · cases hv
 {
 cases hv
 have D:=grownBy_sortedI (w:=w) (g:=g) (n:=q) (os:=os) ts.toArray
 have F:(Zs f n).length=n.toNat:=Z0 f n
 refine h.turn (fun k O I=>D.block k O (fun e=>I (show some g=some k from e.symm))) D.tape D.os D.output D.size ?_ (fun _ h=> .inl h)
 refine iO.holds.uX (base:=0) h0 h1 ?_
 have:=ownsRow_sortedI (w:=w) (base:=0) (g:=g) (cap:=cap) (n:=q) (e:=E) (os:=os) (cur:=cur) (ss:=Zs f n) (ts:=ts) (by rw [F,N]) (Nat.zero_le _) U (by rw [F];exact Z) Y (by rw [W])
 rw [F] at this
 rw [Nat.mul_one,ZdW ts n.toNat Oa,List.take_of_length_le Oa]
 exact this}
open Go.Sort in
theorem Sat.held{l1 l2:List iO}{g cap:Nat}{E:TypeId}{n:Int}{f:Of}(h:Sat w0 w (l1++ .own (.slice (some ⟨g,0,none⟩) n.toNat cap) 1 E n (ints f)::l2)):
   Holds (Value.int .i64) w g 0 (Zs f n).toArray/\g<w.heap.size/\(Zs f n).length<=cap/\(Zs f n).length<=maxLen:=by
 obtain⟨U,h1,⟨hv,_⟩|⟨W,F,cur,hv,D,J,O,N,I⟩⟩:=h.get
 · cases hv
 {
 cases hv
 refine⟨holds_of_blockI D ?_,(Array.getElem?_eq_some_iff.1 D).1,by rw [Z0];exact J,by rw [Z0];omega⟩
 rw [Z0]
 apply List.ext_getElem?
 intro i
 rw [List.getElem?_take]
 by_cases hi:i<n.toNat
 · have:=I i Oa
   simp [hi,this,Zs,ints]
 · simp [hi,Zs]}
end
end Go.Proofs.Gw
namespace Go.Proofs.Gw
open Go Go.RowKit
section
variable {P:Program} {w w0:World} {l1 l2:List iO}
open Go.Sort
end
end Go.Proofs.Gw
namespace Go.Proofs.Gw
open Go Go.RowKit
theorem iU{α:Type}(f:Int->α)(k:Int)(x:α):upd f k x k=x:=if_pos rfl
theorem lZ{α:Type}{f:Int->α}{k j:Int}{x:α}(h:j≠k):upd f k x j=f j:=if_neg h
def lD{α:Type}(f:Int->α)(n:Int)(x:α):Int->α:=fun k=>if k<n then f k else x
theorem Zl{α:Type}{f:Int->α}{n k:Int}{x:α}(h:k<n):lD f n x k=f k:=if_pos h
theorem Zo{α:Type}{f:Int->α}{n k:Int}{x:α}(h:¬k<n):lD f n x k=x:=if_neg h
theorem YP{α:Type}(f:Int->α)(n:Int)(x:α):lD f n x n=x:=if_neg Oa
theorem YA(f:Ov)(n:Int)(x:Value):cat (n*1) f (fun _=>x)=lD f n x:=by
 funext j;simp only [cat,lD,Int.mul_one]
def Frame.rows(E:TypeId)(n:Int)(vv:Ov)(ln:Of)(f:Og):Frame where
  holds w:=(∀i,0<=i->i<n->(iO.own (vv i) 1 E (ln i) (ints (f i))).holds w)/\∀i j,0<=i->i<n->0<=j->j<n->i≠j->∀g,(vv i).ownBlock=some g->(vv j).ownBlock≠some g
  has g:=∃i,0<=i/\i<n/\(vv i).ownBlock=some g
  keep h hk:=⟨fun i i0 i1=>(h.1 i i0 i1).keep fun g hg=>hk g ⟨i,i0,i1,hg⟩,h.2⟩
  lt h hg:=by obtain⟨i,i0,i1,hg⟩:=hg;exact(h.1 i i0 i1).lt hg
section
variable {P:Program} {L:List (Nat×Value)} {w w0:World} {o:Oper} {x y z:Operand} {T T':TypeId} {l l1 l2 l3:List iO} {E:TypeId} {n:Int} {vv:Ov} {ln:Of} {f:Og}
theorem Sat.iF(h:Sat w0 w l)(E:TypeId)(vv:Ov)(ln:Of)(f:Og):Sat w0 w (l++ [.sem (Frame.rows E 0 vv ln f)]):=by
 refine h.comp (m:= [.sem (Frame.rows E 0 vv ln f)]) ⟨Below.refl _ _,?_,?_,List.pairwise_singleton _ _⟩
 {
 intro e D
 obtain rfl:=List.mem_singleton.1 D
 exact⟨fun i _ _=>Oa,fun i _ _ _=>Oa⟩}
 {
 intro e D g F
 obtain rfl:=List.mem_singleton.1 D
 obtain⟨i,J,I,_⟩:=F
 omega}
theorem Sat.lI(h:Sat w0 w l)(i:Nat)(hi:l[i]? =some (.sem (Frame.rows E n vv ln f))){k:Int}(F:0<=k)(D:k<n):Row w (vv k) 1 (ln k) (ints (f k)):=
 ((h.holds _ (List.mem_of_getElem? hi)).1 k F D).row
theorem Sat.iw(h:Sat w0 w l)(i:Nat)(hi:l[i]? =some (.sem (Frame.rows E n vv ln f))){k:Int}(F:0<=k)(D:k<n):iK (vv k) (ln k):=(h.lI i hi F D).fP
theorem Sat.merge{v:Value}{m:Int}{g:Of}(h:Sat w0 w (l1++ .sem (Frame.rows E n vv ln f)::(l2++ .own v 1 E m (ints g)::l3)))(hn:0<=n):Sat w0 w (l1++ .sem (Frame.rows E (n+1) (lD vv n v) (lD ln n m) (lD f n g))::(l2++l3)):=by
 have hp:(l1++ .sem (Frame.rows E n vv ln f)::(l2++ .own v 1 E m (ints g)::l3)).Perm (.sem (Frame.rows E n vv ln f):: .own v 1 E m (ints g)::(l1++(l2++l3))):=by
   refine List.perm_middle.trans (.cons _ ?_)
   rw [<-List.append_assoc]
   refine List.perm_middle.trans (.cons _ ?_)
   rw [List.append_assoc]
 have hq:(l1++ .sem (Frame.rows E (n+1) (lD vv n v) (lD ln n m) (lD f n g))::(l2++l3)).Perm (.sem (Frame.rows E (n+1) (lD vv n v) (lD ln n m) (lD f n g))::(l1++(l2++l3))):=List.perm_middle
 have N:=h.perm hp
 refine Sat.perm ?_ hq.symm
 have hr:=N.holds (.sem (Frame.rows E n vv ln f)) (by simp)
 have ho:=N.holds (.own v 1 E m (ints g)) (by simp)
 have W:=List.pairwise_cons.1 N.sep
 have Z:=List.pairwise_cons.1 W.2
 have O:∀i,0<=i->i<n->∀b,(vv i).ownBlock=some b->v.ownBlock≠some b:=fun i J U b D F=>W.1 (.own v 1 E m (ints g)) (by simp) b ⟨i,J,U,D⟩ F
 have cP:∀b,(iO.sem (Frame.rows E (n+1) (lD vv n v) (lD ln n m) (lD f n g))).has b->(iO.sem (Frame.rows E n vv ln f)).has b\/(iO.own v 1 E m (ints g)).has b:=fun b ⟨i,J,U,D⟩=>by
   by_cases e:i<n
   · rw [Zl e] at D;exact .inl ⟨i,J,e,D⟩
   · rw [Zo e] at D;exact .inr D
 refine⟨N.below,fun e I=> ?_,fun e I b D=> ?_,List.pairwise_cons.2 ⟨fun e I b D F=> ?_,Z.2⟩⟩
 {
 rcases List.mem_cons.1 I with rfl|I
 {
 refine⟨fun i J U=> ?_,fun i j J U j0 j1 Y b D F=> ?_⟩
 · by_cases e:i<n
   · rw [Zl e,Zl e,Zl e];exact hr.1 i J e
   · rw [Zo e,Zo e,Zo e];exact ho
 {
 by_cases ei:i<n<;>by_cases ej:j<n
 · rw [Zl ei] at D;rw [Zl ej] at F;exact hr.2 i j J ei j0 ej Y b D F
 · rw [Zl ei] at D;rw [Zo ej] at F;exact O i J ei b D F
 · rw [Zo ei] at D;rw [Zl ej] at F;exact O j j0 ej b F D
 · omega}}
 · exact N.holds e (by simp [I])}
 {
 rcases List.mem_cons.1 I with rfl|I
 {
 rcases cP b D with D|D
 · exact N.new _ (by simp) b D
 · exact N.new (.own v 1 E m (ints g)) (by simp) b D}
 · exact N.new e (by simp [I]) b D}
 {
 rcases cP b D with D|D
 · exact W.1 e (by simp [I]) b D F
 · exact Z.1 e I b D F}
theorem Sat.Bd{v:Value}{m:Int}{g:Of}(h:Sat w0 w (l1++ .own v 1 E m (ints g)::(l2++ .sem (Frame.rows E n vv ln f)::l3)))(hn:0<=n):Sat w0 w (l1++(l2++ .sem (Frame.rows E (n+1) (lD vv n v) (lD ln n m) (lD f n g))::l3)):=by
 have D:(l1++ .own v 1 E m (ints g)::(l2++ .sem (Frame.rows E n vv ln f)::l3)).Perm ([]++ .sem (Frame.rows E n vv ln f)::([]++ .own v 1 E m (ints g)::(l1++(l2++l3)))):=by
   refine List.perm_middle.trans ((List.Perm.cons _ ?_).trans (List.Perm.swap _ _ _))
   rw [<-List.append_assoc]
   refine List.perm_middle.trans (.cons _ ?_)
   rw [List.append_assoc]
 have F:=(h.perm D).merge hn
 refine F.perm ?_
 have:(l1++(l2++ .sem (Frame.rows E (n+1) (lD vv n v) (lD ln n m) (lD f n g))::l3)).Perm (.sem (Frame.rows E (n+1) (lD vv n v) (lD ln n m) (lD f n g))::(l1++(l2++l3))):=by
   rw [<-List.append_assoc,<-List.append_assoc];exact List.perm_middle
 simpa using this.symm
theorem ZjT{v:Value}{s:Nat}{c:Ov}{w:World}(h:(iO.own v s E n c).holds w){k:Int}(h0:0<=k)(h1:k<n*s)(x:Value):
   (iO.own v s E n (upd c k x)).holds (w.setCell (pW v k) x)/\(∀b,v.ownBlock≠some b->(w.setCell (pW v k) x).heap[b]? =w.heap[b]?)/\w.frozen? (pW v k)=false:=by
 obtain⟨j,rfl⟩:=Int.eq_ofNat_of_zero_le h0
 obtain⟨F,D,⟨rfl,rfl⟩|⟨g,cap,cur,rfl,J,Z,Y,W,N⟩⟩:=h
 · rw [Int.zero_mul] at h1;omega
 {
 refine⟨⟨F,D,.inr ⟨g,cap,cur.setIfInBounds j x,rfl,?_,Z,Y,by simp [W],fun i hi=> ?_⟩⟩,fun b U=>Below.heap_setCell _ _ _ _ fun e=>U (by rw [e];simp [Value.ownBlock,pW]),by simp [pW,World.frozen?,J]⟩
 · simp [World.setCell,Array.getElem?_modify,J,pW]
 {
 have O:=N j h1
 have I:=(Array.getElem?_eq_some_iff.1 O).1
 rw [Array.getElem?_setIfInBounds]
 by_cases e:j=i
 · subst e;simp [upd,I]
 · rw [if_neg e,N i hi]
   simp only [upd]
   rw [if_neg Oa]}}
theorem Zjx(i:Nat){k j a:Int}{f':Og}(ho:o.op= .store T x y)(ht:ZF P T=true)(hS:Sat w0 w l)(hi:l[i]? =some (.sem (Frame.rows E n vv ln f)))(hx:iZ L x=some (.pointer (some (pW (vv k) j))))(hy:iZ L y=some (.int Oi a))
   (J:0<=k) (I:k<n) (Y:0<=j) (j1:j<ln k) (e:upd f k (upd (f k) j a)=f'):∃w',Runs P L w o .skip w'/\Sat w0 w' (l.set i (.sem (Frame.rows E n vv ln f'))):=by
 subst e
 have D:=hS
 rw [Z3 hi] at D
 have hr:=D.get
 have Z:=hr.1 k J I
 have F:j<ln k*(1:Nat):=Oa
 obtain⟨s1,O,s3⟩:=ZjT Z Y F (.int Oi a)
 refine⟨_,Rz ho ht hx hy rfl (Z.row.cell Y F) s3,?_⟩
 rw [YE hi]
 refine D.turn (fun b _ N=>O b (fun hh=>N ⟨k,J,I,hh⟩)) rfl rfl rfl (by simp [World.setCell]) ⟨fun q W U=> ?_,hr.2⟩ (fun _ h=> .inl h)
 by_cases e:q=k
 · subst e;rw [iU,<-ZA];exact s1
 · rw [lZ e];exact(hr.1 q W U).keep fun b N=>O b (hr.2 q k W U J I e b N)
def Frame.rG(l:List iO):Frame where
  holds w:=(∀e∈l,e.holds w)/\l.Pairwise Apart
  has k:=∃e∈l,e.has k
  keep h hk:=⟨fun e he=>(h.1 e he).keep fun g hg=>hk g ⟨e,he,hg⟩,h.2⟩
  lt h hg:=by obtain⟨e,he,hg⟩:=hg;exact(h.1 e he).lt hg
theorem Sat.bundle(h:Sat w0 w (l1++l2)):Sat w0 w (l1++ [.sem (Frame.rG l2)]):=by
 have J:=List.pairwise_append.1 h.sep
 refine⟨h.below,fun e D=> ?_,fun e D g I=> ?_,List.pairwise_append.2 ⟨J.1,List.pairwise_singleton _ _,fun d hd e D g I F=> ?_⟩⟩
 {
 rcases List.mem_append.1 D with D|D
 · exact h.holds e (by simp [D])
 · obtain rfl:=List.mem_singleton.1 D
   exact⟨fun d hd=>h.holds d (by simp [hd]),J.2.1⟩}
 {
 rcases List.mem_append.1 D with D|D
 · exact h.new e (by simp [D]) g I
 {
 obtain rfl:=List.mem_singleton.1 D
 obtain⟨d,hd,I⟩:=I
 exact h.new d (by simp [hd]) g I}}
 {
 obtain rfl:=List.mem_singleton.1 D
 obtain⟨x,N,F⟩:=F
 exact J.2.2 d hd x N g I F}
theorem Sat.unbundle(h:Sat w0 w (l1++ .sem (Frame.rG l2)::l3)):Sat w0 w (l1++(l2++l3)):=by
 have N:=List.pairwise_append.1 h.sep
 have J:=List.pairwise_cons.1 N.2.1
 have W:=h.holds (.sem (Frame.rG l2)) (by simp)
 have O:∀x∈l2,∀g,x.has g->(iO.sem (Frame.rG l2)).has g:=fun x U g F=>⟨x,U,F⟩
 refine⟨h.below,fun e D=> ?_,fun e D g F=> ?_,List.pairwise_append.2 ⟨N.1,List.pairwise_append.2 ⟨W.2,J.2,fun x U y Y g F I=>J.1 y Y g (O x U g F) I⟩,fun d hd e D g F I=> ?_⟩⟩
 {
 rcases List.mem_append.1 D with D|D
 · exact h.holds e (by simp [D])
 {
 rcases List.mem_append.1 D with D|D
 · exact W.1 e D
 · exact h.holds e (by simp [D])}}
 {
 rcases List.mem_append.1 D with D|D
 · exact h.new e (by simp [D]) g F
 {
 rcases List.mem_append.1 D with D|D
 · exact h.new (.sem (Frame.rG l2)) (by simp) g (O e D g F)
 · exact h.new e (by simp [D]) g F}}
 {
 rcases List.mem_append.1 D with D|D
 · exact N.2.2 d hd (.sem (Frame.rG l2)) (by simp) g F (O e D g I)
 · exact N.2.2 d hd e (by simp [D]) g F I}
def Frame.alt(p:Prop)(F:Frame):Frame where
  holds w:=p\/F.holds w
  has k:=¬p/\F.has k
  keep:=fun {w w'} h hk=>by
    by_cases hp:p
    · exact .inl hp
    · rcases h with h|h
      · exact .inl h
      · exact .inr (F.keep h fun g hg=>hk g ⟨hp,hg⟩)
  lt:=fun {w g} h hg=>by
    rcases h with h|h
    · exact absurd h hg.1
    · exact F.lt h hg.2
theorem Sat.Jz{p:Prop}(F:Frame)(I:p)(h:Sat w0 w l):Sat w0 w (l++ [.sem (Frame.alt p F)]):=by
 refine h.comp (m:= [.sem (Frame.alt p F)]) ⟨Below.refl _ _,?_,?_,List.pairwise_singleton _ _⟩
 {
 intro e D
 obtain rfl:=List.mem_singleton.1 D
 exact .inl I}
 {
 intro e D g J
 obtain rfl:=List.mem_singleton.1 D
 exact absurd I J.1}
theorem Sat.Jy(p:Prop){F:Frame}(h:Sat w0 w (l1++ .sem F::l2)):Sat w0 w (l1++ .sem (Frame.alt p F)::l2):=by
 have O:=List.pairwise_append.1 h.sep
 have N:=List.pairwise_cons.1 O.2.1
 refine⟨h.below,fun e D=> ?_,fun e D g J=> ?_,List.pairwise_append.2 ⟨O.1,List.pairwise_cons.2 ⟨fun e D g J I=>N.1 e D g J.2 I,N.2⟩,fun d hd e D g J I=> ?_⟩⟩
 {
 rcases List.mem_append.1 D with D|D
 · exact h.holds e (by simp [D])
 {
 rcases List.mem_cons.1 D with rfl|D
 · exact .inr (h.holds (.sem F) (by simp))
 · exact h.holds e (by simp [D])}}
 {
 rcases List.mem_append.1 D with D|D
 · exact h.new e (by simp [D]) g J
 {
 rcases List.mem_cons.1 D with rfl|D
 · exact h.new (.sem F) (by simp) g J.2
 · exact h.new e (by simp [D]) g J}}
 {
 rcases List.mem_cons.1 D with rfl|D
 · exact O.2.2 d hd (.sem F) (by simp) g J I.2
 · exact O.2.2 d hd e (by simp [D]) g J I}
def Hf(u v:Value)(q n:Int):Prop:=iK u (n-q)/\∀k,0<=k->k<n-q->pW u k=pW v (k+q)
theorem Hf.row{u v:Value}{q:Int}{c:Ov}{n:Int}(h:Hf u v q n)(I:0<=q)(F:Row w v 1 n c):Row w u 1 (n-q) (fun k=>c (k+q)):=
 ⟨h.1,fun k D=>by
   have:=h.1.n0
   rw [h.2 k Oa (by simpa using D)]
   exact F.cell Oa (by simp at D⊢;omega)⟩
theorem Hf.fP{u v:Value}{q n:Int}(h:Hf u v q n):iK u (n-q):=h.1
end
end Go.Proofs.Gw
namespace Go.Proofs.Gw
open Go Go.RowKit
def XB(v:Value)(q:Nat):Value:=match v with
  | .slice a len cap=> .slice (if cap=q then a else a.map fun x=>⟨x.block,x.off+q,none⟩) (len-q) (cap-q)
  |u=>u
def GN(v:Value):Value:=match v with
  | .slice a _ cap=> .slice a 0 cap
  |u=>u
def UE(v:Value):Prop:=∀a len cap,v= .slice a len cap->len<=cap
section
variable {P:Program} {L:List (Nat×Value)} {w w0:World} {o:Oper} {x y z:Operand} {T T':TypeId} {l l1 l2 l3:List iO} {E:TypeId}
theorem YR{v:Value}{n:Int}{q:Nat}(h:iK v n)(hr:UE v)(N:(q:Int)<=n):Hf (XB v q) v q n:=by
 obtain⟨O,h1,a,cap,rfl,F⟩:=h
 have hc:=hr _ _ _ rfl
 refine⟨⟨by omega,Oa,(if cap=q then a else a.map fun x=>⟨x.block,x.off+q,none⟩),cap-q,?_,?_⟩,fun k J I=> ?_⟩
 · unfold XB;dsimp only;congr 1;omega
 {
 rcases F with F|⟨b,off,rfl⟩
 · left;omega
 {
 right;by_cases D:cap=q
 · exact⟨b,off,by rw [if_pos D]⟩
 · exact⟨b,off+q,by rw [if_neg D];rfl⟩}}
 {
 rcases F with F|⟨b,off,rfl⟩
 · omega
 {
 have D:cap≠q:=Oa
 unfold XB pW;dsimp only
 rw [if_neg D]
 have:(k+q).toNat=k.toNat+q:=Oa
 simp [this];omega}}
theorem Y0{v:Value}{n i:Int}{q s:Nat}(Z:o.op= .slice T x (some y) none none)(O:Zy P T=some (E,s))(U:s=1)(J:iZ L x=some v)(I:iZ L y=some (.int Oi i))(hv:iK v n)(hi:i=q)(W:1<=q)(hq:(q:Int)<=n):
   Runs P L w o (.value (XB v q)) w:=fun ρ h=>by
 subst U;subst hi
 obtain⟨N,inf,D,hsz⟩:=Zv O
 obtain⟨h0,h1,a,cap,rfl,F⟩:=hv
 have Y:q<=n.toNat:=Oa
 have hb:(Instr.sliceBounds true n.toNat cap (some (.int Oi (q:Int))) none none).run P w= .ok (q,n.toNat,cap) w:=by
   simp [Instr.sliceBounds,Instr.sliceBound,asIntOf]
   omega
 have e:(Instr.sliceAt T (.slice a n.toNat cap) (some (.int Oi (q:Int))) none none).run P w= .ok (XB (.slice a n.toNat cap) q) w:=by
   unfold Instr.sliceAt
   simp only [Sem.run_bind,run_underlying N,Result.andThen_ok,Instr.slice,hb]
   simp [sizeOf,typeInfo,D,hsz,XB]
   rcases F with F|⟨b,off,rfl⟩
   · omega
   {
   by_cases hc:cap=q
   · simp [hc]
   · simp [hc,Addr.add_eq]}
 simp [execOp,Z,h _ _ J,h _ _ I,e]
theorem iO.holds.roomy{v:Value}{s:Nat}{n:Int}{c:Ov}(h:(iO.own v s E n c).holds w):UE v:=fun a len cap e=>by
 obtain⟨_,_,⟨rfl,_⟩|⟨g,D,cur,rfl,_,F,_⟩⟩:=h
 · cases e;omega
 · cases e;exact F
theorem SC{v:Value}{n:Int}(h:iK v n):iK (GN v) 0:=by
 obtain⟨_,_,a,cap,rfl,_⟩:=h
 exact⟨by omega,Oa,a,cap,rfl,.inl rfl⟩
theorem Ut{v:Value}{n:Int}{s:Nat}(O:o.op= .slice T x none (some y) none)(N:Zy P T=some (E,s))(I:iZ L x=some v)(F:iZ L y=some (.int Oi 0))(hv:iK v n):Runs P L w o (.value (GN v)) w:=fun ρ h=>by
 obtain⟨J,inf,D,hsz⟩:=Zv N
 obtain⟨Y,h1,a,cap,rfl,W⟩:=hv
 have U:(Instr.sliceBounds true n.toNat cap none (some (.int Oi 0)) none).run P w= .ok (0,0,cap) w:=by
   simp [Instr.sliceBounds,Instr.sliceBound,asIntOf]
 have e:(Instr.sliceAt T (.slice a n.toNat cap) none (some (.int Oi 0)) none).run P w= .ok (GN (.slice a n.toNat cap)) w:=by
   unfold Instr.sliceAt
   simp only [Sem.run_bind,run_underlying J,Result.andThen_ok,Instr.slice,U]
   simp [sizeOf,typeInfo,D,hsz,GN,Addr.add]
 simp [execOp,O,h _ _ I,h _ _ F,e]
theorem Sat.cut{v:Value}{s:Nat}{n:Int}{c:Ov}(i:Nat)(h:Sat w0 w l)(hi:l[i]? =some (.own v s E n c))(d:Ov):Sat w0 w (l.set i (.own (GN v) s E 0 d)):=by
 have I:=h
 rw [Z3 hi] at I
 rw [YE hi]
 refine I.turn (fun _ _ _=>rfl) rfl rfl rfl (Nat.le_refl _) ?_ (fun g F=> .inl ?_)
 {
 obtain⟨_,_,⟨rfl,_⟩|⟨g,D,cur,rfl,F,U,O,N,_⟩⟩:=I.get
 · exact⟨by omega,Oa,.inl ⟨rfl,rfl⟩⟩
 · exact⟨by omega,Oa,.inr ⟨g,D,cur,rfl,F,Oa,O,N,fun k J=>by rw [Int.zero_mul] at J;omega⟩⟩}
 {
 obtain⟨_,_,⟨rfl,_⟩|⟨g,D,cur,rfl,_⟩⟩:=I.get
 · exact F
 · exact F}
theorem WM(J:o.op= .call {callee:= .builtin .cap,args:= #[x],argTypes:= #[T]}){s:Nat}(I:Zy P T=some (E,s))(D:iZ L x=some Oh):Runs P L w o (.value (.int Oi 0)) w:=fun ρ h=>by
 obtain⟨F,_⟩:=Zv I
 simp [execOp,J,resolve,invoke,builtin,h _ _ D,Builtin.cap_,run_underlying F]
 rfl
theorem RB{n:Int}{D:Value}{b:Nat}(ho:o.op= .call {callee:= .builtin .append,args:= #[x,y],argTypes:= #[T,T']})(ht:Zy P T=some (E,1))(hk:P.underlying T'=some (.int .i64))(he:ZN P E=some (D,1,b))(J:D.cells= #[D])(ad:1<=b)
   (hx:iZ L x=some Oh) (hy:iZ L y=some (.int Oi n)) (h1:1<=n) (hb:b*n<=140737488355328) (hS:Sat w0 w l):
   ∃u w',Runs P L w o (.value u) w'/\Sat w0 w' (l++ [.own u 1 E n (fun _=>D)])/\iK u n:=by
 obtain⟨N,_⟩:=Zv ht
 obtain⟨i,hi,I,hsz,F⟩:=Ys he
 have ab:n<=b*n:=by
   have:=Int.mul_le_mul_of_nonneg_right (show(1:Int)<=b by omega) (show 0<=n by omega)
   omega
 have hw:IntKind.i64.wrap n=n:=by rw [IntKind.wrap_i64];omega
 have aa:¬(281474976710656<n*(i.bytes:Int)):=by rw [F,Int.mul_comm];omega
 have U:¬n<0:=Oa
 have ac:((n.toNat*i.bytes:Nat):Int)=b*n:=by rw [Int.natCast_mul,F,Int.toNat_of_nonneg Oa,Int.mul_comm]
 have zb:¬(281474976710656<Builtin.nextslicecap n.toNat 0*i.bytes):=by rw [nextslicecap_zero Oa];omega
 have Z:¬(9223372036854775807<(n.toNat:Int)):=Oa
 have O:¬n.toNat=0:=Oa
 have bi:¬n.toNat*i.size=0:=by rw [hsz];omega
 have hr:∀ty,(Builtin.append_ #[T,T'] ty #[Oh,.int Oi n]).run P w= .ok (.slice (some ⟨w.heap.size,0,none⟩) n.toNat (grownCap w n.toNat 0 E)) (w.drew.alloc (.cells (Builtin.zeroCells D.cells n.toNat++Builtin.zeroCells D.cells (grownCap w n.toNat 0 E-n.toNat)) E)):=fun ty=>by
   simp [Builtin.append_,run_underlying N,run_underlying hk,sizeOf,typeInfo,zeroValue,hi,I,asInt,asIntOf,hw,U,aa,O,zb,Z,Question.forced,newRow,grownCap,Builtin.firstCells,bi]
   rw [if_neg Oa,if_neg Oa]
 have Y:=grownCap_ge w n.toNat 0 E
 have W:=grownCap_le_maxLen w n.toNat 0 E (by unfold maxLen;omega)
 have hE:(iO.own (.slice (some ⟨w.heap.size,0,none⟩) n.toNat (grownCap w n.toNat 0 E)) 1 E n (fun _=>D)).holds (w.drew.alloc (.cells (Builtin.zeroCells D.cells n.toNat++Builtin.zeroCells D.cells (grownCap w n.toNat 0 E-n.toNat)) E)):=by
   refine⟨by omega,Oa,.inr ⟨_,_,_,rfl,by have:=heap_alloc_new w.drew (.cells (Builtin.zeroCells D.cells n.toNat++Builtin.zeroCells D.cells (grownCap w n.toNat 0 E-n.toNat)) E);simpa using this,Y,W,?_,fun k hk=> ?_⟩⟩
   · simp [Builtin.zeroCells,J];omega
   {
   have:k<n.toNat:=Oa
   rw [Array.getElem?_append_left (by simp [Builtin.zeroCells,J];omega)]
   simp [Builtin.zeroCells,J,this,Nat.mod_one]}
 refine⟨_,_,fun ρ h=> ?_,hS.draw.alloc _ hE (fun g hg=>by simp [iO.has,Value.ownBlock] at hg;simp [hg]),hE.row.fP⟩
 simp [execOp,ho,resolve,invoke,builtin,h _ _ hx,h _ _ hy,hr]
theorem Uv{v u:Value}{n:Int}{c d:Ov}(i:Nat)(ho:o.op= .call {callee:= .builtin .copy,args:= #[x,y],argTypes:= #[T,T']})(O:Zy P T=some (E,1))(hx:iZ L x=some v)(hy:iZ L y=some u)(hS:Sat w0 w l)(hi:l[i]? =some (.own v 1 E n c))(hR:Row w u 1 n d)(h1:∀k,0<=k->k<n->(d k).oneCell'=true):
   ∃r w',Runs P L w o (.value r) w'/\r= .int Oi n/\Sat w0 w' (l.set i (.own v 1 E n d)):=by
 obtain⟨hu,inf,Y,hsz⟩:=Zv O
 have I:=hS
 rw [Z3 hi] at I
 rw [YE hi]
 have x8:(P.info? E).map (·.size)=some 1:=by rw [Y];simp [hsz]
 have Z:=I.get
 have aa:=hR.fP.n0
 obtain⟨_,_,a,cap,rfl,J⟩:=hR.fP
 have done:∀{w':World} (r:Value),(Builtin.copy_ #[T,T'] 0 #[v,.slice a n.toNat cap]).run P w= .ok r w'->Runs P L w o (.value r) w':=fun r hr ρ h=>by
   have U:∀ty,(Builtin.copy_ #[T,T'] ty #[v,.slice a n.toNat cap])=Builtin.copy_ #[T,T'] 0 #[v,.slice a n.toNat cap]:=fun _=>rfl
   simp [execOp,ho,resolve,invoke,builtin,h _ _ hx,h _ _ hy,U,hr]
 by_cases h0:n=0
 {
 subst h0
 have key:∃p q s,v= .slice p q s/\q=0:=by
   obtain⟨_,_,⟨rfl,_⟩|⟨g,D,cur,rfl,_⟩⟩:=Z
   · exact⟨_,_,_,rfl,rfl⟩
   · exact⟨_,_,_,rfl,rfl⟩
 obtain⟨p,q,s,rfl,rfl⟩:=key
 have hr:=run_copy_none (P:=P) w T T' 0 E p a 0 s 0 cap hu x8 rfl
 have h2:=I.turn (d:= .own (.slice p 0 s) 1 E 0 c) (e:= .own (.slice p 0 s) 1 E 0 d) (fun _ _ _=>rfl) rfl rfl rfl (Nat.le_refl _) (Z.congr fun k k0 k1=>by rw [Int.zero_mul] at k1;omega) (fun _ h=> .inl h)
 exact⟨_,_,done _ hr,rfl,h2⟩}
 {
 rcases J with J|⟨b,off,rfl⟩
 · exact absurd J h0
 {
 obtain⟨_,_,⟨rfl,J⟩|⟨g,D,cur,rfl,hh,h2,h3,h4,h5⟩⟩:=Z
 · exact absurd J h0
 {
 have N:=YG d n.toNat
 have hr:=run_copy_row (P:=P) w T T' 0 E g 0 n.toNat D ⟨b,off,none⟩ n.toNat cap cur E (cellsOf d n.toNat) hu x8 hh (by rw [N];exact(Nat.min_self _).symm) (fun j t F=>by
   rw [l7] at F
   split at F
   · rename_i hlt
     cases F
     have:=hR.2 j Oa
     rw [Addr.add_eq _ rfl]
     simpa [pW] using this
   · cases F) (by rw [N,h4];omega) (fun t O=>by
   obtain⟨j,F⟩:=List.getElem?_of_mem O
   rw [l7] at F
   split at F
   · cases F;exact h1 _ Oa Oa
   · cases F)
 rw [N] at hr
 refine⟨_,_,done _ hr,by simp [goInt];omega,?_⟩
 refine I.turn (fun k _ hk=> ?_) rfl rfl rfl (by simp [World.setRow]) ⟨by omega,Oa,.inr ⟨g,D,_,rfl,setRow_heap w g cur _ E _ hh,h2,h3,?_,fun k hk=> ?_⟩⟩ (fun _ h=> .inl h)
 · have:k≠g:=fun e=>hk (by rw [e];rfl)
   simp [World.setRow,Array.getElem?_modify,Ne.symm this]
 · simp [N,h4];omega
 · have W:k<n.toNat:=Oa
   simp [List.getElem?_append,W,cellsOf]}}}
end
theorem iK.cells{v:Value}{n:Int}(h:iK v n):v.cells= [v].toArray:=by
 obtain⟨_,_,a,cap,rfl,_⟩:=h;rfl
theorem Xs(n:Int)(f g:Of):cat (n*1) (ints f) (ints g)=ints (cat n f g):=by rw [Int.mul_one,Zir]
theorem Kv{l1 l2 m:List iO}{a:iO}(h:(l1++l2).Perm m):(l1++a::l2).Perm (a::m):=List.perm_middle.trans (.cons _ h)
theorem Tz(w:World)(s:Nat)(c:Ov):Row w Oh s 0 c:=⟨d_,fun k h=>by rw [Int.zero_mul] at h;omega⟩
theorem ZaG{fn:Func}{t u s r:Tmp}(h:fn.results= #[.tmp t,.tmp u,.tmp s,.tmp r])(tmps:Array Value)(P:Program)(w:World):
   (results fn tmps).run P w= .ok (.tuple #[tmps.getD t undef,tmps.getD u undef,tmps.getD s undef,tmps.getD r undef]) w:=by
 simp [results,h]
theorem Zq4{P:Program}{L:List (Nat×Value)}{w:World}{fn:Func}{R:Ending->World->Prop}{a:Act}{n t u s r:Nat}{v x y z:Value}(D:Fr a n [] L)(hr:fn.results= #[.tmp t,.tmp u,.tmp s,.tmp r])(hv:lk L t=some v)(J:lk L u=some x)(I:lk L s=some y)(F:lk L r=some z)(h:R (.returned (.tuple #[v,x,y,z])) w):bodyPost P fn R .ret a w:=
 ⟨D.defers,_,by rw [ZaG hr,D.get t v hv,D.get u x J,D.get s y I,D.get r z F],h⟩
theorem Sat.oP{w w0:World}{l:List iO}{E:TypeId}{n:Int}{vv xk:Ov}{ln vT:Of}{f f':Og}(i:Nat)(h:Sat w0 w l)(hi:l[i]? =some (.sem (Frame.rows E n vv ln f)))(e:∀k,0<=k->k<n->vv k=xk k/\ln k=vT k/\∀j,0<=j->j<ln k->f k j=f' k j):Sat w0 w (l.set i (.sem (Frame.rows E n xk vT f'))):=by
 have J:=h
 rw [Z3 hi] at J
 rw [YE hi]
 refine J.turn (fun _ _ _=>rfl) rfl rfl rfl (Nat.le_refl _) ?_ (fun g hg=> .inl ?_)
 {
 have hr:=J.get
 refine⟨fun k F D=> ?_,fun p q W U O N I g=> ?_⟩
 {
 obtain⟨e1,e2,e3⟩:=e k F D
 rw [<-e1,<-e2]
 exact(hr.1 k F D).congr fun j Z Y=>by unfold ints;rw [e3 j Z (by simpa using Y)]}
 · rw [<-(e p W U).1,<-(e q O N).1];exact hr.2 p q W U O N I g}
 {
 obtain⟨k,F,D,hk⟩:=hg
 exact⟨k,F,D,by rw [(e k F D).1];exact hk⟩}
end Go.Proofs.Gw
namespace Go.Proofs.Gw
open Go Go.RowKit
section
variable {P:Program} {l rest:List Oper} {Q Q':Exit->Act->World->Prop} {w w' w0:World} {o:Oper} {n d:Nat} {ds:List Deferred} {L M:List (Nat×Value)} {x y:Code} {c:Operand} {e:Exit} {p:Prop}
def Gl(P:Program)(n:Nat)(ds:List Deferred)(l:List Oper)(Q:Exit->Act->World->Prop)(rest:List Oper)(L:List (Nat×Value))(w:World):Prop:=∀a,Fr a n ds L->wpList P l.toArray Q rest a w
def Gc(P:Program)(n:Nat)(ds:List Deferred)(Q:Exit->Act->World->Prop)(x:Code)(L:List (Nat×Value))(w:World):Prop:=∀a,Fr a n ds L->x.wp P Q a w
def Ge(n:Nat)(ds:List Deferred)(Q:Exit->Act->World->Prop)(e:Exit)(L:List (Nat×Value))(w:World):Prop:=∀a,Fr a n ds L->Q e a w
def pG(l:List Oper)(L:List (Nat×Value))(o:Oper):Option Bool:=
  match o.guard with
  |none=>some true
  | some (j,p)=>
    match l[j]? with
    |none=>none
    | some oj=>
      match oj.dst with
      |none=>none
      | some dj=>
        match lk L dj with
        |some (.bool t)=>some (t==p)
        |some (.tuple t)=>if t.size=0 then some false else none
        |_=>none
theorem Z7{b:Bool}(h:pG l L o=some b):Want l L o b:=by
 unfold pG at h
 split at h
 · rename_i D;cases h;exact .free D
 {
 rename_i j p D
 split at h
 · cases h
 {
 rename_i N I
 split at h
 · cases h
 {
 rename_i O hd
 split at h
 · rename_i t F;exact .on D I hd F (by injection h)
 {
 rename_i t F
 split at h
 · rename_i J
   injection h with h;subst h
   have:t= #[]:=Array.eq_empty_of_size_eq_zero J
   subst this
   exact .off D I hd F
 · cases h}
 · cases h}}}
theorem iI{v:Value}(hr:Runs P L w o (.value v) w')(K:Gl P n ds l Q rest ((d,v)::L) w')(D:pG l L o=some true:=by exact rfl)(hd:o.dst=some d:=by exact rfl)(h:Nat.blt d n=true:=by exact rfl):Gl P n ds l Q (o::rest) L w:=
 fun _ F=>Qa F (Z7 D) hd h hr K
theorem RU{v:Value}(D:pG l L o=some true)(hd:o.dst=some d)(h:Nat.blt d n=true)(hr:Runs P L w o (.value v) w')(K:Gl P n ds l Q rest ((d,v)::L) w'):Gl P n ds l Q (o::rest) L w:=iI hr K D hd h
theorem oq(K:Gl P n ds l Q rest ((d,undef)::L) w)(D:pG l L o=some false:=by exact rfl)(hd:o.dst=some d:=by exact rfl)(h:Nat.blt d n=true:=by exact rfl):Gl P n ds l Q (o::rest) L w:=
 fun _ F=>Zmh F (Z7 D) hd h K
theorem iG{R:Value->World->Prop}(hr:∃v w',Runs P L w o (.value v) w'/\R v w')(K:∀v w',R v w'->Gl P n ds l Q rest ((d,v)::L) w')(D:pG l L o=some true:=by exact rfl)(hd:o.dst=some d:=by exact rfl)(h:Nat.blt d n=true:=by exact rfl):Gl P n ds l Q (o::rest) L w:=
 fun _ F=>Zmj F (Z7 D) hd h hr K
theorem DZ{R:Value->World->Prop}(D:pG l L o=some true)(hd:o.dst=some d)(h:Nat.blt d n=true)(hr:∃v w',Runs P L w o (.value v) w'/\R v w')(K:∀v w',R v w'->Gl P n ds l Q rest ((d,v)::L) w'):Gl P n ds l Q (o::rest) L w:=iG hr K D hd h
theorem lJ{R:World->Prop}(hr:∃w',Runs P L w o .skip w'/\R w')(K:∀w',R w'->Gl P n ds l Q rest L w')(F:pG l L o=some true:=by exact rfl)(hd:o.dst=none:=by exact rfl):Gl P n ds l Q (o::rest) L w:=
 fun a D=>Zj3 D (Z7 F) hd hr fun w' h=>K w' h a D
theorem iJ{f:FuncId}{args:Array Value}{R:Value->World->Prop}(hr:Runs P L w o (.enter f args) w)(hc:Calls P f args w fun e w'=>∃v,e= .returned v/\R v w')(K:∀v w',R v w'->Gl P n ds l Q rest ((d,v)::L) w')
   (D:pG l L o=some true:=by exact rfl) (hd:o.dst=some d:=by exact rfl) (h:Nat.blt d n=true:=by exact rfl):Gl P n ds l Q (o::rest) L w:=
 fun _ F=>Zj4 F (Z7 D) hd h hr hc K
theorem iq(K:Ge n ds Q .normal L w):Gl P n ds l Q [] L w:=K
theorem lX(d:Nat)(F:p->Gl P n ds l Q rest ((d,.bool true)::L) w)(hf:¬p->Gl P n ds l Q rest ((d,.bool false)::L) w)(hd:lk L d=some (B p):=by exact rfl):Gl P n ds l Q rest L w:=
 fun _ I=>V_ I hd (fun D h=>F D _ h) (fun D h=>hf D _ h)
theorem GR(d:Nat){u v:Value}(e:v=u)(K:Gl P n ds l Q rest ((d,u)::L) w)(hd:lk L d=some v:=by exact rfl):Gl P n ds l Q rest L w:=fun a h=>K a (h.as hd e)
def Sub(L M:List (Nat×Value)):Prop:=∀t v,lk M t=some v->lk L t=some v
theorem D5:Sub L []:=fun t v h=>by simp [lk] at h
theorem AV{t:Nat}{v:Value}(h:lk L t=some v)(hM:Sub L M):Sub L ((t,v)::M):=fun s u D=>by
 simp only [lk] at D
 by_cases e:t=s
 {
 subst e
 rw [Nat.beq_refl] at D
 simp only [cond_true,Option.some.injEq] at D
 subst D;exact h}
 {
 rw [Fv e] at D
 exact hM s u D}
theorem Fr.sub{a:Act}(h:Fr a n ds L)(hM:Sub L M):Fr a n ds M:=⟨h.size,h.defers,fun t v D=>h.get t v (hM t v D)⟩
theorem lW(h:Gc P n ds (Exit.then (y.wp P Q) Q) x L w):Gc P n ds Q (.seq x y) L w:=fun a D=>wp_seq (h a D)
theorem lG{id:Nat}(h:Gl P n ds l Q l L w):Gc P n ds Q (.region id l.toArray false) L w:=fun a D=>wp_region_lit (h a D)
theorem Zf(F:p->Gc P n ds Q x L w)(hf:¬p->Gc P n ds Q y L w)(hc:iZ L c=some (B p):=by exact rfl):Gc P n ds Q (.cond c x y) L w:=fun a D=>ZpW D hc (fun h=>F h a D) fun h=>hf h a D
theorem rW(h:Gc P n ds Q x L w)(hc:iZ L c=some (.bool true):=by exact rfl):Gc P n ds Q (.cond c x y) L w:=fun a D=>Zq9 D hc (h a D)
theorem uD(h:Gc P n ds Q y L w)(hc:iZ L c=some (.bool false):=by exact rfl):Gc P n ds Q (.cond c x y) L w:=fun a D=>Zra D hc (h a D)
theorem nX(h:Ge n ds Q .normal L w):Gc P n ds Q .skip L w:=fun a D=>wp_skip (h a D)
theorem sZ(h:Ge n ds Q .ret L w):Gc P n ds Q .ret L w:=fun a D=>wp_ret (h a D)
theorem sW{id:Nat}(h:Ge n ds Q (.exit id) L w):Gc P n ds Q (.exit id) L w:=fun a D=>wp_exit (h a D)
theorem o7{id:Nat}(h:Gc P n ds (Exit.inBlock id Q) x L w):Gc P n ds Q (.block id x) L w:=fun a D=>wp_block (h a D)
theorem iP(h:Gc P n ds Q y L w):Ge n ds (Exit.then (y.wp P Q) Q') .normal L w:=h
theorem n_{id:Nat}{K:Act->World->Prop}(h:Ge n ds Q (.exit id) L w):Ge n ds (Exit.then K Q) (.exit id) L w:=h
theorem m_{K:Act->World->Prop}(h:Ge n ds Q .ret L w):Ge n ds (Exit.then K Q) .ret L w:=h
theorem ng{id:Nat}(h:Ge n ds Q .normal L w):Ge n ds (Exit.inBlock id Q) .normal L w:=h
theorem og{id:Nat}(h:Ge n ds Q .ret L w):Ge n ds (Exit.inBlock id Q) .ret L w:=h
theorem rH{id:Nat}(h:Ge n ds Q .normal L w):Ge n ds (Exit.inBlock id Q) (.exit id) L w:=fun a D=>Zkd (h a D)
theorem ny(J:Nat->List (Nat×Value)->World->Prop){m:Nat}(I:J m M w)(round:∀m M w,J m M w->Gc P n ds (Exit.then (fun a w=>∃D,D<m/\∃h,J D h w/\Fr a n ds h) Q) x M w)
   (hM:Sub L M:=by repeat' first|exact D5|refine AV rfl ?_):Gc P n ds Q (.loop x) L w:=fun a F=>
 ZkF (fun m a w=>∃M,J m M w/\Fr a n ds M) ⟨M,I,F.sub hM⟩ fun m a w ⟨h,hJ,hF'⟩=>round m h w hJ a hF'
theorem jm{J:Nat->List (Nat×Value)->World->Prop}{m h:Nat}(F:J h M w)(hlt:h<m:=by omega)(hM:Sub L M:=by repeat' first|exact D5|refine AV rfl ?_):Ge n ds (Exit.then (fun a w=>∃h,h<m/\∃D,J h D w/\Fr a n ds D) Q) .normal L w:=
 fun a I=>⟨h,hlt,M,F,I.sub hM⟩
theorem WT(J:List (Nat×Value)->World->Prop)(h:Gc P n ds (Exit.then (fun a w=>∃M,J M w/\Fr a n ds M) (fun e a w=>e≠ .normal/\Q e a w)) x L w)(k:∀M w,J M w->Ge n ds Q .normal M w):Gc P n ds Q x L w:=
 fun a D=>Znb (fun a w=>∃M,J M w/\Fr a n ds M) (h a D) fun a w ⟨M,hJ,hF'⟩=>k M w hJ a hF'
theorem tK{J:List (Nat×Value)->World->Prop}(h:J M w)(hM:Sub L M:=by repeat' first|exact D5|refine AV rfl ?_):Ge n ds (Exit.then (fun a w=>∃M,J M w/\Fr a n ds M) Q) .normal L w:=fun a D=>⟨M,h,D.sub hM⟩
theorem iE{f:FuncId}{fn:Func}{vs:List Value}{R:Ending->World->Prop}(hf:P.funcs[f]? =some fn)(hn:fn.ntmps=n)(K:∀w,Sat w0 w []->Gc P n [] (bodyPost P fn R) x (num 0 vs) w)(h:fn.body=some x:=by exact rfl)(hv:Nat.ble vs.length n=true:=by exact rfl):Calls P f vs.toArray w0 R:=
 Zm0 hf h hn hv fun a w D F=>K w D a F
theorem uM{f:FuncId}{fn:Func}{vs:List Value}{R:Ending->World->Prop}(hf:P.funcs[f]? =some fn)(hn:fn.ntmps=n)(K:Gc P n [] (bodyPost P fn R) x (num 0 vs) w)(h:fn.body=some x:=by exact rfl)(hv:Nat.ble vs.length n=true:=by exact rfl):Calls P f vs.toArray w R:=
 enter hf h hn hv fun a D=>K a D
variable {fn:Func} {R:Ending->World->Prop}
theorem XK(h:R (.returned (.tuple #[])) w)(hr:fn.results= #[]:=by exact rfl):Ge n [] (bodyPost P fn R) .normal L w:=fun _ D=>NT D hr h
theorem Ae(h:R (.returned (.tuple #[])) w)(hr:fn.results= #[]:=by exact rfl):Ge n [] (bodyPost P fn R) .ret L w:=fun _ D=>NT D hr h
theorem zf1{t:Nat}{v:Value}(h:R (.returned v) w)(hr:fn.results= #[.tmp t]:=by exact rfl)(hv:lk L t=some v:=by exact rfl):Ge n [] (bodyPost P fn R) .ret L w:=fun _ D=>Zq7 D hr hv h
theorem Oj{t:Nat}{v:Value}{Q:Value->World->Prop}(h:Q v w)(hr:fn.results= #[.tmp t]:=by exact rfl)(hv:lk L t=some v:=by exact rfl):Ge n [] (bodyPost P fn fun e w=>∃v,e= .returned v∧Q v w) .ret L w:=zf1 ⟨_,rfl,h⟩ hr hv
theorem rD{t u:Nat}{v z:Value}(h:R (.returned (.tuple #[v,z])) w)(hr:fn.results= #[.tmp t,.tmp u]:=by exact rfl)(hv:lk L t=some v:=by exact rfl)(D:lk L u=some z:=by exact rfl):Ge n [] (bodyPost P fn R) .ret L w:=fun _ F=>Zq6 F hr hv D h
theorem Eo{t u s:Nat}{v z y:Value}(h:R (.returned (.tuple #[v,z,y])) w)(hr:fn.results= #[.tmp t,.tmp u,.tmp s]:=by exact rfl)(hv:lk L t=some v:=by exact rfl)(D:lk L u=some z:=by exact rfl)(F:lk L s=some y:=by exact rfl):Ge n [] (bodyPost P fn R) .ret L w:=fun _ I=>Zq5 I hr hv D F h
theorem F6{t u s r:Nat}{v z y q:Value}(h:R (.returned (.tuple #[v,z,y,q])) w)(hr:fn.results= #[.tmp t,.tmp u,.tmp s,.tmp r]:=by exact rfl)(hv:lk L t=some v:=by exact rfl)(D:lk L u=some z:=by exact rfl)(F:lk L s=some y:=by exact rfl)(I:lk L r=some q:=by exact rfl):Ge n [] (bodyPost P fn R) .ret L w:=fun _ J=>Zq4 J hr hv D F I h
variable {E:List iO}
theorem Ye(i:Nat){s t g k:Nat}{T:TypeId}{v:Value}{cs:List Value}(D:ZC P T=some k)(J:Sat w0 w E)(h:R (.returned (.tuple #[.agg cs.toArray,v])) w)(hr:fn.results= #[.cell s T,.tmp t]:=by exact rfl)(F:lk L s=some (Or g):=by exact rfl)(hv:lk L t=some v:=by exact rfl)
 (hi:E[i]? =some (.blk g cs):=by exact rfl) (I:cs.length=k:=by exact rfl):Ge n [] (bodyPost P fn R) .ret L w:=fun _ N=>Zmy i N hr F hv D J hi I h
theorem Jl(i:Nat){s g k:Nat}{T:TypeId}{cs:List Value}(D:ZC P T=some k)(J:Sat w0 w E)(h:R (.returned (.agg cs.toArray)) w)(hr:fn.results= #[.cell s T]:=by exact rfl)(F:lk L s=some (Or g):=by exact rfl)
 (hi:E[i]? =some (.blk g cs):=by exact rfl) (I:cs.length=k:=by exact rfl):Ge n [] (bodyPost P fn R) .ret L w:=fun _ N=>ZpQ i N hr F D J hi I h
end
section
variable {P:Program} {l:List Oper} {Q:Exit->Act->World->Prop} {S A:World->Prop} {brk:Nat} {w:World} {n d:Nat} {ds:List Deferred} {L:List (Nat×Value)} {listed:Array Bool} {fuel:Nat} {p:Prop}
def ZZ(l:List Oper)(i:Nat):Oper:=match l[i]? with
  |some o=>o
  |none=>{op:= .move (.const undef),pos:= "",dst:=none,type:=0,guard:=none,after:= #[]}
theorem Xu{i:Nat}(h:Nat.blt i l.length=true):l[i]? =some (ZZ l i):=by
 unfold ZZ
 have:i<l.length:=by simpa [Nat.blt_eq] using h
 simp [this]
def Gd(P:Program)(n:Nat)(ds:List Deferred)(l:List Oper)(Q:Exit->Act->World->Prop)(S A:World->Prop)(brk fuel:Nat)(listed:Array Bool)(L:List (Nat×Value))(w:World):Prop:=
  Closed l.toArray listed->SA S A brk listed w->∀a,Fr a n ds L->uV P l.toArray (NoPanic Q) S A brk fuel listed a w
theorem BJ(i:Nat){v:Value}(hr:∀w,Runs P L w (ZZ l i) (.value v) w)(K:Gd P n ds l Q S A brk fuel (listed.setIfInBounds i true) ((d,v)::L) w)(hi:Nat.blt i l.length=true:=by exact rfl)(I:pG l L (ZZ l i)=some true:=by exact rfl)(hd:(ZZ l i).dst=some d:=by exact rfl)(D:Nat.blt d n=true:=by exact rfl)
 (F:WJ l listed i=true:=by kernel_rfl) (h:Nat.beq i brk=false:=by exact rfl):Gd P n ds l Q S A brk (fuel+1) listed L w:=fun hc J a N=>Zm6 N hc J i (Xu hi) (Z7 I) hd D F h hr fun W h1 U O=>K U O W h1
theorem ou(i:Nat){v:Value}(hr:∀{w},Runs P L w (ZZ l i) (.value v) w)(K:Gd P n ds l Q S A brk fuel (listed.setIfInBounds i true) ((d,v)::L) w)(hi:Nat.blt i l.length=true:=by exact rfl)(I:pG l L (ZZ l i)=some true:=by exact rfl)(hd:(ZZ l i).dst=some d:=by exact rfl)(D:Nat.blt d n=true:=by exact rfl)
 (F:WJ l listed i=true:=by kernel_rfl) (h:Nat.beq i brk=false:=by exact rfl):Gd P n ds l Q S A brk (fuel+1) listed L w:=BJ i (fun _=>hr) K hi I hd D F h
theorem b_(i:Nat){v:Value}(hr:∀{w},Runs P L w (ZZ l i) (.value v) w)(hi:Nat.blt i l.length=true:=by exact rfl)(I:pG l L (ZZ l i)=some true:=by exact rfl)(hd:(ZZ l i).dst=some d:=by exact rfl)(D:Nat.blt d n=true:=by exact rfl)(F:WJ l listed i=true:=by kernel_rfl)(h:Nat.beq i brk=false:=by exact rfl):Gd P n ds l Q S A brk fuel (listed.setIfInBounds i true) ((d,v)::L) w->Gd P n ds l Q S A brk (fuel+1) listed L w:=fun K=>BJ i (fun _=>hr) K hi I hd D F h
theorem EU(i:Nat)(K:Gd P n ds l Q S A brk fuel (listed.setIfInBounds i true) ((d,undef)::L) w)(hi:Nat.blt i l.length=true:=by exact rfl)(I:pG l L (ZZ l i)=some false:=by exact rfl)(hd:(ZZ l i).dst=some d:=by exact rfl)(D:Nat.blt d n=true:=by exact rfl)
 (F:WJ l listed i=true:=by kernel_rfl) (h:Nat.beq i brk=false:=by exact rfl):Gd P n ds l Q S A brk (fuel+1) listed L w:=fun hc J a N=>Zm7 N hc J i (Xu hi) (Z7 I) hd D F h fun W h1 U O=>K U O W h1
theorem sQ(i:Nat){v:Value}(hr:∀w,S w->Runs P L w (ZZ l i) (.value v) w)(K:Gd P n ds l Q S A brk fuel (listed.setIfInBounds i true) ((d,v)::L) w)(hi:Nat.blt i l.length=true:=by exact rfl)(J:pG l L (ZZ l i)=some true:=by exact rfl)(hd:(ZZ l i).dst=some d:=by exact rfl)(D:Nat.blt d n=true:=by exact rfl)
 (I:WJ l listed i=true:=by kernel_rfl) (h:Nat.beq i brk=false:=by exact rfl) (F:(Nat.ble l.length brk||Jb l.toArray brk i)=true:=by kernel_rfl):Gd P n ds l Q S A brk (fuel+1) listed L w:=fun hc N a O=>Zkw O hc N i (Xu hi) (Z7 J) hd D I h F hr fun Y h1 W U=>K W U Y h1
theorem oH(i:Nat){v:Value}(hr:∀w,A w->Runs P L w (ZZ l i) (.value v) w)(K:Gd P n ds l Q S A brk fuel (listed.setIfInBounds i true) ((d,v)::L) w)(hi:Nat.blt i l.length=true:=by exact rfl)(I:pG l L (ZZ l i)=some true:=by exact rfl)(hd:(ZZ l i).dst=some d:=by exact rfl)(D:Nat.blt d n=true:=by exact rfl)
 (F:WJ l listed i=true:=by kernel_rfl) (h:Nat.beq i brk=false:=by exact rfl):Gd P n ds l Q S A brk (fuel+1) listed L w:=fun hc J a N=>ZhZ N hc J i (Xu hi) (Z7 I) hd D F h hr fun W h1 U O=>K U O W h1
theorem oZ(i:Nat){R:Value->World->Prop}(hr:∃v w',Runs P L w (ZZ l i) (.value v) w'/\R v w')(K:∀v w',R v w'->SA S A brk (listed.setIfInBounds i true) w'/\Gd P n ds l Q S A brk fuel (listed.setIfInBounds i true) ((d,v)::L) w')(hi:Nat.blt i l.length=true:=by exact rfl)(I:pG l L (ZZ l i)=some true:=by exact rfl)(hd:(ZZ l i).dst=some d:=by exact rfl)(F:Nat.blt d n=true:=by exact rfl)
 (D:Region.ready .any l.toArray listed= [i]:=by kernel_rfl):Gd P n ds l Q S A brk (fuel+1) listed L w:=fun hc W a J=>Zm8 J hc i (Xu hi) (Z7 I) hd F D hr fun v w' h U h1 O=>⟨(K v w' h).1,fun N=>(K v w' h).2 O N U h1⟩
theorem nR(i:Nat){R:World->Prop}(hr:∃w',Runs P L w (ZZ l i) .skip w'/\R w')(K:∀w',R w'->SA S A brk (listed.setIfInBounds i true) w'/\Gd P n ds l Q S A brk fuel (listed.setIfInBounds i true) L w')(hi:Nat.blt i l.length=true:=by exact rfl)(I:pG l L (ZZ l i)=some true:=by exact rfl)(hd:(ZZ l i).dst=none:=by exact rfl)
 (D:Region.ready .any l.toArray listed= [i]:=by kernel_rfl):Gd P n ds l Q S A brk (fuel+1) listed L w:=fun hc O a F=>Zky F hc i (Xu hi) (Z7 I) hd D hr fun w' h N=>⟨(K w' h).1,fun J=>(K w' h).2 N J a F⟩
theorem pK(i:Nat){f:FuncId}{args:Array Value}{R:Value->World->Prop}(hr:Runs P L w (ZZ l i) (.enter f args) w)(I:Calls P f args w fun e w'=>∃v,e= .returned v/\R v w')(K:∀v w',R v w'->SA S A brk (listed.setIfInBounds i true) w'/\Gd P n ds l Q S A brk fuel (listed.setIfInBounds i true) ((d,v)::L) w')
   (hi:Nat.blt i l.length=true:=by exact rfl) (J:pG l L (ZZ l i)=some true:=by exact rfl) (hd:(ZZ l i).dst=some d:=by exact rfl) (F:Nat.blt d n=true:=by exact rfl) (D:Region.ready .any l.toArray listed= [i]:=by kernel_rfl):Gd P n ds l Q S A brk (fuel+1) listed L w:=
 fun hc Y a N=>ZkA N hc i (Xu hi) (Z7 J) hd F D hr I fun v w' h W h1 U=>⟨(K v w' h).1,fun O=>(K v w' h).2 U O W h1⟩
theorem ZqW(i:Nat){R:Value->World->Prop}(hi:Nat.blt i l.length=true)(F:pG l L (ZZ l i)=some true)(hd:(ZZ l i).dst=some d)(D:Nat.blt d n=true)(h:Region.ready .any l.toArray listed= [i])(hr:∃v w',Runs P L w (ZZ l i) (.value v) w'/\R v w')(K:∀v w',R v w'->SA S A brk (listed.setIfInBounds i true) w'/\Gd P n ds l Q S A brk fuel (listed.setIfInBounds i true) ((d,v)::L) w'):Gd P n ds l Q S A brk (fuel+1) listed L w:=oZ i hr K hi F hd D h
theorem NR(i:Nat){v:Value}(hi:Nat.blt i l.length=true)(I:pG l L (ZZ l i)=some true)(hd:(ZZ l i).dst=some d)(D:Nat.blt d n=true)(F:WJ l listed i=true)(h:Nat.beq i brk=false)(hr:∀w,Runs P L w (ZZ l i) (.value v) w)(K:Gd P n ds l Q S A brk fuel (listed.setIfInBounds i true) ((d,v)::L) w):Gd P n ds l Q S A brk (fuel+1) listed L w:=BJ i hr K hi I hd D F h
def Gs(P:Program)(n:Nat)(ds:List Deferred)(l:List Oper)(Q:Exit->Act->World->Prop)(S A:World->Prop)(brk fuel:Nat)(listed:Array Bool)(L:List (Nat×Value))(w:World)(r:List Nat):Prop:=∀a,Fr a n ds L->GY P l Q S A brk fuel listed a w r
theorem Xv:Gs P n ds l Q S A brk fuel listed L w []:=fun _ _=>Zmw
def G1(P:Program)(n:Nat)(ds:List Deferred)(l:List Oper)(Q:Exit->Act->World->Prop)(S A:World->Prop)(brk fuel:Nat)(listed:Array Bool)(L:List (Nat×Value))(w:World)(i:Nat):Prop:=∀a,Fr a n ds L->FT P l Q S A brk fuel listed a w i
theorem ZY{i:Nat}{r:List Nat}(h:G1 P n ds l Q S A brk fuel listed L w i)(hr:Gs P n ds l Q S A brk fuel listed L w r):Gs P n ds l Q S A brk fuel listed L w (i::r):=fun a D=>Zko (h a D) (hr a D)
theorem Xw{r:List Nat}(h:Gs P n ds l Q S A brk fuel listed L w r)(hn:r≠ []:=by decide)(hr:Region.ready .any l.toArray listed=r:=by kernel_rfl):Gd P n ds l Q S A brk (fuel+1) listed L w:=fun hc _ a D=>Zkx hc hn hr (h a D)
theorem tC{i:Nat}{R:Value->World->Prop}(hr:∃v w',Runs P L w (ZZ l i) (.value v) w'/\R v w')(K:∀v w',R v w'->SA S A brk (listed.setIfInBounds i true) w'/\Gd P n ds l Q S A brk fuel (listed.setIfInBounds i true) ((d,v)::L) w')(hi:Nat.blt i l.length=true:=by exact rfl)(F:pG l L (ZZ l i)=some true:=by exact rfl)(hd:(ZZ l i).dst=some d:=by exact rfl)(D:Nat.blt d n=true:=by exact rfl):
 G1 P n ds l Q S A brk fuel listed L w i:=fun a I=>Zmx I i (Xu hi) (Z7 F) hd D hr fun v w' h O h1 N=>⟨(K v w' h).1,fun J=>(K v w' h).2 N J O h1⟩
theorem F5{i:Nat}{R:World->Prop}(hr:∃w',Runs P L w (ZZ l i) .skip w'/\R w')(K:∀w',R w'->SA S A brk (listed.setIfInBounds i true) w'/\Gd P n ds l Q S A brk fuel (listed.setIfInBounds i true) L w')(hi:Nat.blt i l.length=true:=by exact rfl)(F:pG l L (ZZ l i)=some true:=by exact rfl)(hd:(ZZ l i).dst=none:=by exact rfl):
 G1 P n ds l Q S A brk fuel listed L w i:=fun a D=>Zkn D i (Xu hi) (Z7 F) hd hr fun w' h J=>⟨(K w' h).1,fun I=>(K w' h).2 J I a D⟩
theorem Fb{i:Nat}{f:FuncId}{args:Array Value}{R:Value->World->Prop}(hr:Runs P L w (ZZ l i) (.enter f args) w)(F:Calls P f args w fun e w'=>∃v,e= .returned v/\R v w')(K:∀v w',R v w'->SA S A brk (listed.setIfInBounds i true) w'/\Gd P n ds l Q S A brk fuel (listed.setIfInBounds i true) ((d,v)::L) w')
 (hi:Nat.blt i l.length=true:=by exact rfl) (I:pG l L (ZZ l i)=some true:=by exact rfl) (hd:(ZZ l i).dst=some d:=by exact rfl) (D:Nat.blt d n=true:=by exact rfl):G1 P n ds l Q S A brk fuel listed L w i:=fun a J=>Zkp J i (Xu hi) (Z7 I) hd D hr F fun v w' h U h1 O=>⟨(K v w' h).1,fun N=>(K v w' h).2 O N U h1⟩
theorem Ec{i:Nat}{v:Value}(hr:Runs P L w (ZZ l i) (.value v) w)(F:SA S A brk (listed.setIfInBounds i true) w)(K:Gd P n ds l Q S A brk fuel (listed.setIfInBounds i true) ((d,v)::L) w)(hi:Nat.blt i l.length=true:=by exact rfl)(I:pG l L (ZZ l i)=some true:=by exact rfl)(hd:(ZZ l i).dst=some d:=by exact rfl)(D:Nat.blt d n=true:=by exact rfl):
 G1 P n ds l Q S A brk fuel listed L w i:=tC (R:=fun u w'=>u=v/\w'=w) ⟨v,w,hr,rfl,rfl⟩ (fun u w' h=>by obtain⟨rfl,rfl⟩:=h;exact⟨F,K⟩) hi I hd D
theorem Hu(i:Nat){v:Value}(hr:Runs P L w (ZZ l i) (.value v) w)(I:SA S A brk (listed.setIfInBounds i true) w)(K:Gd P n ds l Q S A brk fuel (listed.setIfInBounds i true) ((d,v)::L) w)(hi:Nat.blt i l.length=true:=by exact rfl)(J:pG l L (ZZ l i)=some true:=by exact rfl)(hd:(ZZ l i).dst=some d:=by exact rfl)(F:Nat.blt d n=true:=by exact rfl)
 (D:Region.ready .any l.toArray listed= [i]:=by kernel_rfl):Gd P n ds l Q S A brk (fuel+1) listed L w:=oZ i (R:=fun u w'=>u=v/\w'=w) ⟨v,w,hr,rfl,rfl⟩ (fun u w' h=>by obtain⟨rfl,rfl⟩:=h;exact⟨I,K⟩) hi J hd F D
theorem lS(h:Ge n ds Q .normal L w)(hr:Region.ready .any l.toArray listed= []:=by kernel_rfl):Gd P n ds l Q S A brk fuel listed L w:=fun _ _ a D=>Zkz hr (h a D)
theorem AO(d:Nat)(I:p->Gd P n ds l Q S A brk fuel listed ((d,.bool true)::L) w)(hf:¬p->Gd P n ds l Q S A brk fuel listed ((d,.bool false)::L) w)(hd:lk L d=some (B p):=by exact rfl):Gd P n ds l Q S A brk fuel listed L w:=
 fun hc F _ J=>V_ J hd (fun D h=>I D hc F _ h) (fun D h=>hf D hc F _ h)
def AQ:List iO->List Nat->List iO
  |_, []=> []
  | l,i::is=>match l[i]? with
    |some e=>e::AQ l is
    |none=>AQ l is
theorem X4{E:List iO}:∀{is:List Nat} {e:iO},e∈AQ E is->∃i∈is,E[i]? =some e
 | i::is,e,h=>by
   unfold AQ at h
   split at h
   {
   rename_i x F
   rcases List.mem_cons.1 h with rfl|h
   · exact⟨i,by simp,F⟩
   · obtain⟨j,D,h⟩:=X4 h;exact⟨j,by simp [D],h⟩}
   · obtain⟨j,D,h⟩:=X4 h;exact⟨j,by simp [D],h⟩
theorem Zi8{E:List iO}(h:E.Pairwise Apart){i j:Nat}{d e:iO}(hi:E[i]? =some d)(F:E[j]? =some e)(I:i≠j):Apart d e:=by
 rw [List.pairwise_iff_getElem] at h
 obtain⟨h1,rfl⟩:=List.getElem?_eq_some_iff.1 hi
 obtain⟨D,rfl⟩:=List.getElem?_eq_some_iff.1 F
 rcases Nat.lt_or_ge i j with hlt|hlt
 · exact h i j h1 D hlt
 · exact fun g a b=>h j i D h1 Oa g b a
theorem Sat.pk{w0 w:World}{E:List iO}(h:Sat w0 w E)(is:List Nat)(hn:is.Nodup:=by decide):Sat w0 w (AQ E is):=by
 refine⟨h.below,fun e D=> ?_,fun e D=> ?_,?_⟩
 · obtain⟨i,_,hi⟩:=X4 D;exact h.holds e (List.mem_of_getElem? hi)
 · obtain⟨i,_,hi⟩:=X4 D;exact h.new e (List.mem_of_getElem? hi)
 {
 skip
 induction is with
 |nil=>exact .nil
 | cons i is ih=>
   rw [List.nodup_cons] at hn
   unfold AQ
   split
   {
   rename_i x F
   refine List.pairwise_cons.2 ⟨fun e D=> ?_,ih hn.2⟩
   obtain⟨j,I,D⟩:=X4 D
   exact Zi8 h.sep F D (fun J=>hn.1 (J▸I))}
   · exact ih hn.2}
theorem Sat.nl{w0 w:World}{E:List iO}(h:Sat w0 w E):Sat w0 w []:=h.pk []
theorem Sat.cmp{w0 w w':World}{E:List iO}(h:Sat w0 w E)(k:Sat w w' []):Sat w0 w' E:=by simpa using h.comp k
theorem lg{w0:World}{id:Nat}{m m0 m1:List iO}(is h:List Nat)(brk:Nat)(J:P.follows .mixedOrders=true)(I:Sat w0 w m)(K:∀w',Sat w0 w' m->Gd P n ds l Q (fun w'=>Sat w0 w' m0) (fun w'=>Sat w0 w' m1) brk fuel (Array.replicate fuel false) L w')
   (W:AQ m is=m0:=by exact rfl) (h1:AQ m h=m1:=by exact rfl) (F:is.Nodup:=by decide) (D:h.Nodup:=by decide) (hn:l.length=fuel:=by exact rfl):Gc P n ds Q (.region id l.toArray true) L w:=fun a N=>by
 subst W;subst h1
 exact ZhY (fun w'=>Sat w0 w' (AQ m is)) (fun w'=>Sat w0 w' (AQ m h)) brk J (I.draw.pk is F) (I.draw.pk h D) hn fun h1 U O=>K _ I.draw O ⟨fun _=>h1,U⟩ a N
theorem iV(i:Nat)(hi:Nat.blt i l.length=true:=by exact rfl)(I:pG l L (ZZ l i)=some false:=by exact rfl)(hd:(ZZ l i).dst=some d:=by exact rfl)(D:Nat.blt d n=true:=by exact rfl)(F:WJ l listed i=true:=by kernel_rfl)(h:Nat.beq i brk=false:=by exact rfl):Gd P n ds l Q S A brk fuel (listed.setIfInBounds i true) ((d,undef)::L) w->Gd P n ds l Q S A brk (fuel+1) listed L w:=fun K=>EU i K hi I hd D F h
theorem iQ(i:Nat){v:Value}(hr:∀w,A w->Runs P L w (ZZ l i) (.value v) w)(hi:Nat.blt i l.length=true:=by exact rfl)(I:pG l L (ZZ l i)=some true:=by exact rfl)(hd:(ZZ l i).dst=some d:=by exact rfl)(D:Nat.blt d n=true:=by exact rfl)(F:WJ l listed i=true:=by kernel_rfl)(h:Nat.beq i brk=false:=by exact rfl):Gd P n ds l Q S A brk fuel (listed.setIfInBounds i true) ((d,v)::L) w->Gd P n ds l Q S A brk (fuel+1) listed L w:=fun K=>oH i hr K hi I hd D F h
end
section
variable {P:Program} {L:List (Nat×Value)} {w w0:World} {o:Oper} {x y z:Operand} {T T':TypeId} {l:List iO} {v u:Value} {m n r i:Int} {k:IntKind} {p:Prop}
theorem gu(D:o.op= .move x:=by exact rfl)(h:iZ L x=some v:=by exact rfl):Runs P L w o (.value v) w:=Zkr D h
theorem nU(D:o.op= .assign x:=by exact rfl)(h:iZ L x=some v:=by exact rfl):Runs P L w o (.value v) w:=ZfR D h
theorem qj(F:o.op= .pick x y z:=by exact rfl)(D:iZ L x=some (.bool true):=by exact rfl)(h:iZ L y=some v:=by exact rfl):Runs P L w o (.value v) w:=ZfP F D h
theorem pY(F:o.op= .pick x y z:=by exact rfl)(D:iZ L x=some (.bool false):=by exact rfl)(h:iZ L z=some v:=by exact rfl):Runs P L w o (.value v) w:=ZfQ F D h
theorem Zg(F:o.op= .binOp .add T x y T':=by exact rfl)(D:iZ L x=some (.int Oi m):=by exact rfl)(h:iZ L y=some (.int Oi n):=by exact rfl)(e:r=m+n:=by omega)(hr:I64 r:=by unfold I64;omega):Runs P L w o (.value (.int Oi r)) w:=ZmT F D h e hr
theorem Zr(F:o.op= .binOp .sub T x y T':=by exact rfl)(D:iZ L x=some (.int Oi m):=by exact rfl)(h:iZ L y=some (.int Oi n):=by exact rfl)(e:r=m-n:=by omega)(hr:I64 r:=by unfold I64;omega):Runs P L w o (.value (.int Oi r)) w:=ZmB F D h e hr
theorem Yf(F:o.op= .binOp .mul T x y T':=by exact rfl)(D:iZ L x=some (.int Oi m):=by exact rfl)(h:iZ L y=some (.int Oi n):=by exact rfl)(e:r=m*n:=by omega)(hr:I64 r:=by unfold I64;omega):Runs P L w o (.value (.int Oi r)) w:=ZmH F D h e hr
theorem ET(D:o.op= .unOp .neg T x:=by exact rfl)(h:iZ L x=some (.int Oi m):=by exact rfl)(e:r= -m:=by omega)(hr:I64 r:=by unfold I64;omega):Runs P L w o (.value (.int Oi r)) w:=ZmG D h e hr
theorem Z6(F:o.op= .binOp .lss T x y T':=by exact rfl)(D:iZ L x=some (.int k m):=by exact rfl)(h:iZ L y=some (.int k n):=by exact rfl):Runs P L w o (.value (B (m<n))) w:=ZmK F D h
theorem Xx(F:o.op= .binOp .leq T x y T':=by exact rfl)(D:iZ L x=some (.int k m):=by exact rfl)(h:iZ L y=some (.int k n):=by exact rfl):Runs P L w o (.value (B (m<=n))) w:=ZmM F D h
theorem YC(F:o.op= .binOp .gtr T x y T':=by exact rfl)(D:iZ L x=some (.int k m):=by exact rfl)(h:iZ L y=some (.int k n):=by exact rfl):Runs P L w o (.value (B (n<m))) w:=ZmO F D h
theorem XL(F:o.op= .binOp .geq T x y T':=by exact rfl)(D:iZ L x=some (.int k m):=by exact rfl)(h:iZ L y=some (.int k n):=by exact rfl):Runs P L w o (.value (B (n<=m))) w:=ZmP F D h
theorem Y1(F:o.op= .binOp .eql T x y T':=by exact rfl)(D:iZ L x=some (.int k m):=by exact rfl)(h:iZ L y=some (.int k n):=by exact rfl):Runs P L w o (.value (B (m=n))) w:=ZmQ F D h
theorem Xf(F:o.op= .binOp .neq T x y T':=by exact rfl)(D:iZ L x=some (.int k m):=by exact rfl)(h:iZ L y=some (.int k n):=by exact rfl):Runs P L w o (.value (B (m≠n))) w:=ZmF F D h
theorem YL(D:o.op= .unOp .not T x:=by exact rfl)(h:iZ L x=some (B p):=by exact rfl):Runs P L w o (.value (B (¬p))) w:=ZmE D h
theorem tH(D:o.op= .unOp .not T x:=by exact rfl)(h:iZ L x=some (.bool true):=by exact rfl):Runs P L w o (.value (.bool false)) w:=ZhD D h
theorem tJ(D:o.op= .unOp .not T x:=by exact rfl)(h:iZ L x=some (.bool false):=by exact rfl):Runs P L w o (.value (.bool true)) w:=ZhE D h
theorem F8{w':World}(h:Runs P L w o (.value (B p)) w')(D:p:=by omega):Runs P L w o (.value (.bool true)) w':=Zkb h D
theorem Dc{w':World}(h:Runs P L w o (.value (B p)) w')(D:¬p:=by omega):Runs P L w o (.value (.bool false)) w':=Zkc h D
theorem h_(k':Nat){g q off f:Nat}(D:Zw P T f=some off)(F:o.op= .fieldAddr T x f:=by exact rfl)(h:iZ L x=some (.pointer (some ⟨g,q,none⟩)):=by exact rfl)(I:q+off=k':=by exact rfl):Runs P L w o (.value (.pointer (some ⟨g,k',none⟩))) w:=
 _7 F D h (by rw [Addr.add_eq _ rfl,I])
theorem Ns{kk q:Int}{off f:Nat}(D:Zw P T f=some off)(hv:iK v n)(F:o.op= .fieldAddr T x f:=by exact rfl)(h:iZ L x=some (.pointer (some (pW v q))):=by exact rfl)(J:0<=q:=by omega)(h1:0<n:=by omega)(I:q+off=kk:=by omega):Runs P L w o (.value (.pointer (some (pW v kk)))) w:=
 _7 F D h (by rw [Sv hv J h1,I])
theorem iy{kk:Int}{E:TypeId}{s:Nat}(F:Zy P T=some (E,s))(hv:iK v n)(I:o.op= .indexAddr T x y:=by exact rfl)(D:iZ L x=some v:=by exact rfl)(h:iZ L y=some (.int Oi i):=by exact rfl)(J:0<=i:=by omega)(h1:i<n:=by omega)(e:kk=i*s:=by omega):Runs P L w o (.value (.pointer (some (pW v kk)))) w:=ZhF I F D h hv J h1 e
theorem g_(j:Nat){g q:Nat}{cs:List Value}(D:ZF P T=true)(J:Sat w0 w l)(F:o.op= .load T x:=by exact rfl)(h:iZ L x=some (.pointer (some ⟨g,q,none⟩)):=by exact rfl)(hi:l[j]? =some (.blk g cs):=by exact rfl)(I:cs[q]? =some v:=by exact rfl):Runs P L w o (.value v) w:=ZcO j F D h J hi I
theorem lH(j:Nat){g q:Nat}{cs:List Value}(D:ZC P T=some q)(J:Sat w0 w l)(F:o.op= .load T x:=by exact rfl)(h:iZ L x=some (Or g):=by exact rfl)(hi:l[j]? =some (.blk g cs):=by exact rfl)(I:cs.length=q:=by exact rfl):Runs P L w o (.value (.agg cs.toArray)) w:=Za8 j F D h J hi I
theorem iR{s:Nat}{q:Int}{c:Ov}(D:ZF P T=true)(I:Row w v s n c)(F:o.op= .load T x:=by exact rfl)(h:iZ L x=some (.pointer (some (pW v q))):=by exact rfl)(J:0<=q:=by omega)(h1:q<n*s:=by omega)(e:c q=u:=by exact rfl):Runs P L w o (.value u) w:=ZcM F D h I J h1 e
theorem iW{E:TypeId}{s:Nat}(D:Zy P T=some (E,s))(hv:iK v n)(F:o.op= .call {callee:= .builtin .len,args:= #[x],argTypes:= #[T]}:=by exact rfl)(h:iZ L x=some v:=by exact rfl):Runs P L w o (.value (.int Oi n)) w:=ZmN F D h hv
theorem xc0{g:FuncId}{h:Array Operand}{ts:Array TypeId}{vs:List Value}(F:Zc P g=true)(I:o.op= .call {callee:= .value x,args:=h,argTypes:=ts}:=by exact rfl)(D:iZ L x=some (.func (.func g) #[] #[]):=by exact rfl)(J:Te L h vs:=by repeat' first|exact G6|apply Wz rfl):Runs P L w o (.enter g vs.toArray) w:=ZhH I D F J
theorem uN{j:Nat}{vs:List Value}(D:o.op= .extract x j:=by exact rfl)(h:iZ L x=some (.tuple vs.toArray):=by exact rfl)(hv:vs[j]? =some v:=by exact rfl):Runs P L w o (.value v) w:=ZdG D h hv
theorem wX{f:Fn}{vs:List Value}{xs:Array Operand}(h:o.op= .makeFunc f #[] xs:=by exact rfl)(D:Te L xs vs:=by repeat' first|exact G6|apply Wz rfl):Runs P L w o (.value (.func f #[] vs.toArray)) w:=ZcL h D
theorem lF(F:∀cs b,o.op≠ .select cs b:=by intro _ _ h;cases h)(D:(o.op.operands.toList.all fun x=>(iZ L x).isSome)=true:=by exact rfl)(hr:(execOp (fun x=>(iZ L x).getD undef) o).run P w= .ok (.value v) w:=by kernel_rfl):Runs P L w o (.value v) w:=ZmS F D hr
theorem nS{cs:List Value}(F:Sat w0 w l)(D:o.op= .box T x:=by exact rfl)(h:iZ L x=some v:=by exact rfl)(hc:v.cells=cs.toArray:=by exact rfl):∃u w',Runs P L w o (.value u) w'/\∃g,u= Or g/\Sat w0 w' (l++ [.blk g cs]):=ZmR D F h hc
theorem oh{s b:Nat}{cs:List Value}(h:ZN P T=some (v,s,b))(F:Sat w0 w l)(D:o.op= .alloc T:=by exact rfl)(hc:v.cells=cs.toArray:=by exact rfl):∃u w',Runs P L w o (.value u) w'/\∃g,u= Or g/\Sat w0 w' (l++ [.blk g cs]):=ZhI D h F hc
theorem Du{E:TypeId}{s:Nat}{c:Ov}(h:Zy P T=some (E,s))(F:Sat w0 w l)(D:o.op= .buildSlice T 0 #[]:=by exact rfl):∃u w',Runs P L w o (.value u) w'/\Sat w0 w' (l++ [.own u s E 0 c])/\iK u 0:=Zkt D h F
theorem xsb(j:Nat){g q:Nat}{cs:List Value}(F:ZF P T=true)(N:Sat w0 w l)(I:o.op= .store T x y:=by exact rfl)(hi:l[j]? =some (.blk g cs):=by exact rfl)(D:iZ L x=some (.pointer (some ⟨g,q,none⟩)):=by exact rfl)(h:iZ L y=some v:=by exact rfl)(hv:v.oneCell'=true:=by exact rfl)(J:cs[q]? =some u:=by exact rfl):∃w',Runs P L w o .skip w'/\Sat w0 w' (l.set j (.blk g (cs.set q v))):=Zl7 j I F N hi D h hv J
theorem nD(j:Nat){g q:Nat}{cs ds:List Value}(F:ZC P T=some q)(N:Sat w0 w l)(I:o.op= .store T x y:=by exact rfl)(hi:l[j]? =some (.blk g cs):=by exact rfl)(D:iZ L x=some (Or g):=by exact rfl)(h:iZ L y=some (.agg ds.toArray):=by exact rfl)(J:(cs.length,ds.length)=(q,q):=by exact rfl)
 (hd:∀v∈ds,v.oneCell'=true:=by repeat' first|exact Zj|apply Za rfl):∃w',Runs P L w o .skip w'/\Sat w0 w' (l.set j (.blk g ds)):=Zjy j I F N hi D h J hd
theorem rV(j:Nat){s:Nat}{E:TypeId}{q:Int}{c d:Ov}(F:ZF P T=true)(J:Sat w0 w l)(e:upd c q u=d)(I:o.op= .store T x y:=by exact rfl)(hi:l[j]? =some (.own v s E n c):=by exact rfl)(D:iZ L x=some (.pointer (some (pW v q))):=by exact rfl)(h:iZ L y=some u:=by exact rfl)(hv:u.oneCell'=true:=by exact rfl)(N:0<=q:=by omega)(h1:q<n*s:=by omega):∃w',Runs P L w o .skip w'/\Sat w0 w' (l.set j (.own v s E n d)):=Zl6 j I F J hi D h hv N h1 e
theorem uF{E:TypeId}{s b:Nat}{h:Value}(J:Zy P T=some (E,s))(U:ZN P E=some (h,s,b))(Y:Sat w0 w l)(O:o.op= .makeSlice T x y:=by exact rfl)(D:h.cells= #[h]:=by exact rfl)(N:s=1:=by exact rfl)(I:iZ L x=some (.int Oi n):=by exact rfl)(F:iZ L y=some (.int Oi n):=by exact rfl)(Z:0<=n:=by omega)(W:b*n<=140737488355328:=by omega)(h1:n<=140737488355328:=by omega):
 ∃u w',Runs P L w o (.value u) w'/\Sat w0 w' (l++ [.own u s E n (fun _=>h)])/\iK u n:=Zks O J U D N Y I F Z W h1
theorem V3(F:o.op= .binOp .quo T x y T':=by exact rfl)(D:iZ L x=some (.int Oi m):=by exact rfl)(h:iZ L y=some (.int Oi n):=by exact rfl)(hn:n≠0:=by omega)(e:r=m.tdiv n:=by exact rfl)(hr:I64 r:=by unfold I64;omega):Runs P L w o (.value (.int Oi r)) w:=ZmD F D h hn e hr
theorem DW(F:o.op= .binOp .rem T x y T':=by exact rfl)(D:iZ L x=some (.int Oi m):=by exact rfl)(h:iZ L y=some (.int Oi n):=by exact rfl)(hn:n≠0:=by omega)(e:r=m.tmod n:=by exact rfl):Runs P L w o (.value (.int Oi r)) w:=ZmC F D h hn e
theorem FB{ts:Array TypeId}(F:o.op= .call {callee:= .builtin .max,args:= #[x,y],argTypes:=ts}:=by exact rfl)(D:iZ L x=some (.int k m):=by exact rfl)(h:iZ L y=some (.int k n):=by exact rfl)(e:r=max m n:=by exact rfl):Runs P L w o (.value (.int k r)) w:=ZmJ F D h e
theorem TS{ts:Array TypeId}(F:o.op= .call {callee:= .builtin .min,args:= #[x,y],argTypes:=ts}:=by exact rfl)(D:iZ L x=some (.int k m):=by exact rfl)(h:iZ L y=some (.int k n):=by exact rfl)(e:r=min m n:=by exact rfl):Runs P L w o (.value (.int k r)) w:=ZmI F D h e
theorem C_(j:Nat){g q m:Nat}{cs ds:List Value}(D:ZC P T=some m)(J:Sat w0 w l)(F:o.op= .load T x:=by exact rfl)(h:iZ L x=some (.pointer (some ⟨g,q,none⟩)):=by exact rfl)(hi:l[j]? =some (.blk g cs):=by exact rfl)(I:ds.length=m:=by exact rfl)(hd:(cs.drop q).take m=ds:=by exact rfl):Runs P L w o (.value (.agg ds.toArray)) w:=R4 j F D h J hi I hd
theorem uT{s:Nat}{q:Int}{c:Ov}{cs:List Value}{m:Nat}(F:ZC P T=some m)(N:Row w v s n c)(e:∀(j:Nat) u,cs[j]? =some u->c (q+j)=u)(I:o.op= .load T x:=by exact rfl)(D:iZ L x=some (.pointer (some (pW v q))):=by exact rfl)(O:0<=q:=by omega)(h1:q+m<=n*s:=by omega)(J:cs.length=m:=by exact rfl)(h:0<m:=by omega):Runs P L w o (.value (.agg cs.toArray)) w:=Za7 I F D N O h1 J h e
theorem wR{a:Addr}(D:ZF P T=true)(hc:w0.cell? a=some v)(I:Sat w0 w l)(F:o.op= .load T x:=by exact rfl)(h:iZ L x=some (.pointer (some a)):=by exact rfl):Runs P L w o (.value v) w:=ZcN F D h hc I
theorem pz(j:Nat){E:TypeId}{s b:Nat}{c d f:Ov}{D:Value}(O:Zy P T=some (E,s))(Y:ZN P E=some (D,s,b))(hS:Sat w0 w l)(N:Row w u s m d)(e:cat (n*s) c d=f)(W:o.op= .call {callee:= .builtin .append,args:= #[x,y],argTypes:= #[T,T]}:=by exact rfl)(F:D.cells.size=s:=by exact rfl)(U:0<s:=by decide)
 (hi:l[j]? =some (.own v s E n c):=by exact rfl) (J:iZ L x=some v:=by exact rfl) (I:iZ L y=some u:=by exact rfl) (h1:∀k,0<=k->k<m*s->(d k).oneCell'=true:=by intros;rfl) (hr:r=n+m:=by omega) (Z:b*(n+m)<=140737488355328:=by omega) (h:n+m<=140737488355328:=by omega):
 ∃q w',Runs P L w o (.value q) w'/\Sat w0 w' (l.set j (.own q s E r f))/\iK q r:=Zpc j W O Y F U hS hi J I N h1 hr Z h e
theorem Ep(q:Nat){E:TypeId}{vv:Ov}{iq:Of}{f f':Og}{kk j a:Int}(O:ZF P T=true)(W:Sat w0 w l)(e:upd f kk (upd (f kk) j a)=f')(U:o.op= .store T x y:=by exact rfl)(hi:l[q]? =some (.sem (Frame.rows E n vv iq f)):=by exact rfl)(N:iZ L x=some (.pointer (some (pW (vv kk) j))):=by exact rfl)(J:iZ L y=some (.int Oi a):=by exact rfl)
 (D:0<=kk:=by omega) (h:kk<n:=by omega) (I:0<=j:=by omega) (F:j<iq kk:=by omega):∃w',Runs P L w o .skip w'/\Sat w0 w' (l.set q (.sem (Frame.rows E n vv iq f'))):=Zjx q U O W hi N J D h I F e
theorem uU{g:FuncId}{h:Array Operand}{ts:Array TypeId}{vs cap:List Value}(F:Zc P g=true)(I:o.op= .call {callee:= .value x,args:=h,argTypes:=ts}:=by exact rfl)(D:iZ L x=some (.func (.func g) #[] cap.toArray):=by exact rfl)(J:Te L h vs:=by repeat' first|exact G6|apply Wz rfl):Runs P L w o (.enter g (vs++cap).toArray) w:=ZhG I D F J
theorem yF{S D:TypeId}{k':IntKind}(F:(P.underlying S).isSome=true)(hd:P.underlying D=some (.int k'))(I:o.op= .convert S D x:=by exact rfl)(h:iZ L x=some (.int k n):=by exact rfl)(hr:FX k' n:=by unfold FX;omega):Runs P L w o (.value (.int k' n)) w:=Zku I F hd h hr
theorem pO{E:TypeId}{s b len:Nat}{J:List (Nat×Operand)}{pv:List (Nat×Value)}{cs:List Value}{c:Ov}{D:Value}(N:Zy P T=some (E,s))(Y:ZN P E=some (D,s,b))(Z:Sat w0 w l)(U:o.op= .buildSlice T len J.toArray:=by exact rfl)(O:IJ L J pv:=by repeat' first|exact Zmd|apply ZdB rfl)
   (hf:Instr.fill (fun i=>some (i*s,s)) ((Array.range (len*s)).map fun j=>D.cells[j%D.cells.size]!) pv=some cs.toArray:=by kernel_rfl) (W:len*s<=16777216:=by decide) (F:len*s≠0:=by decide) (hn:n=len:=by exact rfl) (I:cs.length=len*s:=by exact rfl)
   (hc:∀k:Nat,(k:Int)<n*s->cs[k]? =some (c k):=by intro k hk;rcases k with _|_|_|_|_|_|_|_|k<;>first|rfl|(exfalso;omega)) (h1:n<=140737488355328:=by omega):∃u w',Runs P L w o (.value u) w'/\Sat w0 w' (l++ [.own u s E n c])/\iK u n:=
 ZmL U N Y Z (fun ρ h=>by simpa using O ρ h) hf W F hn I hc h1
end
end Go.Proofs.Gw
namespace Go.Proofs.Gw
open Go Go.RowKit
section
variable {w0 w:World} {l:List iO}
theorem Sat.n1{D:iO}(h:Sat w0 w l)(e:l= [D]:=by exact rfl):Sat w0 w [D]:=e▸h
theorem Sat.n2{F D:iO}(h:Sat w0 w l)(e:l= [F,D]:=by exact rfl):Sat w0 w [F,D]:=e▸h
theorem Sat.n3{F D a2:iO}(h:Sat w0 w l)(e:l= [F,D,a2]:=by exact rfl):Sat w0 w [F,D,a2]:=e▸h
theorem Sat.n4{I F a2 D:iO}(h:Sat w0 w l)(e:l= [I,F,a2,D]:=by exact rfl):Sat w0 w [I,F,a2,D]:=e▸h
theorem Sat.n5{J I a2 F D:iO}(h:Sat w0 w l)(e:l= [J,I,a2,F,D]:=by exact rfl):Sat w0 w [J,I,a2,F,D]:=e▸h
theorem Sat.n6{N J a2 I F D:iO}(h:Sat w0 w l)(e:l= [N,J,a2,I,F,D]:=by exact rfl):Sat w0 w [N,J,a2,I,F,D]:=e▸h
theorem Sat.n7{O N a2 J I F D:iO}(h:Sat w0 w l)(e:l= [O,N,a2,J,I,F,D]:=by exact rfl):Sat w0 w [O,N,a2,J,I,F,D]:=e▸h
theorem Sat.n8{U O a2 N J I F D:iO}(h:Sat w0 w l)(e:l= [U,O,a2,N,J,I,F,D]:=by exact rfl):Sat w0 w [U,O,a2,N,J,I,F,D]:=e▸h
theorem Sat.n9{W U a2 O N J I F D:iO}(h:Sat w0 w l)(e:l= [W,U,a2,O,N,J,I,F,D]:=by exact rfl):Sat w0 w [W,U,a2,O,N,J,I,F,D]:=e▸h
theorem Sat.n10{Y W a2 U O N J I F D:iO}(h:Sat w0 w l)(e:l= [Y,W,a2,U,O,N,J,I,F,D]:=by exact rfl):Sat w0 w [Y,W,a2,U,O,N,J,I,F,D]:=e▸h
theorem Sat.n11{Z Y a2 W U O N J I F D:iO}(h:Sat w0 w l)(e:l= [Z,Y,a2,W,U,O,N,J,I,F,D]:=by exact rfl):Sat w0 w [Z,Y,a2,W,U,O,N,J,I,F,D]:=e▸h
theorem Sat.n12{a0 Z a2 Y W U O N J I F D:iO}(h:Sat w0 w l)(e:l= [a0,Z,a2,Y,W,U,O,N,J,I,F,D]:=by exact rfl):Sat w0 w [a0,Z,a2,Y,W,U,O,N,J,I,F,D]:=e▸h
theorem Sat.n13{a0 a1 a2 Z Y W U O N J I F D:iO}(h:Sat w0 w l)(e:l= [a0,a1,a2,Z,Y,W,U,O,N,J,I,F,D]:=by exact rfl):Sat w0 w [a0,a1,a2,Z,Y,W,U,O,N,J,I,F,D]:=e▸h
theorem Sat.n14{a0 a1 a2 a3 Z Y W U O N J I F D:iO}(h:Sat w0 w l)(e:l= [a0,a1,a2,a3,Z,Y,W,U,O,N,J,I,F,D]:=by exact rfl):Sat w0 w [a0,a1,a2,a3,Z,Y,W,U,O,N,J,I,F,D]:=e▸h
theorem Sat.n15{a0 a1 a2 a3 a4 Z Y W U O N J I F D:iO}(h:Sat w0 w l)(e:l= [a0,a1,a2,a3,a4,Z,Y,W,U,O,N,J,I,F,D]:=by exact rfl):Sat w0 w [a0,a1,a2,a3,a4,Z,Y,W,U,O,N,J,I,F,D]:=e▸h
theorem Sat.n16{a0 a1 a2 a3 a4 a5 Z Y W U O N J I F D:iO}(h:Sat w0 w l)(e:l= [a0,a1,a2,a3,a4,a5,Z,Y,W,U,O,N,J,I,F,D]:=by exact rfl):Sat w0 w [a0,a1,a2,a3,a4,a5,Z,Y,W,U,O,N,J,I,F,D]:=e▸h
theorem Sat.n17{a0 a1 a2 a3 a4 a5 a6 Z Y W U O N J I F D:iO}(h:Sat w0 w l)(e:l= [a0,a1,a2,a3,a4,a5,a6,Z,Y,W,U,O,N,J,I,F,D]:=by exact rfl):Sat w0 w [a0,a1,a2,a3,a4,a5,a6,Z,Y,W,U,O,N,J,I,F,D]:=e▸h
theorem Sat.n18{a0 a1 a2 a3 a4 a5 a6 a7 Z Y W U O N J I F D:iO}(h:Sat w0 w l)(e:l= [a0,a1,a2,a3,a4,a5,a6,a7,Z,Y,W,U,O,N,J,I,F,D]:=by exact rfl):Sat w0 w [a0,a1,a2,a3,a4,a5,a6,a7,Z,Y,W,U,O,N,J,I,F,D]:=e▸h
end
section
variable {P:Program} {l rest:List Oper} {Q Q':Exit->Act->World->Prop} {w:World} {n id:Nat} {ds:List Deferred} {L:List (Nat×Value)} {x y:Code}
theorem zs2{d1 d2:Nat}{h I:Value}{F D:Oper}(K:Gl P n ds l Q rest ((d2,I)::((d1,h)::L)) w)(h1:Runs P L w F (.value h) w:=by first|exact gu|exact nU|exact qj|exact pY|exact Z6|exact YC|exact XL|exact Xx|exact Y1|exact Xf|exact tH|exact tJ|exact YL|exact uN)(O:pG l L F=some true:=by exact rfl)(W:F.dst=some d1:=by exact rfl)(Z:Nat.blt d1 n=true:=by exact rfl)(J:Runs P ((d1,h)::L) w D (.value I) w:=by first|exact gu|exact nU|exact qj|exact pY|exact Z6|exact YC|exact XL|exact Xx|exact Y1|exact Xf|exact tH|exact tJ|exact YL|exact uN)(N:pG l ((d1,h)::L) D=some true:=by exact rfl)(U:D.dst=some d2:=by exact rfl)(Y:Nat.blt d2 n=true:=by exact rfl):
 Gl P n ds l Q (F::D::rest) L w:=iI h1 (iI J K N U Y) O W Z
theorem C9{d1 d2 d3:Nat}{h D N:Value}{J I F:Oper}(K:Gl P n ds l Q rest ((d3,N)::((d2,D)::((d1,h)::L))) w)(h1:Runs P L w J (.value h) w:=by first|exact gu|exact nU|exact qj|exact pY|exact Z6|exact YC|exact XL|exact Xx|exact Y1|exact Xf|exact tH|exact tJ|exact YL|exact uN)(Z:pG l L J=some true:=by exact rfl)(e1:J.dst=some d1:=by exact rfl)(b1:Nat.blt d1 n=true:=by exact rfl)(U:Runs P ((d1,h)::L) w I (.value D) w:=by first|exact gu|exact nU|exact qj|exact pY|exact Z6|exact YC|exact XL|exact Xx|exact Y1|exact Xf|exact tH|exact tJ|exact YL|exact uN)(Y:pG l ((d1,h)::L) I=some true:=by exact rfl)(e2:I.dst=some d2:=by exact rfl)(b2:Nat.blt d2 n=true:=by exact rfl)(O:Runs P ((d2,D)::((d1,h)::L)) w F (.value N) w:=by first|exact gu|exact nU|exact qj|exact pY|exact Z6|exact YC|exact XL|exact Xx|exact Y1|exact Xf|exact tH|exact tJ|exact YL|exact uN)(W:pG l ((d2,D)::((d1,h)::L)) F=some true:=by exact rfl)(e3:F.dst=some d3:=by exact rfl)(b3:Nat.blt d3 n=true:=by exact rfl):
 Gl P n ds l Q (J::I::F::rest) L w:=iI h1 (iI U (iI O K W e3 b3) Y e2 b2) Z e1 b1
theorem qE{d1 d2 d3 d4:Nat}{h D F U:Value}{O N J I:Oper}(K:Gl P n ds l Q rest ((d4,U)::((d3,F)::((d2,D)::((d1,h)::L)))) w)(h1:Runs P L w O (.value h) w:=by first|exact gu|exact nU|exact qj|exact pY|exact Z6|exact YC|exact XL|exact Xx|exact Y1|exact Xf|exact tH|exact tJ|exact YL|exact uN)(g1:pG l L O=some true:=by exact rfl)(e1:O.dst=some d1:=by exact rfl)(b1:Nat.blt d1 n=true:=by exact rfl)(Z:Runs P ((d1,h)::L) w N (.value D) w:=by first|exact gu|exact nU|exact qj|exact pY|exact Z6|exact YC|exact XL|exact Xx|exact Y1|exact Xf|exact tH|exact tJ|exact YL|exact uN)(g2:pG l ((d1,h)::L) N=some true:=by exact rfl)(e2:N.dst=some d2:=by exact rfl)(b2:Nat.blt d2 n=true:=by exact rfl)(Y:Runs P ((d2,D)::((d1,h)::L)) w J (.value F) w:=by first|exact gu|exact nU|exact qj|exact pY|exact Z6|exact YC|exact XL|exact Xx|exact Y1|exact Xf|exact tH|exact tJ|exact YL|exact uN)(g3:pG l ((d2,D)::((d1,h)::L)) J=some true:=by exact rfl)(e3:J.dst=some d3:=by exact rfl)(b3:Nat.blt d3 n=true:=by exact rfl)(W:Runs P ((d3,F)::((d2,D)::((d1,h)::L))) w I (.value U) w:=by first|exact gu|exact nU|exact qj|exact pY|exact Z6|exact YC|exact XL|exact Xx|exact Y1|exact Xf|exact tH|exact tJ|exact YL|exact uN)(g4:pG l ((d3,F)::((d2,D)::((d1,h)::L))) I=some true:=by exact rfl)(e4:I.dst=some d4:=by exact rfl)(b4:Nat.blt d4 n=true:=by exact rfl):
 Gl P n ds l Q (O::N::J::I::rest) L w:=iI h1 (iI Z (iI Y (iI W K g4 e4 b4) g3 e3 b3) g2 e2 b2) g1 e1 b1
theorem uK{d1 d2 d3 d4 d5:Nat}{h D F I Y:Value}{W U O N J:Oper}(K:Gl P n ds l Q rest ((d5,Y)::((d4,I)::((d3,F)::((d2,D)::((d1,h)::L))))) w)(h1:Runs P L w W (.value h) w:=by first|exact gu|exact nU|exact qj|exact pY|exact Z6|exact YC|exact XL|exact Xx|exact Y1|exact Xf|exact tH|exact tJ|exact YL|exact uN)(g1:pG l L W=some true:=by exact rfl)(e1:W.dst=some d1:=by exact rfl)(b1:Nat.blt d1 n=true:=by exact rfl)(h2:Runs P ((d1,h)::L) w U (.value D) w:=by first|exact gu|exact nU|exact qj|exact pY|exact Z6|exact YC|exact XL|exact Xx|exact Y1|exact Xf|exact tH|exact tJ|exact YL|exact uN)(g2:pG l ((d1,h)::L) U=some true:=by exact rfl)(e2:U.dst=some d2:=by exact rfl)(b2:Nat.blt d2 n=true:=by exact rfl)(h3:Runs P ((d2,D)::((d1,h)::L)) w O (.value F) w:=by first|exact gu|exact nU|exact qj|exact pY|exact Z6|exact YC|exact XL|exact Xx|exact Y1|exact Xf|exact tH|exact tJ|exact YL|exact uN)(g3:pG l ((d2,D)::((d1,h)::L)) O=some true:=by exact rfl)(e3:O.dst=some d3:=by exact rfl)(b3:Nat.blt d3 n=true:=by exact rfl)(h4:Runs P ((d3,F)::((d2,D)::((d1,h)::L))) w N (.value I) w:=by first|exact gu|exact nU|exact qj|exact pY|exact Z6|exact YC|exact XL|exact Xx|exact Y1|exact Xf|exact tH|exact tJ|exact YL|exact uN)(g4:pG l ((d3,F)::((d2,D)::((d1,h)::L))) N=some true:=by exact rfl)(e4:N.dst=some d4:=by exact rfl)(b4:Nat.blt d4 n=true:=by exact rfl)(Z:Runs P ((d4,I)::((d3,F)::((d2,D)::((d1,h)::L)))) w J (.value Y) w:=by first|exact gu|exact nU|exact qj|exact pY|exact Z6|exact YC|exact XL|exact Xx|exact Y1|exact Xf|exact tH|exact tJ|exact YL|exact uN)(g5:pG l ((d4,I)::((d3,F)::((d2,D)::((d1,h)::L)))) J=some true:=by exact rfl)(e5:J.dst=some d5:=by exact rfl)(b5:Nat.blt d5 n=true:=by exact rfl):
 Gl P n ds l Q (W::U::O::N::J::rest) L w:=iI h1 (iI h2 (iI h3 (iI h4 (iI Z K g5 e5 b5) g4 e4 b4) g3 e3 b3) g2 e2 b2) g1 e1 b1
theorem En{d1 d2 d3 d4 d5 d6:Nat}{h D F I J v6:Value}{Z Y W U O N:Oper}(K:Gl P n ds l Q rest ((d6,v6)::((d5,J)::((d4,I)::((d3,F)::((d2,D)::((d1,h)::L)))))) w)(h1:Runs P L w Z (.value h) w:=by first|exact gu|exact nU|exact qj|exact pY|exact Z6|exact YC|exact XL|exact Xx|exact Y1|exact Xf|exact tH|exact tJ|exact YL|exact uN)(g1:pG l L Z=some true:=by exact rfl)(e1:Z.dst=some d1:=by exact rfl)(b1:Nat.blt d1 n=true:=by exact rfl)(h2:Runs P ((d1,h)::L) w Y (.value D) w:=by first|exact gu|exact nU|exact qj|exact pY|exact Z6|exact YC|exact XL|exact Xx|exact Y1|exact Xf|exact tH|exact tJ|exact YL|exact uN)(g2:pG l ((d1,h)::L) Y=some true:=by exact rfl)(e2:Y.dst=some d2:=by exact rfl)(b2:Nat.blt d2 n=true:=by exact rfl)(h3:Runs P ((d2,D)::((d1,h)::L)) w W (.value F) w:=by first|exact gu|exact nU|exact qj|exact pY|exact Z6|exact YC|exact XL|exact Xx|exact Y1|exact Xf|exact tH|exact tJ|exact YL|exact uN)(g3:pG l ((d2,D)::((d1,h)::L)) W=some true:=by exact rfl)(e3:W.dst=some d3:=by exact rfl)(b3:Nat.blt d3 n=true:=by exact rfl)(h4:Runs P ((d3,F)::((d2,D)::((d1,h)::L))) w U (.value I) w:=by first|exact gu|exact nU|exact qj|exact pY|exact Z6|exact YC|exact XL|exact Xx|exact Y1|exact Xf|exact tH|exact tJ|exact YL|exact uN)(g4:pG l ((d3,F)::((d2,D)::((d1,h)::L))) U=some true:=by exact rfl)(e4:U.dst=some d4:=by exact rfl)(b4:Nat.blt d4 n=true:=by exact rfl)(h5:Runs P ((d4,I)::((d3,F)::((d2,D)::((d1,h)::L)))) w O (.value J) w:=by first|exact gu|exact nU|exact qj|exact pY|exact Z6|exact YC|exact XL|exact Xx|exact Y1|exact Xf|exact tH|exact tJ|exact YL|exact uN)(g5:pG l ((d4,I)::((d3,F)::((d2,D)::((d1,h)::L)))) O=some true:=by exact rfl)(e5:O.dst=some d5:=by exact rfl)(b5:Nat.blt d5 n=true:=by exact rfl)(h6:Runs P ((d5,J)::((d4,I)::((d3,F)::((d2,D)::((d1,h)::L))))) w N (.value v6) w:=by first|exact gu|exact nU|exact qj|exact pY|exact Z6|exact YC|exact XL|exact Xx|exact Y1|exact Xf|exact tH|exact tJ|exact YL|exact uN)(g6:pG l ((d5,J)::((d4,I)::((d3,F)::((d2,D)::((d1,h)::L))))) N=some true:=by exact rfl)(e6:N.dst=some d6:=by exact rfl)(b6:Nat.blt d6 n=true:=by exact rfl):
 Gl P n ds l Q (Z::Y::W::U::O::N::rest) L w:=iI h1 (iI h2 (iI h3 (iI h4 (iI h5 (iI h6 K g6 e6 b6) g5 e5 b5) g4 e4 b4) g3 e3 b3) g2 e2 b2) g1 e1 b1
theorem fQ(h:Gl P n ds l (Exit.then (y.wp P Q) Q) l L w):Gc P n ds Q (.seq (.region id l.toArray false) y) L w:=lW (lG h)
theorem ig(h:Gc P n ds Q y L w):Gl P n ds l (Exit.then (y.wp P Q) Q') [] L w:=iq (iP h)
theorem iT{D:List Oper}(h:Gl P n ds l (Exit.then (y.wp P Q) Q) l L w):Gl P n ds D (Exit.then ((Code.seq (.region id l.toArray false) y).wp P Q) Q') [] L w:=ig (fQ h)
theorem pR{D G:Prop}(h:D)(k:D->G:=by intro g;(repeat (first|refine oq ?_|refine iI (by first|exact gu|exact nU|exact qj|exact pY|exact Z6|exact YC|exact XL|exact Xx|exact Y1|exact Xf|exact tH|exact tJ|exact YL|exact uN) ?_));exact g):G:=k h
theorem zV{o:Oper}{d:Nat}{w':World}{v:Value}(hr:Runs P L w o (.value v) w')(D:pG l L o=some true:=by exact rfl)(hd:o.dst=some d:=by exact rfl)(h:Nat.blt d n=true:=by exact rfl):Gl P n ds l Q rest ((d,v)::L) w'->Gl P n ds l Q (o::rest) L w:=fun K=>iI hr K D hd h
theorem zP{o:Oper}{d:Nat}{w':World}{v:Value}(hr:Runs P L w o (.value v) w':=by first|exact gu|exact nU|exact qj|exact pY|exact Z6|exact YC|exact XL|exact Xx|exact Y1|exact Xf|exact tH|exact tJ|exact YL|exact uN)(D:pG l L o=some true:=by exact rfl)(hd:o.dst=some d:=by exact rfl)(h:Nat.blt d n=true:=by exact rfl):Gl P n ds l Q rest ((d,v)::L) w'->Gl P n ds l Q (o::rest) L w:=fun K=>iI hr K D hd h
theorem On{F D:Oper}{d1 d2:Nat}{w1 w2:World}{h Y:Value}(J:Runs P L w F (.value h) w1:=by first|exact gu|exact nU|exact qj|exact pY|exact Z6|exact YC|exact XL|exact Xx|exact Y1|exact Xf|exact tH|exact tJ|exact YL|exact uN)(W:pG l L F=some true:=by exact rfl)(hd1:F.dst=some d1:=by exact rfl)(O:Nat.blt d1 n=true:=by exact rfl)(I:Runs P ((d1,h)::L) w1 D (.value Y) w2:=by first|exact gu|exact nU|exact qj|exact pY|exact Z6|exact YC|exact XL|exact Xx|exact Y1|exact Xf|exact tH|exact tJ|exact YL|exact uN)(U:pG l ((d1,h)::L) D=some true:=by exact rfl)(hd2:D.dst=some d2:=by exact rfl)(N:Nat.blt d2 n=true:=by exact rfl):Gl P n ds l Q rest ((d2,Y)::(d1,h)::L) w2->Gl P n ds l Q (F::D::rest) L w:=fun K=>zP J W hd1 O (zP I U hd2 N K)
theorem Oo{J I F:Oper}{d1 d2 d3:Nat}{w1 w2 w3:World}{h D v3:Value}(U:Runs P L w J (.value h) w1:=by first|exact gu|exact nU|exact qj|exact pY|exact Z6|exact YC|exact XL|exact Xx|exact Y1|exact Xf|exact tH|exact tJ|exact YL|exact uN)(ac:pG l L J=some true:=by exact rfl)(hd1:J.dst=some d1:=by exact rfl)(Z:Nat.blt d1 n=true:=by exact rfl)(O:Runs P ((d1,h)::L) w1 I (.value D) w2:=by first|exact gu|exact nU|exact qj|exact pY|exact Z6|exact YC|exact XL|exact Xx|exact Y1|exact Xf|exact tH|exact tJ|exact YL|exact uN)(ab:pG l ((d1,h)::L) I=some true:=by exact rfl)(hd2:I.dst=some d2:=by exact rfl)(Y:Nat.blt d2 n=true:=by exact rfl)(N:Runs P ((d2,D)::(d1,h)::L) w2 F (.value v3) w3:=by first|exact gu|exact nU|exact qj|exact pY|exact Z6|exact YC|exact XL|exact Xx|exact Y1|exact Xf|exact tH|exact tJ|exact YL|exact uN)(aa:pG l ((d2,D)::(d1,h)::L) F=some true:=by exact rfl)(ad:F.dst=some d3:=by exact rfl)(W:Nat.blt d3 n=true:=by exact rfl):Gl P n ds l Q rest ((d3,v3)::(d2,D)::(d1,h)::L) w3->Gl P n ds l Q (J::I::F::rest) L w:=fun K=>On U ac hd1 Z O ab hd2 Y (zP N aa ad W K)
theorem zO{o:Oper}{d:Nat}(D:pG l L o=some false:=by exact rfl)(hd:o.dst=some d:=by exact rfl)(h:Nat.blt d n=true:=by exact rfl):Gl P n ds l Q rest ((d,undef)::L) w->Gl P n ds l Q (o::rest) L w:=fun K=>oq K D hd h
theorem jk{P:Program}{n:Nat}{ds:List Deferred}{L:List (Nat×Value)}{w:World}{F:List Oper}{D:Exit->Act->World->Prop}(h:Ge n ds D .ret L w):Gl P n ds F (Exit.then (Code.wp P .ret D) D) [] L w:=ig<|sZ h
theorem sG{P:Program}{n:Nat}{ds:List Deferred}{L:List (Nat×Value)}{w:World}{U:List Oper}{O:Nat}{J:Act->World->Prop}{I:Act->World->Prop}{N:Nat}{F:Act->World->Prop}{D:Exit->Act->World->Prop}(h:Ge n ds D .ret L w):Gl P n ds U (Exit.then (Code.wp P .ret (Exit.inBlock O (Exit.then J (Exit.then I (Exit.inBlock N (Exit.then F D)))))) (Exit.inBlock O (Exit.then J (Exit.then I (Exit.inBlock N (Exit.then F D)))))) [] L w:=ig<|sZ<|og<|m_<|m_<|og<|m_ h
theorem oC{P:Program}{n:Nat}{ds:List Deferred}{L:List (Nat×Value)}{w:World}{J:Nat}{O:Nat}{I:List Oper}{N:Code}{F:Code}{D:Exit->Act->World->Prop}(h:Gl P n ds I (Exit.then (Code.wp P N (Exit.inBlock J (Exit.then (Code.wp P F D) D))) (Exit.inBlock J (Exit.then (Code.wp P F D) D))) I L w):Gc P n ds (Exit.then (Code.wp P (.seq (.block J (.seq (.region O I.toArray false) N)) F) D) D) .skip L w:=nX<|iP<|lW<|o7<|fQ h
theorem rU{P:Program}{n:Nat}{ds:List Deferred}{L:List (Nat×Value)}{w:World}{I:Nat}{F:Nat}{L4:List Oper}{D:Exit->Act->World->Prop}(h:Gl P n ds L4 D L4 L w):Gc P n ds (Exit.inBlock I (Exit.then (Code.wp P (.region F L4.toArray false) D) D)) .skip L w:=nX<|ng<|iP<|lG h
theorem l9{P:Program}{n:Nat}{ds:List Deferred}{L:List (Nat×Value)}{w:World}{J:List Oper}{N:Nat}{L5:List Oper}{I:Code}{F:Code}{D:Exit->Act->World->Prop}(h:Gl P n ds L5 (Exit.then (Code.wp P I (Exit.then (Code.wp P F D) D)) (Exit.then (Code.wp P F D) D)) L5 L w):Gl P n ds J (Exit.then (Code.wp P (.seq (.seq (.region N L5.toArray false) I) F) D) D) [] L w:=ig<|lW<|fQ h
theorem nI{P:Program}{n:Nat}{ds:List Deferred}{L:List (Nat×Value)}{w:World}{J:List Oper}{I:Nat}{F:Code}{D:Exit->Act->World->Prop}(h:Gc P n ds (Exit.inBlock I D) F L w):Gl P n ds J (Exit.then (Code.wp P (.block I F) D) D) [] L w:=ig<|o7 h
theorem nG{P:Program}{n:Nat}{ds:List Deferred}{L:List (Nat×Value)}{w:World}{J:List Oper}{I:Code}{F:Code}{D:Exit->Act->World->Prop}(h:Gc P n ds (Exit.then (Code.wp P F D) D) I L w):Gl P n ds J (Exit.then (Code.wp P (.seq I F) D) D) [] L w:=ig<|lW h
theorem oM{P:Program}{n:Nat}{ds:List Deferred}{L:List (Nat×Value)}{w:World}{N:Act->World->Prop}{J:Act->World->Prop}{I:Nat}{O:Nat}{L7:List Oper}{F:Code}{D:Exit->Act->World->Prop}(h:Gl P n ds L7 (Exit.then (Code.wp P F D) D) L7 L w):Gc P n ds (Exit.then N (Exit.then J (Exit.inBlock I (Exit.then (Code.wp P (.seq (.region O L7.toArray false) F) D) D)))) (.exit I) L w:=sW<|n_<|n_<|rH<|iP<|fQ h
theorem nT{P:Program}{n:Nat}{ds:List Deferred}{L:List (Nat×Value)}{w:World}{F:List Oper}{J:Nat}{I:Nat}{L4:List Oper}{D:Exit->Act->World->Prop}(h:Gl P n ds L4 D L4 L w):Gl P n ds F (Exit.inBlock J (Exit.then (Code.wp P (.region I L4.toArray false) D) D)) [] L w:=iq<|ng<|iP<|lG h
theorem ZX{P:Program}{n:Nat}{ds:List Deferred}{L:List (Nat×Value)}{w:World}{I:Nat}{L4:List Oper}{F:Code}{D:Exit->Act->World->Prop}(h:Gl P n ds L4 (Exit.then (Code.wp P F D) D) L4 L w):Gc P n ds (Exit.then (Code.wp P (.seq (.region I L4.toArray false) F) D) D) .skip L w:=nX<|iP<|fQ h
theorem j_{P:Program}{n:Nat}{ds:List Deferred}{L:List (Nat×Value)}{w:World}{I:List Oper}{F:Act->World->Prop}{D:Exit->Act->World->Prop}(h:Ge n ds D .ret L w):Gl P n ds I (Exit.then (Code.wp P .ret (Exit.then F D)) (Exit.then F D)) [] L w:=ig<|sZ<|m_ h
theorem XJ{P:Program}{n:Nat}{ds:List Deferred}{L:List (Nat×Value)}{w:World}{J:Nat}{L5:List Oper}{I:Code}{F:Code}{D:Exit->Act->World->Prop}(h:Gl P n ds L5 (Exit.then (Code.wp P I (Exit.then (Code.wp P F D) D)) (Exit.then (Code.wp P F D) D)) L5 L w):Gc P n ds (Exit.then (Code.wp P (.seq (.seq (.region J L5.toArray false) I) F) D) D) .skip L w:=nX<|iP<|lW<|fQ h
theorem uw{P:Program}{n:Nat}{ds:List Deferred}{L:List (Nat×Value)}{w:World}{U:Act->World->Prop}{O:Act->World->Prop}{N:Nat}{W:Nat}{I:List Oper}{J:Code}{F:Code}{D:Exit->Act->World->Prop}(h:Gl P n ds I (Exit.then (Code.wp P J (Exit.then (Code.wp P F D) D)) (Exit.then (Code.wp P F D) D)) I L w):Gc P n ds (Exit.then U (Exit.then O (Exit.inBlock N (Exit.then (Code.wp P (.seq (.seq (.region W I.toArray false) J) F) D) D)))) (.exit N) L w:=sW<|n_<|n_<|rH<|iP<|lW<|fQ h
theorem XI{P:Program}{n:Nat}{ds:List Deferred}{L:List (Nat×Value)}{w:World}{J:List Oper}{I:Nat}{F:Act->World->Prop}{D:Exit->Act->World->Prop}(h:Ge n ds D .ret L w):Gl P n ds J (Exit.then (Code.wp P .ret (Exit.inBlock I (Exit.then F D))) (Exit.inBlock I (Exit.then F D))) [] L w:=ig<|sZ<|og<|m_ h
end
end Go.Proofs.Gw
namespace Go.Proofs.Gw
open Go Go.RowKit
structure cO where
  m:Int
  L:Of
  d:Int
  D:Of
  bP:Int
  aV:Int
def cO.each(p:cO)(i:Int):Prop:=1<=p.L i/\p.L i<=p.bP/\(0<i->p.L i<p.L (i-1))/\0<=p.D i/\p.D i<=1000
structure cO.Ok (p:cO):Prop where
  m1:1<=p.m
  m2:p.m<=20
  d:p.d=p.m
  s1:1<=p.bP
  s2:p.bP<=2000
  k1:0<=p.aV
  k2:p.aV<=100
  all:∀i,0<=i->i<p.m->p.each i
structure oO (w:World) (vL vD:Value) (p:cO):Prop where
  L:Row w vL 1 p.m (ints p.L)
  D:Row w vD 1 p.d (ints p.D)
  iL:∀k,-9223372036854775808<=p.L k/\p.L k<=9223372036854775807
  iD:∀k,-9223372036854775808<=p.D k/\p.D k<=9223372036854775807
  is: -9223372036854775808<=p.bP/\p.bP<=9223372036854775807
  ik: -9223372036854775808<=p.aV/\p.aV<=9223372036854775807
theorem oO.below{w w':World}{vL vD:Value}{p:cO}(h:oO w vL vD p)(D:Below w.heap.size w w'):oO w' vL vD p:=
 ⟨h.L.below D,h.D.below D,h.iL,h.iD,h.is,h.ik⟩
theorem oO.Oq{w:World}{vL vD:Value}{p:cO}(h:oO w vL vD p):0<=p.m/\p.m<=140737488355328/\0<=p.d/\p.d<=140737488355328/\(-9223372036854775808<=p.bP/\p.bP<=9223372036854775807)/\-9223372036854775808<=p.aV/\p.aV<=9223372036854775807:=⟨h.L.fP.n0,h.L.fP.n1,h.D.fP.n0,h.D.fP.n1,h.is,h.ik⟩
structure FY (w:World) (v:Value) (n:Int) (f:Of):Prop where
  row:Row w v 1 n (ints f)
  i:∀k,-9223372036854775808<=f k/\f k<=9223372036854775807
theorem FY.below{w w':World}{v:Value}{n:Int}{f:Of}(h:FY w v n f)(D:Below w.heap.size w w'):FY w' v n f:=⟨h.row.below D,h.i⟩
def u8s(f:Of):Ov:=fun k=> .int .u8 (f k)
def pI(n:Int)(y:Of)(q:Int):Prop:=1<=q/\q<=1073741824/\∀k,0<=k->k<n->0<=y k/\y k<=1073741824
variable {i j:Int}
def R(T:Of)(s y:Int):Nat->Int->Int
  |0,c=>T c
  |k+1,c=>if((k:Int)+1)*s<=c then max (R T s y k c) (T (c-((k:Int)+1)*s)+((k:Int)+1)*y) else R T s y k c
theorem O4(T:Of)(s y:Int)(k:Nat)(c:Int):R T s y k c<=R T s y (k+1) c:=by
 simp only [R];split<;>omega
theorem Fj(T:Of)(s y:Int):∀(k n:Nat) (c:Int),n<=k->(n:Int)*s<=c->T (c-n*s)+n*y<=R T s y k c
 | 0,n,c,hn,_=>by
   obtain rfl:n=0:=Oa
   simp [R]
 | k+1,n,c,hn,hc=>by
   by_cases h:n=k+1
   {
   subst h
   have e:((k+1:Nat):Int)=(k:Int)+1:=Oa
   rw [e] at hc⊢
   simp only [R];rw [if_pos hc];omega}
   {
   have:=Fj T s y k n c Oa hc
   have:=O4 T s y k c
   omega}
theorem EZ(T:Of)(s y:Int):∀(k:Nat) (c:Int),0<=c->∃n:Nat,n<=k/\(n:Int)*s<=c/\R T s y k c=T (c-n*s)+n*y
 |0,c,hc=>⟨0,Oa,by simpa using hc,by simp [R]⟩
 | k+1,c,hc=>by
   obtain⟨n,h1,I,F⟩:=EZ T s y k c hc
   simp only [R]
   split
   {
   rename_i h
   rcases Int.le_total (R T s y k c) (T (c-((k:Int)+1)*s)+((k:Int)+1)*y) with D|D
   {
   refine⟨k+1,Oa,?_,?_⟩
   · have e:((k+1:Nat):Int)=(k:Int)+1:=Oa
     rw [e];exact h
   · have e:((k+1:Nat):Int)=(k:Int)+1:=Oa
     rw [e,Int.max_eq_right D]}
   · exact⟨n,Oa,I,by rw [Int.max_eq_left D];exact F⟩}
   · exact⟨n,Oa,I,F⟩
theorem O5(T:Of)(s y:Int)(N:0<=s)(k:Nat)(c:Int)(hc:0<=c):
   R T s y (k+1) c=if s<=c then max (R T s y k c) (R T s y k (c-s)+y) else R T s y k c:=by
 have O:0<=(k:Int)*s:=Int.mul_nonneg Oa N
 have e1:((k:Int)+1)*s=k*s+s:=by rw [Int.add_mul,Int.one_mul]
 split
 {
 rename_i h
 apply Int.le_antisymm
 {
 obtain⟨n,h1,D,J⟩:=EZ T s y (k+1) c hc
 rw [J]
 by_cases hn:n<=k
 · have:=Fj T s y k n c hn D;omega
 {
 obtain rfl:n=k+1:=Oa
 have e:((k+1:Nat):Int)=(k:Int)+1:=Oa
 rw [e] at D⊢
 have I:=Fj T s y k k (c-s) (Nat.le_refl _) Oa
 have Z:c-s-k*s=c-((k:Int)+1)*s:=Oa
 have e3:((k:Int)+1)*y=k*y+y:=by rw [Int.add_mul,Int.one_mul]
 rw [Z] at I
 omega}}
 {
 have I:=O4 T s y k c
 obtain⟨n,h1,D,J⟩:=EZ T s y k (c-s) Oa
 have Y:((n+1:Nat):Int)*s=n*s+s:=by rw [Int.natCast_add,Int.add_mul];simp
 have W:((n+1:Nat):Int)*y=n*y+y:=by rw [Int.natCast_add,Int.add_mul];simp
 have F:=Fj T s y (k+1) (n+1) c Oa Oa
 rw [Y,W] at F
 have U:c-(n*s+s)=c-s-n*s:=Oa
 rw [U] at F
 omega}}
 {
 rename_i h
 simp only [R];rw [if_neg Oa]}
theorem Zpd(T:Of)(s y:Int)(c:Int)(k:Nat)(h:c<((k:Int)+1)*s)(D:0<=s):∀n,k<=n->R T s y n c=R T s y k c:=by
 intro n hn
 induction n with
 | zero => obtain rfl:k=0:=Oa
           rfl
 | succ n ih=>
   by_cases e:k=n+1
   · rw [e]
   {
   rw [<-ih Oa]
   simp only [R]
   have:((k:Int)+1)*s<=((n:Int)+1)*s:=Int.mul_le_mul_of_nonneg_right Oa D
   rw [if_neg Oa]}
theorem MF{T:Of}{s y M:Int}(D:1<=s)(h:0<=y)(hM:y<=M)(F:∀c,0<=c->0<=T c/\T c<=c*M)(k:Nat)(c:Int)(hc:0<=c):0<=R T s y k c/\R T s y k c<=c*M:=by
 obtain⟨n,h1,Y,I⟩:=EZ T s y k c hc
 rw [I]
 have W:=F (c-n*s) Oa
 have U:0<=(n:Int)*y:=Int.mul_nonneg Oa h
 have O:(n:Int)*y<=n*s*M:=by
   have Z:(n:Int)*y<=n*M:=Int.mul_le_mul_of_nonneg_left hM Oa
   have a2:(n:Int)*1<=n*s:=Int.mul_le_mul_of_nonneg_left D Oa
   have J:(n:Int)*1*M<=n*s*M:=Int.mul_le_mul_of_nonneg_right a2 Oa
   rw [Int.mul_one] at J
   omega
 have N:(c-n*s)*M=c*M-n*s*M:=Int.sub_mul _ _ _
 omega
def Tab(p:cO)(y:Of):Nat->Int->Int
  |0,_=>0
  |j+1,c=>R (Tab p y j) (p.L j+p.aV) (y j) (p.D j).toNat c
theorem Zal{p:cO}(h:p.Ok){y:Of}{M:Int}(hM:0<=M)(D:∀k,0<=k->k<p.m->0<=y k/\y k<=M):∀(j:Nat),(j:Int)<=p.m->∀c,0<=c->0<=Tab p y j c/\Tab p y j c<=c*M
 |0,_,c,hc=>⟨Int.le_refl _,Int.mul_nonneg hc hM⟩
 | j+1,hj,c,hc=>by
   have h1:=h.all j Oa Oa
   unfold cO.each at h1
   have I:=h.k1
   have F:=D j Oa Oa
   exact MF Oa F.1 F.2 (fun c hc=>Zal h hM D j Oa c hc) _ c hc
def VK(p:cO)(y:Of):Int:=Tab p y p.m.toNat (p.bP+p.aV)
theorem Zp{α:Type}(f:Int->α)(k:Int)(x:α):upd f k x k=x:=by simp [upd]
theorem upd_ne{α:Type}(f:Int->α){k:Int}(x:α)(h:j≠k):upd f k x j=f j:=by simp [upd,h]
theorem Yw{a b:Int}(h:0<=a)(F:1<=b):0<=a.tdiv b/\a.tdiv b<=a/\a<(a.tdiv b+1)*b/\a.tdiv b*b<=a:=by
 rw [Int.tdiv_eq_ediv_of_nonneg h]
 have h1:=Int.ediv_nonneg h (show 0<=b by omega)
 have U:=Int.mul_ediv_add_emod a b
 have O:=Int.emod_nonneg a (show b≠0 by omega)
 have N:=Int.emod_lt_of_pos a (show 0<b by omega)
 have J:(a/b+1)*b=b*(a/b)+b:=by rw [Int.add_mul,Int.one_mul,Int.mul_comm]
 have I:a/b*b=b*(a/b):=Int.mul_comm _ _
 have D:a/b<=a:=Int.ediv_le_self _ h
 refine⟨h1,D,?_,?_⟩<;>omega
def V2(p:cO)(y:Of):Prop:=∀k,0<=k->k<p.m->0<=y k/\y k<=1073741824
theorem ZqQ{p:cO}(h:p.Ok){y:Of}(D:V2 p y)(I:0<=i)(h1:i<p.m)(k:Nat){c:Int}(hc:0<=c):0<=R (Tab p y i.toNat) (p.L i+p.aV) (y i) k c/\R (Tab p y i.toNat) (p.L i+p.aV) (y i) k c<=c*1073741824:=by
 have J:=h.all i I h1
 unfold cO.each at J
 have N:=h.k1
 have F:=D i I h1
 exact MF Oa F.1 F.2 (fun c hc=>Zal h Oa D _ Oa c hc) k c hc
theorem CS{p:cO}(h:p.Ok)(y:Of){k:Int}(N:0<=i)(h1:i<p.m)(F:0<=k)(Y:k<=p.D i)(D:min (p.D i) ((p.bP+p.aV).tdiv (p.L i+p.aV))<=k)(W:0<=j)(I:j<=p.bP+p.aV):
   R (Tab p y i.toNat) (p.L i+p.aV) (y i) k.toNat j=Tab p y (i+1).toNat j:=by
 have J:=h.all i N h1
 unfold cO.each at J
 have h3:=h.k1
 have h4:=h.s1
 have e:(i+1).toNat=i.toNat+1:=Oa
 have U:((i.toNat:Nat):Int)=i:=Oa
 rw [e]
 simp only [Tab,U]
 by_cases hd:p.D i<=k
 {
 obtain rfl:k=p.D i:=Oa
 rfl}
 {
 have h5:=Yw (a:=p.bP+p.aV) (b:=p.L i+p.aV) Oa Oa
 have h6:(p.bP+p.aV).tdiv (p.L i+p.aV)<=k:=Oa
 have Z:((p.bP+p.aV).tdiv (p.L i+p.aV)+1)*(p.L i+p.aV)<=(k+1)*(p.L i+p.aV):=Int.mul_le_mul_of_nonneg_right Oa Oa
 have O:((k.toNat:Nat):Int)=k:=Oa
 exact(Zpd _ _ _ j k.toNat (by rw [O];omega) Oa _ Oa).symm}
theorem Zls{p:cO}(h:p.Ok)(y:Of){c:Int}(J:0<=i)(h1:i<p.m){k:Nat}{f:Of}(hc:p.L i+p.aV<=c)
   (D:∀j,0<=j->j<=c->f j=R (Tab p y i.toNat) (p.L i+p.aV) (y i) k j) {x:Int} (F:x=max (f c) (f (c-p.L i-p.aV)+y i)):x=R (Tab p y i.toNat) (p.L i+p.aV) (y i) (k+1) c:=by
 have I:=h.all i J h1
 unfold cO.each at I
 have N:=h.k1
 rw [O5 _ _ _ Oa k c Oa,if_pos hc,F,D c Oa Oa,D (c-p.L i-p.aV) Oa Oa]
 rw [show c-p.L i-p.aV=c-(p.L i+p.aV) by omega]
theorem ZqR{p:cO}(D:p.Ok)(y:Of)(I:0<=i)(h1:i<p.m)(k:Nat)(h:0<=j)(J:j<p.L i+p.aV):R (Tab p y i.toNat) (p.L i+p.aV) (y i) k j=R (Tab p y i.toNat) (p.L i+p.aV) (y i) (k+1) j:=by
 have F:=D.all i I h1
 unfold cO.each at F
 have N:=D.k1
 rw [O5 _ _ _ Oa k j h,if_neg Oa]
theorem YH{α:Type}(g:Int->α)(s:Nat):cat ((0:Int)*s) g g=g:=by
 funext j;simp only [cat,Int.zero_mul];split<;>simp
end Go.Proofs.Gw
namespace Go.Proofs.Gw
open Go Go.RowKit
variable {y:Of}
noncomputable def vH(p:cO)(n:Int)(y:Of)(q:Int):Int:=
  @ite _ (p.Ok/\pI n y q/\n=p.m) (Classical.propDecidable _) (if q<VK p y then 21 else 0) 1
theorem FN{p:cO}{n:Int}{q:Int}(h:¬p.Ok\/¬pI n y q\/n≠p.m):vH p n y q=1:=by
 unfold vH;rw [if_neg]
 rintro⟨h1,h2,h3⟩
 rcases h with h|h|h<;>exact h ‹_›
theorem OB{p:cO}{n:Int}{q:Int}(h1:p.Ok)(F:pI n y q)(D:n=p.m)(h:q<VK p y):vH p n y q=21:=by
 unfold vH;rw [if_pos ⟨h1,F,D⟩,if_pos h]
theorem JC{p:cO}{n:Int}{q:Int}(h1:p.Ok)(F:pI n y q)(D:n=p.m)(h:¬q<VK p y):vH p n y q=0:=by
 unfold vH;rw [if_pos ⟨h1,F,D⟩,if_neg h]
theorem U5{p:cO}{n:Int}{q:Int}(h:vH p n y q=0):p.Ok/\pI n y q/\n=p.m/\VK p y<=q:=by
 by_cases h1:p.Ok/\pI n y q/\n=p.m
 {
 by_cases h2:q<VK p y
 · rw [OB h1.1 h1.2.1 h1.2.2 h2] at h;omega
 · exact⟨h1.1,h1.2.1,h1.2.2,Oa⟩}
 {
 have:vH p n y q=1:=by unfold vH;rw [if_neg h1]
 omega}
def Tot(D y:Of):Nat->Int
  |0=>0
  |k+1=>Tot D y k+D k*y k
theorem Zje(D y:Of){i:Int}(h:0<=i):Tot D y (i+1).toNat=Tot D y i.toNat+D i*y i:=by
 rw [show(i+1).toNat=i.toNat+1 by omega]
 simp only [Tot]
 rw [show((i.toNat:Nat):Int)=i by omega]
theorem MP{a b A B:Int}(h1:0<=a)(F:a<=A)(h:0<=b)(D:b<=B):0<=a*b/\a*b<=A*B:=
 ⟨Int.mul_nonneg h1 h,Int.mul_le_mul F D h Oa⟩
theorem Zaj{D y:Of}{m A:Int}(F:0<=A)(h:∀k,0<=k->k<m->0<=D k*y k/\D k*y k<=A):∀k:Nat,(k:Int)<=m->0<=Tot D y k/\Tot D y k<=k*A
 |0,_=>by simp [Tot]
 | k+1,hk=>by
   have h1:=Zaj F h k Oa
   have I:=h k Oa Oa
   simp only [Tot]
   have e:((k+1:Nat):Int)*A=k*A+A:=by rw [Int.natCast_add,Int.add_mul];simp
   omega
theorem pI.Bc{p:cO}{n:Int}{q:Int}(h:pI n y q)(e:n=p.m):V2 p y:=fun k D h1=>h.2.2 k D Oa
theorem Q_{p:cO}(J:p.Ok)(I:V2 p y)(k:Int)(F:0<=k)(h1:k<p.m):0<=p.D k*y k/\p.D k*y k<=1073741824000:=by
 have h:=J.all k F h1
 unfold cO.each at h
 have D:=I k F h1
 have:=MP (A:=1000) (B:=1073741824) h.2.2.2.1 h.2.2.2.2 D.1 D.2
 omega
theorem Lh{p:cO}(F:p.Ok)(J:V2 p y)(k:Int)(I:0<=k)(h1:k<=p.m):0<=Tot p.D y k.toNat/\Tot p.D y k.toNat<=21474836480000:=by
 have h:=Zaj (D:=p.D) (y:=y) (m:=p.m) (A:=1073741824000) Oa (fun k I h1=>Q_ F J k I h1) k.toNat Oa
 have:=F.m2
 have e:((k.toNat:Nat):Int)=k:=Oa
 rw [e] at h
 omega
def Hr(p:cO)(y:Of)(q:Int):Int:=(Tot p.D y p.m.toNat+q-1).tdiv q
noncomputable def Xe(p:cO)(n:Int)(y:Of)(q:Int):Int:=if vH p n y q=0 then Hr p y q else 0
def GV(p:cO):Prop:=p.m<=25/\p.d<=25/\(p.Ok->(∀i,0<=i->i<p.d->p.D i<=30)/\p.m<=6/\p.bP<=12*p.L (p.m-1))
def y0:Of:=fun k=> [1,0].getD k.toNat 0
theorem two{P:Int->Prop}(h:P 0)(h1:P 1):∀i:Int,0<=i->i<2->P i:=fun i a b=>by
 have:i=0\/i=1:=Oa
 rcases this with rfl|rfl
 · exact h
 · exact h1
theorem Yl{p:cO}{n:Int}{q:Int}(h:vH p n y q=0):Xe p n y q=Hr p y q:=by unfold Xe;rw [if_pos h]
theorem Zo9{p:cO}{n:Int}{q:Int}(h:vH p n y q≠0):Xe p n y q=0:=by unfold Xe;rw [if_neg h]
def cO.with(p:cO)(f:Of):cO:=⟨p.m,p.L,p.d,f,p.bP,p.aV⟩
theorem Zj6{p:cO}(h:p.Ok){f:Of}(hf:∀k,0<=k->k<p.d->0<=f k/\f k<=p.D k):(p.with f).Ok:=
 ⟨h.m1,h.m2,h.d,h.s1,h.s2,h.k1,h.k2,fun i F h1=>by
   have D:i<p.m:=h1
   have I:=h.all i F D
   unfold cO.each at I⊢
   have J:=hf i F (by rw [h.d];exact D)
   simp only [cO.with]
   omega⟩
end Go.Proofs.Gw
namespace Go.Proofs.Gw
open Go Go.RowKit
variable {x:Int} {f:Of}
def snoc(f:Of)(n x:Int):Of:=fun k=>if k<n then f k else x
theorem ZR(f:Of)(n x:Int):cat (n*1) (ints f) (ints fun _=>x)=ints (snoc f n x):=by
 funext j;simp only [cat,ints,snoc,Int.mul_one];split<;>rfl
theorem Zt{n k:Int}(h:k<n):snoc f n x k=f k:=if_pos h
theorem Zu{n k:Int}(h:¬k<n):snoc f n x k=x:=if_neg h
theorem ZgC{g:Of}{i:Int}(h:∀k,0<=k->k<i->f k=g k)(F:x=g i):∀k,0<=k->k<i+1->snoc f i x k=g k:=fun k D I=>by
 by_cases e:k<i
 · rw [Zt e];exact h k D e
 · rw [Zu e,F];congr 1;omega
end Go.Proofs.Gw
namespace Go.Proofs.Gw
open Go Go.RowKit
variable {e i j r:Int} {vv:Ov} {v:Value} {w w' w0:World}
structure Tb where
  vars:Int
  den:Int
  nb:Int
  nf:Int
  nc:Int
  B:Of
  F:Of
  ln:Of
  C:Og
structure sO (w:World) (v:Value) (n:Int) (vv:Ov) (ln:Of) (f:Og):Prop where
  row:Row w v 1 n vv
  p:∀i,0<=i->i<n->Row w (vv i) 1 (ln i) (ints (f i))
  room:∀i,0<=i->i<n->UE (vv i)
theorem sO.below{w w':World}{v:Value}{n:Int}{vv:Ov}{ln:Of}{f:Og}(h:sO w v n vv ln f)(D:Below w.heap.size w w'):sO w' v n vv ln f:=⟨h.row.below D,fun i a b=>(h.p i a b).below D,h.room⟩
structure uI (w:World) (vB vF vC:Value) (vv:Ov) (t:Tb):Prop where
  B:Row w vB 1 t.nb (ints t.B)
  F:Row w vF 1 t.nf (ints t.F)
  C:sO w vC t.nc vv t.ln t.C
theorem uI.below{w w':World}{vB F I:Value}{vv:Ov}{t:Tb}(h:uI w vB F I vv t)(D:Below w.heap.size w w'):uI w' vB F I vv t:=⟨h.B.below D,h.F.below D,h.C.below D⟩
theorem Sat.lV{l:List iO}{E:TypeId}{n:Int}{ln:Of}{f:Og}(h:Sat w0 w l)(i:Nat)(hi:l[i]? =some (.sem (Frame.rows E n vv ln f))){k:Int}(F:0<=k)(D:k<n):UE (vv k):=
 ((h.holds _ (List.mem_of_getElem? hi)).1 k F D).roomy
theorem Sat.ref{l:List iO}{a:Addr}(h:Sat w0 w l)(hc:w0.cell? a=some v):w.cell? a=some v:=by
 rw [h.below.cell (World.block_lt_of_cell? w0 _ hc)];exact hc
def wo(f:Of)(n m:Int):Prop:=∀k,0<=k->k<n-> -m<=f k/\f k<=m
def vk(c:Of)(N:Int):Prop:=(∀i,0<=i->i<N->0<=c i/\c i<N)/\∀i j,0<=i->i<N->0<=j->j<N->c i=c j->i=j
theorem ZjJ{l:List Int}(D:l.Pairwise (· < ·))(hr:∀a∈l,0<=a/\a<l.length):∀i (h:i<l.length),l[i]=i:=by
 have low:∀i (h:i<l.length),(i:Int)<=l[i]:=by
   intro i
   induction i with
   |zero=>intro h;exact(hr _ (List.getElem_mem h)).1
   | succ i ih=>
     intro h
     have h1:=ih Oa
     have I:=List.pairwise_iff_getElem.1 D i (i+1) Oa h Oa
     omega
 have F:∀d i (h:i<l.length),l.length-1-i=d->l[i]<=i:=by
   intro d
   induction d with
   |zero=>intro i h hd;have:=(hr _ (List.getElem_mem h)).2;omega
   | succ d ih=>
     intro i h hd
     have h1:=ih (i+1) Oa Oa
     have I:=List.pairwise_iff_getElem.1 D i (i+1) h Oa Oa
     omega
 intro i h
 have:=low i h;have:=F _ i h rfl;omega
theorem Yp{c g:Of}{N:Int}(hN:0<=N)(hg:Zs g N=(Zs c N).mergeSort fun x y=>decide (x<=y)):(∀i,0<=i->i<N->g i=i)↔vk c N:=by
 have hl:(Zs c N).length=N.toNat:=Z0 c N
 have aa:(Zs g N).length=N.toNat:=Z0 g N
 have D:∀i (h:i<(Zs c N).length),(Zs c N)[i]=c i:=fun i h=>by simp [Zs]
 have I:∀i (h:i<(Zs g N).length),(Zs g N)[i]=g i:=fun i h=>by simp [Zs]
 have Y:(Zs g N).Perm (Zs c N):=by rw [hg];exact List.mergeSort_perm _ _
 constructor
 {
 intro h
 have J:(Zs g N).Nodup:=by
   refine List.pairwise_iff_getElem.2 fun i j hi U F=> ?_
   rw [I i hi,I j U,h i Oa Oa,h j Oa Oa];omega
 have W:(Zs c N).Nodup:=Y.nodup_iff.1 J
 refine⟨fun i O i1=> ?_,fun i j O i1 j0 j1 e=> ?_⟩
 {
 have hm:c i∈Zs c N:=VV.2 ⟨i,O,i1,rfl⟩
 obtain⟨k,k0,Z,e⟩:=VV.1 (Y.mem_iff.2 hm)
 rw [h k k0 Z] at e;omega}
 {
 rcases Int.lt_trichotomy i j with F|F|F
 · have:=List.pairwise_iff_getElem.1 W i.toNat j.toNat Oa Oa Oa
   rw [D _ Oa,D _ Oa,Int.toNat_of_nonneg O,Int.toNat_of_nonneg j0] at this
   exact absurd e this
 · exact F
 · have:=List.pairwise_iff_getElem.1 W j.toNat i.toNat Oa Oa Oa
   rw [D _ Oa,D _ Oa,Int.toNat_of_nonneg O,Int.toNat_of_nonneg j0] at this
   exact absurd e.symm this}}
 {
 intro h i O i1
 have W:(Zs c N).Nodup:=by
   refine List.pairwise_iff_getElem.2 fun i j hi U F e=> ?_
   rw [D i hi,D j U] at e
   have:=h.2 i j Oa Oa Oa Oa e;omega
 have J:(Zs g N).Nodup:=Y.nodup_iff.2 W
 have hs:(Zs g N).Pairwise (fun x y=>decide (x<=y)=true):=by rw [hg];exact List.pairwise_mergeSort (le:=fun x y:Int=>decide (x<=y)) (fun a b c h1 h2=>by simp only [decide_eq_true_eq] at*;omega) (fun a b=>by simp only [Bool.or_eq_true,decide_eq_true_eq];omega) (Zs c N)
 have hlt:(Zs g N).Pairwise (· < ·):=by
   refine List.pairwise_iff_getElem.2 fun i j hi U F=> ?_
   have h1:=List.pairwise_iff_getElem.1 hs i j hi U F
   have h2:=List.pairwise_iff_getElem.1 J i j hi U F
   simp only [decide_eq_true_eq] at h1
   omega
 have:=ZjJ hlt (fun a ha=>by
   obtain⟨k,k0,Z,e⟩:=VV.1 (Y.mem_iff.1 ha)
   have:=h.1 k k0 Z
   rw [aa];omega) i.toNat Oa
 rw [I _ Oa,Int.toNat_of_nonneg O] at this
 exact this}
theorem Vt{n m:Int}{F B:Of}(hn:0<=n)(hm:0<=m)(h:vk (cat n F B) (n+m)):vk (cat m B F) (m+n):=by
 have W:∀i,0<=i->i<m+n->∃j,0<=j/\j<n+m/\cat m B F i=cat n F B j/\(i<m->j=n+i)/\(¬i<m->j=i-m):=fun i U O=>by
   by_cases h:i<m
   · exact⟨n+i,Oa,Oa,by unfold cat;rw [if_pos h,if_neg Oa];congr 1;omega,fun _=>rfl,fun hh=>absurd h hh⟩
   · exact⟨i-m,Oa,Oa,by unfold cat;rw [if_neg h,if_pos Oa],fun hh=>absurd hh h,fun _=>rfl⟩
 refine⟨fun i U O=> ?_,fun i j U O Z Y e=> ?_⟩
 {
 obtain⟨j,Z,Y,e,_⟩:=W i U O
 have:=h.1 j Z Y
 rw [e];omega}
 {
 obtain⟨a,a0,a1,ea,N,J⟩:=W i U O
 obtain⟨b,b0,b1,eb,I,D⟩:=W j Z Y
 have:=h.2 a b a0 a1 b0 b1 (by rw [<-ea,<-eb,e])
 by_cases hi:i<m<;>by_cases hj:j<m
 · have:=N hi;have:=I hj;omega
 · have:=N hi;have:=D hj;omega
 · have:=J hi;have:=I hj;omega
 · have:=J hi;have:=D hj;omega}
def Tb.rowOk(t:Tb)(i:Int):Prop:=t.ln i=t.nf+1/\∀j,0<=j->j<t.ln i-> -1073741824<=t.C i j/\t.C i j<=1073741824
structure lK (t:Tb):Prop where
  n1:1<=t.nf
  n2:t.nf<=60
  m2:t.nb<=16
  v:t.vars=t.nf
  d1:1<=t.den
  d2:t.den<=1073741824
  c:t.nc=t.nb+1
  perm:vk (cat t.nf t.F t.B) (t.nf+t.nb)
  rows:∀i,0<=i->i<t.nc->t.rowOk i
theorem lK.cell{t:Tb}(h:lK t)(F:0<=i)(J:i<=t.nb)(D:0<=j)(I:j<=t.nf): -1073741824<=t.C i j/\t.C i j<=1073741824:=by
 have hc:=h.c
 have:=h.rows i F Oa
 exact this.2 j D (by rw [this.1];omega)
theorem lK.len{t:Tb}(h:lK t)(D:0<=i)(F:i<=t.nb):t.ln i=t.nf+1:=by
 have hc:=h.c
 exact(h.rows i D Oa).1
theorem lK.Gj{t:Tb}(h:lK t)(J:0<=i)(I:i<t.nf)(F:0<=j)(D:j<t.nf)(N:0<=t.nb)(e:t.F i=t.F j):i=j:=
 h.perm.2 i j J Oa F Oa (by unfold cat;rw [if_pos I,if_pos D];exact e)
theorem lK.wY{t:Tb}(h:lK t)(F:0<=i)(D:i<t.nf)(I:0<=t.nb):0<=t.F i/\t.F i<t.nf+t.nb:=by
 have:=h.perm.1 i F Oa
 unfold cat at this;rw [if_pos D] at this;exact this
theorem lK.Cc{t:Tb}(h:lK t)(F:0<=i)(D:i<t.nb):0<=t.B i/\t.B i<t.nf+t.nb:=by
 have hn:=h.n1
 have:=h.perm.1 (t.nf+i) Oa Oa
 unfold cat at this;rw [if_neg Oa,show t.nf+i-t.nf=i by omega] at this;exact this
theorem YM{a d:Int}(hd:1<=d){A:Int}(D: -A<=a/\a<=A): -A<=a.tdiv d/\a.tdiv d<=A:=by
 have h:=Int.natAbs_tdiv_le_natAbs a d
 omega
structure NAt (w:World) (v:Value) (n:Int) (vv:Ov) (ln:Of) (f:Og):Prop where
  row:Row w v 1 n vv
  p:∀i,0<=i->i<n->Row w (vv i) 1 (ln i) (ints (f i))
def tot(ln:Of):Nat->Int
  |0=>0
  |k+1=>tot ln k+ln k
def WQ(ln:Of)(f:Og):Nat->Int->Int
  |0=>fun _=>0
  |k+1=>cat (tot ln k) (WQ ln f k) (f k)
theorem Xy(ln:Of)(h:0<=i):tot ln (i+1).toNat=tot ln i.toNat+ln i:=by
 rw [show(i+1).toNat=i.toNat+1 by omega,tot,Int.toNat_of_nonneg h]
theorem xB(ln:Of)(f:Og)(h:0<=i):WQ ln f (i+1).toNat=cat (tot ln i.toNat) (WQ ln f i.toNat) (f i):=by
 rw [show(i+1).toNat=i.toNat+1 by omega,WQ,Int.toNat_of_nonneg h]
def ZK{α:Type}(a b:α):Int->α:=fun k=>if k=0 then a else b
theorem N9{a b:Value}{n m:Int}{f g:Of}(h:Row w v 1 2 (ZK a b))(F:Row w a 1 n (ints f))(D:Row w b 1 m (ints g)):NAt w v 2 (ZK a b) (ZK n m) (ZK f g):=
 ⟨h,fun i J I=>by
   by_cases e:i=0
   · subst e;exact F
   · have:i=1:=Oa
     subst this;exact D⟩
theorem Fz(n m:Int):tot (ZK n m) 2=n+m:=by simp [tot,ZK]
theorem VJ(n m:Int)(f g:Of){k:Int}(D:0<=k):WQ (ZK n m) (ZK f g) 2 k=cat n f g k:=by
 simp only [WQ,tot,ZK,cat,Int.zero_add]
 simp
 by_cases h:k<n
 · rw [if_pos h,if_pos h,if_neg Oa]
 · rw [if_neg h,if_neg h]
theorem vk.congr{c d:Of}{N:Int}(h:vk c N)(e:∀k,0<=k->k<N->c k=d k):vk d N:=
 ⟨fun i F D=>by rw [<-e i F D];exact h.1 i F D,fun i j F D J I O=>h.2 i j F D J I (by rw [e i F D,e j J I];exact O)⟩
theorem Sat.kept{l:List iO}{e:iO}(F:Sat w0 w l)(h:e.holds w0):e.holds w:=h.keep fun g D=>F.below.block g (h.lt D)
open Go.Sort in
theorem Zfm{P:Program}{w w0:World}{l1 l2:List iO}{fn:FuncId}(N:∀(p:Option Addr) (cap:Nat) (w:World),Calls P fn #[.slice p 0 cap] w fun e w'=>e= .returned (.tuple #[])/\w'=w)
   (c1:∀(blk off cap:Nat) (h:List Int) (w:World),Holds (Value.int .i64) w blk off h.toArray->blk<w.heap.size->h.length<4611686018427387904->
     Calls P fn #[.slice (some ⟨blk,off,none⟩) h.length cap] w fun e w'=>e= .returned (.tuple #[])/\∃n os,w'=grow (putRow (Value.int .i64) (Sort.ahead w n) blk off (h.mergeSort fun x y=>decide (x<=y)).toArray) os)
   {v:Value} {E:TypeId} {n:Int} {f:Of} (F:Sat w0 w (l1++ .own v 1 E n (ints f)::l2)):
   Calls P fn #[v] w fun e w'=>∃u,e= .returned u/\u= .tuple #[]/\∃g,Zs g n=((Zs f n).mergeSort fun x y=>decide (x<=y))/\Sat w0 w' (l1++ .own v 1 E n (ints g)::l2):=by
 obtain⟨O,h1,⟨rfl,rfl⟩|⟨g,cap,cur,rfl,_⟩⟩:=F.get
 · refine(N none 0 w).mono fun e w' ⟨he,hw⟩=>⟨_,he,rfl,f,by simp [Zs],by rw [hw];exact F⟩
 {
 obtain⟨J,hlt,_,_⟩:=F.held
 have D:=Z0 f n
 have:=c1 g 0 cap (Zs f n) w J hlt (by rw [D];omega)
 rw [D] at this
 refine this.mono fun e w' ⟨he,q,os,hw⟩=>⟨_,he,rfl,Fq ((Zs f n).mergeSort fun x y=>decide (x<=y)),?_,?_⟩
 {
 have I:=Zcv ((Zs f n).mergeSort fun x y=>decide (x<=y))
 rw [List.length_mergeSort,D,show((n.toNat:Nat):Int)=n by omega] at I
 exact I}
 · rw [hw]
   exact F.put (by rw [List.length_mergeSort,D])}
theorem X6{a b A B:Int}(I: -A<=a/\a<=A)(F: -B<=b/\b<=B): -(A*B)<=a*b/\a*b<=A*B:=by
 have h:=Int.natAbs_mul a b
 have h1:(a.natAbs:Int)<=A:=Oa
 have D:(b.natAbs:Int)<=B:=Oa
 have N:=Int.mul_le_mul h1 D Oa Oa
 have J:((a*b).natAbs:Int)=(a.natAbs:Int)*b.natAbs:=by rw [h,Int.natCast_mul]
 omega
def YD(t:Tb):Nat->Int
  |0=> -1
  |k+1=>if t.C (k+1) 0<0/\(YD t k<0\/t.B k<t.B (YD t k)) then k else YD t k
theorem YO(t:Tb):∀k:Nat,YD t k= -1\/(0<=YD t k/\YD t k<k)
 |0=> .inl rfl
 | k+1=>by
   have:=YO t k
   unfold YD;split<;>omega
theorem Vw(t:Tb)(h:0<=i):YD t (i+1).toNat=if t.C (i+1) 0<0/\(YD t i.toNat<0\/t.B i<t.B (YD t i.toNat)) then i else YD t i.toNat:=by
 rw [show(i+1).toNat=i.toNat+1 by omega,YD,Int.toNat_of_nonneg h]
theorem Uo(t:Tb):∀k:Nat,(YD t k= -1->∀i:Int,0<=i->i<k->0<=t.C (i+1) 0)/\(0<=YD t k->t.C (YD t k+1) 0<0)
 |0=>⟨fun _ i N h1=>Oa,fun h=>by unfold YD at h;omega⟩
 | k+1=>by
   obtain⟨h1,I⟩:=Uo t k
   have hr:=YO t k
   unfold YD
   by_cases hc:t.C (k+1) 0<0/\(YD t k<0\/t.B k<t.B (YD t k))
   · rw [if_pos hc];exact⟨fun h=>Oa,fun _=>hc.1⟩
   {
   rw [if_neg hc]
   refine⟨fun h i F J=> ?_,I⟩
   by_cases e:i=k
   {
   subst e
   rcases Int.lt_or_le (t.C (k+1) 0) 0 with D|D
   · exact absurd ⟨D,.inl Oa⟩ hc
   · exact D}
   · exact h1 h i F Oa}
def Yc(t:Tb)(r:Int):Nat->Int
  |0=> -1
  | k+1=>if t.C (r+1) (k+1)<=0 then Yc t r k
    else if Yc t r k<0 then k
    else if t.C 0 (k+1)*t.C (r+1) (Yc t r k+1)<t.C 0 (Yc t r k+1)*t.C (r+1) (k+1)\/
      (t.C 0 (k+1)*t.C (r+1) (Yc t r k+1)=t.C 0 (Yc t r k+1)*t.C (r+1) (k+1)/\t.F k<t.F (Yc t r k)) then k else Yc t r k
theorem Wy(t:Tb)(r:Int):∀k:Nat,Yc t r k= -1\/(0<=Yc t r k/\Yc t r k<k)
 |0=> .inl rfl
 | k+1=>by
   have:=Wy t r k
   unfold Yc;split<;>(try split)<;>(try split)<;>omega
theorem XG(t:Tb)(r:Int)(h:0<=j):Yc t r (j+1).toNat=if t.C (r+1) (j+1)<=0 then Yc t r j.toNat
   else if Yc t r j.toNat<0 then j
   else if t.C 0 (j+1)*t.C (r+1) (Yc t r j.toNat+1)<t.C 0 (Yc t r j.toNat+1)*t.C (r+1) (j+1)\/
     (t.C 0 (j+1)*t.C (r+1) (Yc t r j.toNat+1)=t.C 0 (Yc t r j.toNat+1)*t.C (r+1) (j+1)/\t.F j<t.F (Yc t r j.toNat)) then j else Yc t r j.toNat:=by
 rw [show(j+1).toNat=j.toNat+1 by omega,Yc,Int.toNat_of_nonneg h]
def Tb.costs(t:Tb):Prop:=∀j,1<=j->j<=t.nf->0<=t.C 0 j
def ug(t:Tb)(r c:Int)(d:Bool)(e:Int):Prop:=
  (¬(lK t/\t.costs)/\r=0/\c=0/\d=false/\e=1)\/
  (lK t/\t.costs/\YD t t.nb.toNat<0/\r=0/\c=0/\d=true/\e=0)\/
  (lK t/\t.costs/\0<=YD t t.nb.toNat/\Yc t (YD t t.nb.toNat) t.nf.toNat<0/\r=0/\c=0/\d=false/\e=19)\/
  (lK t/\t.costs/\0<=YD t t.nb.toNat/\0<=Yc t (YD t t.nb.toNat) t.nf.toNat/\r=YD t t.nb.toNat/\c=Yc t (YD t t.nb.toNat) t.nf.toNat/\d=false/\e=0)
def Yh(t:Tb)(r s i j:Int):Int:=if i=r/\j=s then t.den else if i=r then-t.C i j else if j=s then t.C i j else(t.C r s*t.C i j-t.C i s*t.C r j).tdiv t.den
def piv(t:Tb)(row col:Int):Tb where
  vars:=t.vars
  den:=if t.C (row+1) (col+1)<0 then-t.C (row+1) (col+1) else t.C (row+1) (col+1)
  nb:=t.nb
  nf:=t.nf
  nc:=t.nc
  B:=upd t.B row (t.F col)
  F:=upd t.F col (t.B row)
  ln:=t.ln
  C:=fun i j=>if t.C (row+1) (col+1)<0 then-Yh t (row+1) (col+1) i j else Yh t (row+1) (col+1) i j
def Tb.zero:Tb:=⟨0,0,0,0,0,fun _=>0,fun _=>0,fun _=>0,fun _ _=>0⟩
def Tj(t:Tb)(row col:Int):Prop:=lK t/\0<=row/\row<t.nb/\0<=col/\col<t.nf/\t.C (row+1) (col+1)≠0
def JD(t:Tb)(r s i j:Int):Prop:=i≠r->j≠s->(t.C r s*t.C i j-t.C i s*t.C r j).tmod t.den=0
def EO(t:Tb)(row col:Int):Prop:=∀i j,0<=i->i<=t.nb->0<=j->j<=t.nf->JD t (row+1) (col+1) i j
def JB(t:Tb)(row col:Int)(t':Tb)(e:Int):Prop:=
  (¬Tj t row col/\t'=Tb.zero/\e=1)\/(Tj t row col/\¬EO t row col/\t'=Tb.zero/\e=4)\/(Tj t row col/\EO t row col/\¬lK (piv t row col)/\t'=Tb.zero/\e=2)\/
    (Tj t row col/\EO t row col/\lK (piv t row col)/\t'=piv t row col/\e=0)
theorem ZgT{t:Tb}(h:lK t){s:Int}(J:0<=r)(I:r<=t.nb)(F:0<=s)(D:s<=t.nf)(W:0<=i)(U:i<=t.nb)(O:0<=j)(N:j<=t.nf): -9223372036854775807<=Yh t r s i j/\Yh t r s i j<=9223372036854775807:=by
 have a1:=h.cell J I F D
 have a2:=h.cell W U O N
 have a3:=h.cell W U F D
 have Z:=h.cell J I O N
 have m1:=X6 a1 a2
 have m2:=X6 a3 Z
 have Y:=h.d1;have d2:=h.d2
 have q:=YM (a:=t.C r s*t.C i j-t.C i s*t.C r j) (d:=t.den) (A:=2305843009213693952) Y Oa
 unfold Yh
 split
 · omega
 {
 split
 · omega
 · split<;>omega}
inductive Run:Nat->Tb->Tb->Int->Prop
  |stop {k:Nat} {t:Tb} {r c e:Int} {d:Bool} (h:ug t r c d e) (hd:d=true\/e≠0):Run k t t e
  |lim {t:Tb} {r c:Int} (h:ug t r c false 0):Run 0 t t 9
  |bad {k:Nat} {t t':Tb} {r c e:Int} (h:ug t r c false 0) (hp:JB t r c t' e) (he:e≠0):Run (k+1) t t e
  |go {k:Nat} {t t' u:Tb} {r c e:Int} (h:ug t r c false 0) (hp:JB t r c t' 0) (hr:Run k t' u e):Run (k+1) t u e
structure Lp where
  n:Int
  m:Int
  k:Int
  c:Of
  ln:Of
  A:Og
  b:Of
structure BQ (w:World) (vc vA vb:Value) (vv:Ov) (p:Lp):Prop where
  c:Row w vc 1 p.n (ints p.c)
  A:sO w vA p.m vv p.ln p.A
  b:Row w vb 1 p.k (ints p.b)
theorem BQ.below{w w':World}{vc vA vb:Value}{vv:Ov}{p:Lp}(h:BQ w vc vA vb vv p)(D:Below w.heap.size w w'):BQ w' vc vA vb vv p:=⟨h.c.below D,h.A.below D,h.b.below D⟩
structure wL (p:Lp):Prop where
  n1:1<=p.n
  n2:p.n<=60
  m2:p.m<=16
  k:p.k=p.m
  c:∀j,0<=j->j<p.n->0<=p.c j/\p.c j<=1000000
  b:∀i,0<=i->i<p.m-> -1000000<=p.b i/\p.b i<=1000000
  rows:∀i,0<=i->i<p.m->p.ln i=p.n/\∀j,0<=j->j<p.n-> -1000000<=p.A i j/\p.A i j<=1000000
def Zx(p:Lp):Tb:=⟨p.n,1,p.m,p.n,p.m+1,fun i=>p.n+i,fun j=>j,fun _=>p.n+1,fun i j=>if i=0 then(if j=0 then 0 else p.c (j-1)) else if j=0 then-p.b (i-1) else p.A (i-1) (j-1)⟩
def vW(p:Lp)(t:Tb)(e:Int):Prop:=(¬wL p/\t=Tb.zero/\e=1)\/(wL p/\t=Zx p/\e=0)
theorem Zo8(d:Bool):Value.bool d=B (d=true):=by
 cases d
 · exact(ZB (by simp)).symm
 · exact(ZV rfl).symm
theorem Ym{l:List iO}{vB U W J F I:Value}{D:Ov}{t u:Tb}{E1 E2 E3 Z:TypeId}(hO:uI w vB U W vv t)(hS:Sat w0 w l)(i:Nat)
   (hi:l[i]? =some (.sem (Frame.alt (u=t/\J=vB/\F=U/\I=W/\D=vv) (Frame.rG [.own J 1 E1 u.nb (ints u.B),.own F 1 E2 u.nf (ints u.F),.own I 1 E3 u.nc D,.sem (Frame.rows Z u.nc D u.ln u.C)])))):uI w J F I D u:=by
 rcases hS.holds _ (List.mem_of_getElem? hi) with h|⟨h,_⟩
 · obtain⟨rfl,rfl,rfl,rfl,rfl⟩:=h;exact hO
 {
 have Y:=h (.sem (Frame.rows Z u.nc D u.ln u.C)) (by simp)
 exact⟨(h (.own J 1 E1 u.nb (ints u.B)) (by simp)).row,(h (.own F 1 E2 u.nf (ints u.F)) (by simp)).row,(h (.own I 1 E3 u.nc D) (by simp)).row,fun k O N=>(Y.1 k O N).row,fun k O N=>(Y.1 k O N).roomy⟩}
theorem ug.rng{t:Tb}{c:Int}{d:Bool}(h:ug t r c d e): -1<=r/\r<=t.nb.toNat/\ -1<=c/\c<=t.nf.toNat:=by
 have h1:=YO t t.nb.toNat
 have D:=Wy t (YD t t.nb.toNat) t.nf.toNat
 rcases h with⟨_,h3,h4,_⟩|⟨_,_,_,h3,h4,_⟩|⟨_,_,_,_,h3,h4,_⟩|⟨_,_,_,_,h3,h4,_⟩<;>omega
theorem ug.Am{t:Tb}{c:Int}{d:Bool}(h:ug t r c d e)(D:e≠1):lK t/\t.costs:=by
 rcases h with⟨_,_,_,_,h⟩|⟨h,h2,_⟩|⟨h,h2,_⟩|⟨h,h2,_⟩
 · exact absurd h D
 · exact⟨h,h2⟩
 · exact⟨h,h2⟩
 · exact⟨h,h2⟩
theorem Run.uP{k:Nat}{t u:Tb}(h:Run k t u e):u.nb=t.nb/\u.nf=t.nf/\u.nc=t.nc/\u.vars=t.vars:=by
 induction h with
 |stop=>exact⟨rfl,rfl,rfl,rfl⟩
 |lim=>exact⟨rfl,rfl,rfl,rfl⟩
 |bad=>exact⟨rfl,rfl,rfl,rfl⟩
 | go h hp hr ih=>
   rcases hp with⟨_,_,h⟩|⟨_,_,_,h⟩|⟨_,_,_,_,h⟩|⟨_,_,_,rfl,_⟩
   · omega
   · omega
   · omega
   · exact ih
theorem Run.fin{k:Nat}{t u:Tb}(h:Run k t u e)(I:e=0\/e=19):lK u/\u.costs/\(e=0->YD u u.nb.toNat<0)/\(e=19->0<=YD u u.nb.toNat/\Yc u (YD u u.nb.toNat) u.nf.toNat<0):=by
 induction h with
 | stop h hd=>
   have:=h.Am Oa
   refine⟨this.1,this.2,fun F=> ?_,fun F=> ?_⟩
   {
   rcases h with⟨_,_,_,_,h⟩|⟨_,_,h,_⟩|⟨_,_,_,_,_,_,_,h⟩|⟨_,_,_,_,_,_,D,h⟩
   · omega
   · exact h
   · omega
   · rcases hd with hd|hd
     · rw [hd] at D;cases D
     · exact absurd F hd}
   {
   rcases h with⟨_,_,_,_,h⟩|⟨_,_,_,_,_,_,h⟩|⟨_,_,h1,h2,_⟩|⟨_,_,_,_,_,_,_,h⟩
   · omega
   · omega
   · exact⟨h1,h2⟩
   · omega}
 |lim=>omega
 | bad h hp he'=>
   rcases hp with⟨_,_,h⟩|⟨_,_,_,h⟩|⟨_,_,_,_,h⟩|⟨_,_,_,_,h⟩<;>omega
 |go h hp hr ih=>exact ih I
def Af(u:Tb):Nat->Int->Int
  |0=>fun _=>0
  |k+1=>if u.B k<u.vars then upd (Af u k) (u.B k) (u.C (k+1) 0) else Af u k
def Ce(u:Tb):Nat->Int->Int
  |0=>fun _=>0
  |k+1=>if u.vars<=u.F k then upd (Ce u k) (u.F k-u.vars) (u.C 0 (k+1)) else Ce u k
theorem _W(u:Tb)(h:0<=i):Af u (i+1).toNat=if u.B i<u.vars then upd (Af u i.toNat) (u.B i) (u.C (i+1) 0) else Af u i.toNat:=by
 rw [show(i+1).toNat=i.toNat+1 by omega,Af,Int.toNat_of_nonneg h]
theorem _X(u:Tb)(h:0<=i):Ce u (i+1).toNat=if u.vars<=u.F i then upd (Ce u i.toNat) (u.F i-u.vars) (u.C 0 (i+1)) else Ce u i.toNat:=by
 rw [show(i+1).toNat=i.toNat+1 by omega,Ce,Int.toNat_of_nonneg h]
structure So where
  n:Int
  m:Int
  X:Of
  Y:Of
  val:Int
  den:Int
def So.zero:So:=⟨0,0,fun _=>0,fun _=>0,0,0⟩
def X1(u:Tb):So:=⟨u.nf,u.nb,Af u u.nb.toNat,Ce u u.nf.toNat,u.C 0 0,u.den⟩
def vZ(p:Lp)(s:So)(e:Int):Prop:=(¬wL p/\s=So.zero/\e=1)\/(wL p/\∃u,Run 1000 (Zx p) u e/\((e≠0/\s=So.zero)\/(e=0/\s=X1 u)))
end Go.Proofs.Gw
namespace Go.Proofs.Gw
open Go Go.RowKit
variable {i:Int} {a f y:Of}
def Zd(f:Of):Nat->Int
  |0=>0
  |k+1=>Zd f k+f k
theorem ZI(f:Of)(h:0<=i):Zd f (i+1).toNat=Zd f i.toNat+f i:=by
 rw [show(i+1).toNat=i.toNat+1 by omega]
 simp only [Zd]
 rw [show((i.toNat:Nat):Int)=i by omega]
theorem Yb{f g:Of}:∀{n:Nat},(∀i,0<=i->i<(n:Int)->f i<=g i)->Zd f n<=Zd g n
 |0,_=>Int.le_refl _
 | n+1,h=>by
   have h1:=Yb (n:=n) (fun i D h1=>h i D Oa)
   have F:=h n Oa Oa
   simp only [Zd];omega
theorem Zh{g:Of}{n:Nat}(h:∀i,0<=i->i<(n:Int)->f i=g i):Zd f n=Zd g n:=
 Int.le_antisymm (Yb fun i D h1=>Int.le_of_eq (h i D h1)) (Yb fun i D h1=>Int.le_of_eq (h i D h1).symm)
theorem ZH:∀n:Nat,Zd (fun _=>0) n=0
 |0=>rfl
 |n+1=>by simp only [Zd,ZH n];rfl
theorem Z8{n:Nat}(h:∀i,0<=i->i<(n:Int)->0<=f i):0<=Zd f n:=by
 have:=Yb (f:=fun _=>0) h
 rw [ZH] at this;exact this
theorem W4(c:Int):∀n:Nat,Zd (fun _=>c) n=n*c
 |0=>by simp [Zd]
 |n+1=>by simp only [Zd,W4 c n];rw [Int.natCast_add,Int.add_mul];simp
theorem W5{A:Int}{n:Nat}(h:∀i,0<=i->i<(n:Int)->0<=f i/\f i<=A):0<=Zd f n/\Zd f n<=n*A:=by
 refine⟨Z8 fun i D h1=>(h i D h1).1,?_⟩
 rw [<-W4];exact Yb fun i D h1=>(h i D h1).2
theorem Vn(f g:Of):∀n:Nat,Zd (fun i=>f i+g i) n=Zd f n+Zd g n
 |0=>rfl
 |n+1=>by simp only [Zd,Vn f g n];omega
theorem XF(f:Of)(c:Int):∀n:Nat,Zd (fun i=>f i*c) n=Zd f n*c
 |0=>by simp [Zd]
 |n+1=>by simp only [Zd,XF f c n];rw [Int.add_mul]
theorem TZ(f:Og)(n:Nat):∀m:Nat,Zd (fun k=>Zd (fun i=>f i k) n) m=Zd (fun i=>Zd (fun k=>f i k) m) n
 |0=>(ZH n).symm
 | m+1=>by
   simp only [Zd,TZ f n m]
   rw [<-Vn]
theorem Xm{n:Nat}{j:Int}(I:0<=j)(h1:j<(n:Int))(h:∀i,0<=i->i<(n:Int)->0<=f i):f j<=Zd f n:=by
 induction n with
 |zero=>omega
 | succ n ih=>
   simp only [Zd]
   have F:=h n Oa Oa
   have D:=Z8 (n:=n) (fun i a b=>h i a Oa)
   by_cases e:j=n
   · subst e;omega
   · have:=ih Oa (fun i a b=>h i a Oa);omega
theorem WS(D y:Of):∀n:Nat,Tot D y n=Zd (fun i=>D i*y i) n
 |0=>rfl
 |n+1=>by simp only [Tot,Zd,WS D y n]
def ZD(p:cO)(a:Of)(n:Nat):Int:=Zd (fun i=>a i*(p.L i+p.aV)) n
structure nN (p:cO) (n:Int) (a:Of):Prop where
  ok:p.Ok
  eq:n=p.m
  all:∀i,0<=i->i<p.m->0<=a i/\a i<=2000
  used:ZD p a p.m.toNat<=p.bP+p.aV
structure CV (p:cO) (n:Int) (len:Of) (pt:Og) (cnt:Of):Prop where
  ok:p.Ok
  few:n<=1000
  all:∀i,0<=i->i<n->nN p (len i) (pt i)/\1<=cnt i/\cnt i<=1000
def Wg(pt:Og)(cnt:Of)(n:Nat)(k:Int):Int:=Zd (fun i=>pt i k*cnt i) n
structure CW (p:cO) (n:Int) (len:Of) (pt:Og) (cnt:Of):Prop where
  s:CV p n len pt cnt
  all:∀k,0<=k->k<p.m->p.D k<=Wg pt cnt n.toNat k
theorem R8{p:cO}(h:p.Ok)(I:0<=i)(h1:i<p.m)(D:0<=a i/\a i<=2000):0<=a i*(p.L i+p.aV)/\a i*(p.L i+p.aV)<=4200000:=by
 have F:=h.all i I h1
 unfold cO.each at F
 have:=h.k1;have:=h.k2;have:=h.s2
 have:=MP (a:=a i) (b:=p.L i+p.aV) (A:=2000) (B:=2100) D.1 D.2 Oa Oa
 omega
theorem TV{p:cO}(D:p.Ok)(I:∀i,0<=i->i<p.m->0<=a i/\a i<=2000){n:Int}(J:0<=n)(h1:n<=p.m):0<=ZD p a n.toNat/\ZD p a n.toNat<=84000000:=by
 have h:=W5 (f:=fun i=>a i*(p.L i+p.aV)) (A:=4200000) (n:=n.toNat) (fun i F N=>R8 D F Oa (I i F Oa))
 have:=D.m2
 unfold ZD;omega
theorem ZbM{p:cO}(h:p.Ok){y x:Of}(D:∀i,0<=i->i<p.m->0<=x i/\x i<=p.D i):∀(j:Nat),(j:Int)<=p.m->∀c,Zd (fun i=>x i*(p.L i+p.aV)) j<=c->Zd (fun i=>x i*y i) j<=Tab p y j c
 |0,_,c,_=>Int.le_refl _
 | j+1,hj,c,hc=>by
   have h1:=D j Oa Oa
   have J:=h.all j Oa Oa
   unfold cO.each at J
   have N:=h.k1
   simp only [Zd] at hc⊢
   have U:=ZbM h D (y:=y) j Oa (c-x j*(p.L j+p.aV)) Oa
   have e:(((x j).toNat:Nat):Int)=x j:=Oa
   have O:0<=Zd (fun i=>x i*(p.L i+p.aV)) j:=Z8 fun i I W=>by
     have:=D i I Oa
     have F:=h.all i I Oa
     unfold cO.each at F
     exact Int.mul_nonneg this.1 Oa
   have F:=Fj (Tab p y j) (p.L j+p.aV) (y j) (p.D j).toNat (x j).toNat c Oa (by rw [e];omega)
   rw [e] at F
   simp only [Tab];omega
theorem ZjZ{n:Nat}{c:Of}{D:Int}(O:0<=D)(N:∀i,0<=i->i<(n:Int)->0<=a i)(hc:∀i,0<=i->i<(n:Int)->1<=c i)(h:D<=Zd (fun i=>a i*c i) n):D<=Zd (fun i=>min (a i) D*c i) n:=by
 have I:∀i,0<=i->i<(n:Int)->0<=min (a i) D*c i:=fun i F h1=>by
   have:=N i F h1;have:=hc i F h1
   exact Int.mul_nonneg Oa Oa
 by_cases hex:∃i,0<=i/\i<(n:Int)/\D<=a i
 {
 obtain⟨i,F,h1,J⟩:=hex
 have W:=Xm (f:=fun i=>min (a i) D*c i) F h1 I
 have U:min (a i) D=D:=Oa
 simp only [U] at W
 have Y:D*1<=D*c i:=Int.mul_le_mul_of_nonneg_left (hc i F h1) O
 omega}
 {
 have:Zd (fun i=>min (a i) D*c i) n=Zd (fun i=>a i*c i) n:=Zh fun i F h1=>by
   have J:¬D<=a i:=fun J=>hex ⟨i,F,h1,J⟩
   rw [show min (a i) D=a i by omega]
 omega}
theorem RX{p:cO}{n:Int}(h:nN p n a):Zd (fun k=>min (a k) (p.D k)*y k) p.m.toNat<=VK p y:=by
 have D:=h.ok
 have J:=D.m1;have N:=D.k1
 refine ZbM D (fun i F h1=> ?_) p.m.toNat Oa _ ?_
 {
 have:=h.all i F h1
 have I:=D.all i F h1
 unfold cO.each at I
 omega}
 {
 refine Int.le_trans (Yb fun i F h1=> ?_) h.used
 have:=h.all i F Oa
 have I:=D.all i F Oa
 unfold cO.each at I
 exact Int.mul_le_mul_of_nonneg_right Oa Oa}
theorem Zfl{p:cO}{n:Int}{q:Int}(h:vH p n y q=0){l:Int}{len:Of}{pt:Og}{cnt:Of}(hl:0<=l)(hM:CW p l len pt cnt):
   Xe p n y q<=Zd cnt l.toNat:=by
 obtain⟨O,I,hn,hw⟩:=U5 h
 have hm:=O.m1;have hq:=I.1
 have F:=I.Bc hn
 rw [Yl h]
 have bL:Tot p.D y p.m.toNat<=Zd cnt l.toNat*q:=by
   rw [WS]
   have U:Zd (fun k=>p.D k*y k) p.m.toNat<=Zd (fun k=>Zd (fun i=>min (pt i k) (p.D k)*cnt i*y k) l.toNat) p.m.toNat:=Yb fun k N k1=>by
     have h1:=hM.all k N Oa
     have h2:=O.all k N Oa
     unfold cO.each at h2
     have h3:=ZjZ (n:=l.toNat) (a:=fun i=>pt i k) (c:=cnt) (D:=p.D k) Oa (fun i J W=>((hM.s.all i J Oa).1.all k N Oa).1) (fun i J W=>(hM.s.all i J Oa).2.1) h1
     have Z:=F k N Oa
     rw [XF (fun i=>min (pt i k) (p.D k)*cnt i) (y k)]
     exact Int.mul_le_mul_of_nonneg_right h3 Z.1
   rw [TZ (fun i k=>min (pt i k) (p.D k)*cnt i*y k)] at U
   refine Int.le_trans U ?_
   rw [<-XF]
   refine Yb fun i J W=> ?_
   have Y:=hM.s.all i J Oa
   have h6:=RX (y:=y) Y.1
   have e:Zd (fun k=>min (pt i k) (p.D k)*cnt i*y k) p.m.toNat=Zd (fun k=>min (pt i k) (p.D k)*y k) p.m.toNat*cnt i:=by
     rw [<-XF]
     exact Zh fun k _ _=>by rw [Int.mul_assoc,Int.mul_comm (cnt i),<-Int.mul_assoc]
   rw [e,Int.mul_comm (cnt i)]
   exact Int.mul_le_mul_of_nonneg_right Oa Oa
 have h0:=(Lh O F p.m Oa Oa).1
 unfold Hr
 rw [Int.tdiv_eq_ediv_of_nonneg Oa]
 have h7:(Tot p.D y p.m.toNat+q-1)/q<Zd cnt l.toNat+1:=Int.ediv_lt_of_lt_mul Oa (by rw [Int.add_mul];omega)
 omega
def Ze(pv:Ov)(cnt:Of):Ov:=fun k=>if k%2=0 then pv (k/2) else .int Oi (cnt (k/2))
theorem Zjr(pv:Ov)(cnt:Of){k:Int}(h:k=2*i):Ze pv cnt k=pv i:=by
 subst h;unfold Ze;rw [if_pos Oa];congr 1;omega
theorem Si(pv:Ov)(cnt:Of){k:Int}(h:k=2*i+1):Ze pv cnt k= .int Oi (cnt i):=by
 subst h;unfold Ze;rw [if_neg Oa];congr 2;omega
end Go.Proofs.Gw
namespace Go.Proofs.Gw
open Go Go.RowKit
theorem vW.ok{p:Lp}{t:Tb}{e:Int}(h:vW p t e)(D:e=0):wL p/\t=Zx p:=by
 rcases h with⟨_,_,h⟩|⟨h1,h2,_⟩
 · omega
 · exact⟨h1,h2⟩
theorem vW.err{p:Lp}{t:Tb}{e:Int}(h:vW p t e)(D:e≠0):¬wL p/\e=1:=by
 rcases h with⟨h1,_,h⟩|⟨h1,h2,h⟩
 · exact⟨h1,h⟩
 · exact absurd h D
def ZG(f g:Of)(n:Nat):Int:=Zd (fun k=>f k*g k) n
theorem U2(f g:Of){i:Int}(h:0<=i):ZG f g (i+1).toNat=ZG f g i.toNat+f i*g i:=ZI _ h
def Nv(A:Og)(y:Of)(n:Nat)(j:Int):Int:=Zd (fun i=>A i j*y i) n
structure Hq (p:Lp) (s:So):Prop where
  ok:wL p
  d1:1<=s.den
  d2:s.den<=1073741824
  v: -1073741824<=s.val/\s.val<=1073741824
  n:s.n=p.n
  m:s.m=p.m
  X:∀j,0<=j->j<p.n->0<=s.X j/\s.X j<=1073741824
  Y:∀i,0<=i->i<p.m->0<=s.Y i/\s.Y i<=1073741824
  rows:∀i,0<=i->i<p.m->p.b i*s.den<=ZG (p.A i) s.X p.n.toNat
  cols:∀j,0<=j->j<p.n->Nv p.A s.Y p.m.toNat j<=p.c j*s.den
  cX:ZG p.c s.X p.n.toNat=s.val
  bY:ZG p.b s.Y p.m.toNat=s.val
variable {e i j:Int} {g:Of} {k:Nat} {t:Tb}
theorem Z1{f:Of}{s:Int}:∀{n:Nat},0<=s->s<n->Zd f n=f s+Zd (fun j=>if j=s then 0 else f j) n
 |0,h0,h1=>Oa
 | n+1,h0,h1=>by
   rw [Zd,Zd]
   by_cases e:s=n
   · have:Zd (fun j=>if j=s then 0 else f j) n=Zd f n:=Zh fun i D h=>by rw [if_neg Oa]
     rw [this,if_pos e.symm,e];omega
   · have:=Z1 (f:=f) (s:=s) (n:=n) h0 Oa
     rw [this,if_neg Oa];omega
theorem Xn{f g h:Of}{D A B:Int}:∀{n:Nat},(∀i,0<=i->i<(n:Int)->D*h i=A*f i-B*g i)->D*Zd h n=A*Zd f n-B*Zd g n
 |0,_=>by simp [Zd]
 | n+1,hh=>by
   have h1:=Xn (n:=n) (fun i F I=>hh i F Oa)
   have J:=hh n Oa Oa
   simp only [Zd]
   grind
def Wc(t:Tb)(k0:Int)(v:Of)(i:Int):Int:=t.C i 0*k0+Zd (fun j=>t.C i (j+1)*v (t.F j)) t.nf.toNat
def XX(t:Tb)(z:Int)(v:Of)(i:Int):Int:=if i=0 then z else v (t.B (i-1))
def AU(t:Tb)(k0 z:Int)(v:Of):Prop:=∀i,0<=i->i<=t.nb->t.den*XX t z v i=Wc t k0 v i
def WV(t:Tb)(k0:Int)(v:Of)(s i:Int):Int:=t.C i 0*k0+Zd (fun j=>if j=s then 0 else t.C i (j+1)*v (t.F j)) t.nf.toNat
theorem Km(t:Tb)(h:Int)(v:Of){s:Int}(i:Int)(D:0<=s)(F:s<t.nf):Wc t h v i=WV t h v s i+t.C i (s+1)*v (t.F s):=by
 unfold Wc WV
 rw [Z1 (s:=s) D Oa];omega
def sg(p:Int):Int:=if p<0 then-1 else 1
theorem T8(p:Int):sg p=1\/sg p= -1:=by unfold sg;split<;>simp
theorem Th(t:Tb)(row col i j:Int):(piv t row col).C i j=sg (t.C (row+1) (col+1))*Yh t (row+1) (col+1) i j:=by
 show(if _ then _ else _)=_
 unfold sg;split<;>simp
theorem QU(t:Tb)(row col:Int):(piv t row col).den=sg (t.C (row+1) (col+1))*t.C (row+1) (col+1):=by
 show(if _ then _ else _)=_
 unfold sg;split<;>simp
theorem Ti{row col:Int}(hd:EO t row col)(J:0<=i)(I:i<=t.nb)(F:0<=j)(D:j<=t.nf)(hi:i≠row+1)(h:j≠col+1):
   t.den*Yh t (row+1) (col+1) i j=t.C (row+1) (col+1)*t.C i j-t.C i (col+1)*t.C (row+1) j:=by
 unfold Yh
 rw [if_neg Oa,if_neg hi,if_neg h]
 exact Int.mul_tdiv_cancel' (Int.dvd_of_tmod_eq_zero (hd i j J I F D hi h))
theorem SX{row col:Int}(ha:Tj t row col)(hd:EO t row col)(F z:Int)(v:Of):AU t F z v↔AU (piv t row col) F z v:=by
 obtain⟨hp,r0,r1,c0,c1,aa⟩:=ha
 have hD:=hp.d1
 have O:(piv t row col).nf=t.nf:=rfl
 have ab:(piv t row col).F col=t.B row:=by show upd t.F col (t.B row) col=_;rw [Zp]
 have Z:∀j,j≠col->(piv t row col).F j=t.F j:=fun j h=>by show upd t.F col (t.B row) j=_;rw [upd_ne _ _ h]
 have ad:(piv t row col).B row=t.F col:=by show upd t.B row (t.F col) row=_;rw [Zp]
 have ac:∀j,j≠row->(piv t row col).B j=t.B j:=fun j h=>by show upd t.B row (t.F col) j=_;rw [upd_ne _ _ h]
 have qu:∀i,Wc t F v i=WV t F v col i+t.C i (col+1)*v (t.F col):=fun i=>Km t F v i c0 c1
 have ai:∀i,Wc (piv t row col) F v i=WV (piv t row col) F v col i+(piv t row col).C i (col+1)*v (t.B row):=fun i=>by
   rw [Km (piv t row col) F v i c0 c1,ab]
 have hR:WV (piv t row col) F v col (row+1)= -(sg (t.C (row+1) (col+1))*WV t F v col (row+1)):=by
   unfold WV
   have e0:(piv t row col).C (row+1) 0=sg (t.C (row+1) (col+1))* -t.C (row+1) 0:=by
     rw [Th];unfold Yh;rw [if_neg Oa,if_pos rfl]
   have e1:=Xn (D:=1) (A:= -sg (t.C (row+1) (col+1))) (B:=0) (n:=t.nf.toNat) (h:=fun j=>if j=col then 0 else(piv t row col).C (row+1) (j+1)*v ((piv t row col).F j))
     (f:=fun j=>if j=col then 0 else t.C (row+1) (j+1)*v (t.F j)) (g:=fun _=>0) (fun j j0 j1=>by
       by_cases e:j=col
       · simp [e]
       · simp only [if_neg e]
         rw [Z j e,Th];unfold Yh;rw [if_neg Oa,if_pos rfl];grind)
   rw [e0,O]
   grind
 have hQ:∀i,0<=i->i<=t.nb->i≠row+1->t.den*WV (piv t row col) F v col i=sg (t.C (row+1) (col+1))*(t.C (row+1) (col+1)*WV t F v col i-t.C i (col+1)*WV t F v col (row+1)):=fun i J I hi=>by
   unfold WV
   have e0:t.den*(piv t row col).C i 0=sg (t.C (row+1) (col+1))*(t.C (row+1) (col+1)*t.C i 0-t.C i (col+1)*t.C (row+1) 0):=by
     have:=Ti hd J I (j:=0) Oa Oa hi Oa
     rw [Th];grind
   have e1:=Xn (D:=t.den) (A:=sg (t.C (row+1) (col+1))*t.C (row+1) (col+1)) (B:=sg (t.C (row+1) (col+1))*t.C i (col+1)) (n:=t.nf.toNat) (h:=fun j=>if j=col then 0 else(piv t row col).C i (j+1)*v ((piv t row col).F j))
     (f:=fun j=>if j=col then 0 else t.C i (j+1)*v (t.F j)) (g:=fun j=>if j=col then 0 else t.C (row+1) (j+1)*v (t.F j)) (fun j j0 j1=>by
       by_cases e:j=col
       · simp [e]
       · simp only [if_neg e]
         have:=Ti hd J I (j:=j+1) Oa Oa hi Oa
         rw [Z j e,Th];grind)
   rw [O]
   grind
 have N:(piv t row col).C (row+1) (col+1)=sg (t.C (row+1) (col+1))*t.den:=by rw [Th];unfold Yh;rw [if_pos ⟨rfl,rfl⟩]
 have Y:∀i,i≠row+1->(piv t row col).C i (col+1)=sg (t.C (row+1) (col+1))*t.C i (col+1):=fun i hi=>by rw [Th];unfold Yh;rw [if_neg Oa,if_neg hi,if_pos rfl]
 have W:XX t z v (row+1)=v (t.B row):=by unfold XX;rw [if_neg Oa];congr 2;omega
 have fI:XX (piv t row col) z v (row+1)=v (t.F col):=by unfold XX;rw [if_neg Oa,show row+1-1=row by omega,ad]
 have U:∀i,i≠row+1->XX (piv t row col) z v i=XX t z v i:=fun i hi=>by
   unfold XX;split
   · rfl
   · rw [ac _ Oa]
 have hs:=T8 (t.C (row+1) (col+1))
 have zr:=QU t row col
 generalize sg (t.C (row+1) (col+1))=σ at*
 constructor
 {
 intro h i J I
 have er:=h (row+1) Oa Oa
 rw [W,qu] at er
 by_cases hi:i=row+1
 {
 subst hi
 rw [fI,ai,hR,N,zr]
 grind}
 {
 have ei:=h i J I
 rw [qu] at ei
 have q:=hQ i J I hi
 rw [U i hi,ai,Y i hi,zr]
 refine Int.eq_of_mul_eq_mul_left (a:=t.den) Oa ?_
 grind}}
 {
 intro h i J I
 have er:=h (row+1) Oa (show row+1<=t.nb by omega)
 rw [fI,ai,hR,N,zr] at er
 have ae:t.den*v (t.B row)=WV t F v col (row+1)+t.C (row+1) (col+1)*v (t.F col):=by
   rcases hs with rfl|rfl<;>grind
 by_cases hi:i=row+1
 · subst hi
   rw [W,qu];exact ae
 {
 have ei:=h i J I
 have q:=hQ i J I hi
 rw [U i hi,ai,Y i hi,zr] at ei
 rw [qu]
 refine Int.eq_of_mul_eq_mul_left (a:=t.C (row+1) (col+1)) aa ?_
 rcases hs with rfl|rfl<;>grind}}
theorem TF{u:Tb}(h:Run k t u e)(D z:Int)(v:Of):AU t D z v↔AU u D z v:=by
 induction h with
 |stop=>exact Iff.rfl
 |lim=>exact Iff.rfl
 |bad=>exact Iff.rfl
 | go h hp hr ih=>
   rcases hp with⟨_,_,h⟩|⟨_,_,_,h⟩|⟨_,_,_,_,h⟩|⟨ha,hd,_,rfl,_⟩
   · omega
   · omega
   · omega
   · exact(SX ha hd D z v).trans ih
theorem sK{p:Lp}(Z:wL p)(hm:0<=p.m)(k0 z:Int)(v:Of):AU (Zx p) k0 z v↔(z=ZG p.c v p.n.toNat/\∀i,0<=i->i<p.m->v (p.n+i)=ZG (p.A i) v p.n.toNat-p.b i*k0):=by
 have hn:=Z.n1
 have N:(Zx p).C 0 0=0:=rfl
 have e0:∀j,0<=j->(Zx p).C 0 (j+1)=p.c j:=fun j F=>by
   show(if(0:Int)=0 then(if j+1=0 then 0 else p.c (j+1-1)) else(if j+1=0 then-p.b (0-1) else p.A (0-1) (j+1-1)))=_
   rw [if_pos rfl,if_neg Oa,show j+1-1=j by omega]
 have I:∀i,1<=i->(Zx p).C i 0= -p.b (i-1):=fun i D=>by
   show(if i=0 then(if(0:Int)=0 then 0 else p.c (0-1)) else(if(0:Int)=0 then-p.b (i-1) else p.A (i-1) (0-1)))=_
   rw [if_neg Oa,if_pos rfl]
 have ei:∀i j,1<=i->0<=j->(Zx p).C i (j+1)=p.A (i-1) j:=fun i j D F=>by
   show(if i=0 then(if j+1=0 then 0 else p.c (j+1-1)) else(if j+1=0 then-p.b (i-1) else p.A (i-1) (j+1-1)))=_
   rw [if_neg Oa,if_neg Oa,show j+1-1=j by omega]
 have U:Wc (Zx p) k0 v 0=ZG p.c v p.n.toNat:=by
   unfold Wc
   rw [N,Int.zero_mul,Int.zero_add]
   exact Zh fun j F W=>by rw [e0 j F];rfl
 have O:∀i,1<=i->Wc (Zx p) k0 v i=ZG (p.A (i-1)) v p.n.toNat-p.b (i-1)*k0:=fun i D=>by
   unfold Wc
   have:Zd (fun j=>(Zx p).C i (j+1)*v ((Zx p).F j)) (Zx p).nf.toNat=ZG (p.A (i-1)) v p.n.toNat:=
     Zh fun j F W=>by rw [ei i j D F];rfl
   rw [this,I i D,Int.neg_mul];omega
 have e:(Zx p).den=1:=rfl
 have aa:(Zx p).nb=p.m:=rfl
 constructor
 {
 intro h
 refine⟨?_,fun i D Y=> ?_⟩
 {
 have:=h 0 Oa Oa
 rw [U] at this
 unfold XX at this
 rw [if_pos rfl,e] at this;omega}
 {
 have:=h (i+1) Oa Oa
 rw [O _ Oa,show i+1-1=i by omega] at this
 unfold XX at this
 have J:(Zx p).B i=p.n+i:=rfl
 rw [if_neg Oa,show i+1-1=i by omega,e,J] at this;omega}}
 {
 rintro⟨h0,h1⟩ i D Y
 rw [e,Int.one_mul]
 unfold XX
 by_cases hi:i=0
 · subst hi;rw [if_pos rfl,U];exact h0
 {
 rw [if_neg hi,O i Oa]
 have J:(Zx p).B (i-1)=p.n+(i-1):=rfl
 rw [J];exact h1 (i-1) Oa Oa}}
def t_(u:Tb):Nat->Int->Int
  |0=>fun _=>0
  |k+1=>upd (t_ u k) (u.B k) (u.C (k+1) 0)
theorem RQ(u:Tb){q:Int}:∀K:Nat,(∀i:Int,0<=i->i<K->u.B i≠q)->t_ u K q=0
 |0,_=>rfl
 | k+1,h=>by
   unfold t_
   rw [upd_ne _ _ (fun e=>h k Oa Oa e.symm)]
   exact RQ u k fun i D F=>h i D Oa
theorem lK.Jt(h:lK t)(J:0<=i)(I:i<t.nb)(F:0<=j)(D:j<t.nb)(e:t.B i=t.B j):i=j:=by
 have hn:=h.n1
 have:=h.perm.2 (t.nf+i) (t.nf+j) Oa Oa Oa Oa (by unfold cat;rw [if_neg Oa,if_neg Oa,show t.nf+i-t.nf=i by omega,show t.nf+j-t.nf=j by omega];exact e)
 omega
theorem lK.Gt(h:lK t)(J:0<=i)(I:i<t.nb)(F:0<=j)(D:j<t.nf):t.B i≠t.F j:=fun e=>by
 have hn:=h.n1
 have:=h.perm.2 (t.nf+i) j Oa Oa Oa Oa (by unfold cat;rw [if_neg Oa,if_pos D,show t.nf+i-t.nf=i by omega];exact e)
 omega
theorem LW{u:Tb}(h:lK u):∀(K:Nat),(K:Int)<=u.nb->∀i:Int,0<=i->i<K->t_ u K (u.B i)=u.C (i+1) 0
 |0,_,i,i0,i1=>Oa
 | k+1,hK,i,i0,i1=>by
   unfold t_
   by_cases e:i=k
   · subst e;rw [Zp]
   · rw [upd_ne _ _ (fun D=>e (h.Jt i0 Oa Oa Oa D))]
     exact LW h k Oa i i0 Oa
theorem Uz{u:Tb}(h:lK u)(D:∀i:Int,0<=i->i<u.nb->0<=u.C (i+1) 0)(q:Int):∀(K:Nat),(K:Int)<=u.nb->0<=t_ u K q/\t_ u K q<=1073741824
 |0,_=>by unfold t_;omega
 | k+1,hK=>by
   unfold t_
   by_cases e:q=u.B k
   {
   rw [<-e,Zp]
   have h1:=D k Oa Oa
   have hn:=h.n1
   have F:=h.cell (i:=k+1) (j:=0) Oa Oa Oa Oa
   omega}
   · rw [upd_ne _ _ e];exact Uz h D q k Oa
theorem TC(u:Tb){j:Int}(D:j<u.vars):∀K:Nat,Af u K j=t_ u K j
 |0=>rfl
 | k+1=>by
   unfold Af t_
   by_cases h:u.B k<u.vars
   {
   rw [if_pos h]
   by_cases e:j=u.B k
   · rw [<-e,Zp,Zp]
   · rw [upd_ne _ _ e,upd_ne _ _ e];exact TC u D k}
   · rw [if_neg h,upd_ne _ _ Oa];exact TC u D k
def Ba(u:Tb)(y0 g:Of):Nat->Int->Int
  |0=>y0
  |k+1=>if u.vars<=u.F k then upd (Ba u y0 g k) (u.F k-u.vars) (g k) else Ba u y0 g k
theorem QY(u:Tb):∀K:Nat,Ce u K=Ba u (fun _=>0) (fun j=>u.C 0 (j+1)) K
 |0=>rfl
 |k+1=>by unfold Ce Ba;rw [QY u k]
theorem UP(u:Tb)(y0 g:Of){i:Int}:∀K:Nat,(∀k:Int,0<=k->k<K->u.F k≠u.vars+i)->Ba u y0 g K i=y0 i
 |0,_=>rfl
 | k+1,h=>by
   unfold Ba
   have I:=h k Oa Oa
   split
   · rw [upd_ne _ _ Oa];exact UP u y0 g k fun q D F=>h q D Oa
   · exact UP u y0 g k fun q D F=>h q D Oa
theorem MV{u:Tb}{y0 g:Of}{A:Int}(q:Int)(F:0<=y0 q/\y0 q<=A):∀K:Nat,(∀k:Int,0<=k->k<K->0<=g k/\g k<=A)->0<=Ba u y0 g K q/\Ba u y0 g K q<=A
 |0,_=>F
 | k+1,h=>by
   unfold Ba
   split
   {
   by_cases e:q=u.F k-u.vars
   · rw [<-e,Zp];exact h k Oa Oa
   · rw [upd_ne _ _ e];exact MV q F k fun q D I=>h q D Oa}
   · exact MV q F k fun q D I=>h q D Oa
theorem Zh0(w y:Of){a:Int}{m:Nat}(D:0<=i)(h:i<m):ZG w (upd y i a) m=ZG w y m+w i*(a-y i):=by
 unfold ZG
 rw [Z1 (s:=i) D h,Z1 (f:=fun k=>w k*y k) (s:=i) D h]
 have:Zd (fun j=>if j=i then 0 else w j*upd y i a j) m=Zd (fun j=>if j=i then 0 else w j*y j) m:=Zh fun j I F=>by
   by_cases e:j=i
   · rw [if_pos e,if_pos e]
   · rw [if_neg e,if_neg e,upd_ne _ _ e]
 rw [this,Zp];grind
theorem QX{u:Tb}(h:lK u)(D:0<=u.nb){y0 g:Of}(w:Of)(hf:∀k:Int,0<=k->k<u.nf->u.vars<=u.F k->y0 (u.F k-u.vars)=0):∀K:Nat,(K:Int)<=u.nf->
   ZG w (Ba u y0 g K) u.nb.toNat=ZG w y0 u.nb.toNat+Zd (fun k=>if u.vars<=u.F k then g k*w (u.F k-u.vars) else 0) K
 |0,_=>by simp [Ba,Zd]
 | k+1,hK=>by
   have F:=QX h D w hf (g:=g) k Oa
   have hr:=h.wY (i:=k) Oa Oa D
   have hv:=h.v
   unfold Ba Zd
   by_cases hc:u.vars<=u.F k
   {
   rw [if_pos hc,if_pos hc,Zh0 _ _ Oa Oa,F]
   have:Ba u y0 g k (u.F k-u.vars)=0:=by
     rw [UP u y0 g k fun q I J e=>by
       have:=h.Gj (i:=q) (j:=k) I Oa Oa Oa D Oa;omega]
     exact hf k Oa Oa hc
   rw [this];grind}
   · rw [if_neg hc,if_neg hc,F];omega
theorem VC(f g:Of)(n:Nat):ZG f g n=ZG g f n:=Zh fun i _ _=>Int.mul_comm _ _
theorem _4(f:Of){q:Int}{n:Nat}(D:0<=q)(h:q<n):ZG f (fun k=>if k=q then 1 else 0) n=f q:=by
 unfold ZG
 rw [Z1 (s:=q) D h]
 show f q*(if q=q then 1 else 0)+_=_
 rw [if_pos rfl,Int.mul_one]
 have:Zd (fun j=>if j=q then 0 else f j*(fun k=>if k=q then 1 else 0) j) n=Zd (fun _=>0) n:=Zh fun j _ _=>by split<;>simp_all
 rw [this,ZH];omega
def UC(p:Lp)(x:Of)(k0 q:Int):Int:=if q<p.n then x q else ZG (p.A (q-p.n)) x p.n.toNat-p.b (q-p.n)*k0
theorem Zkf{p:Lp}(N:wL p)(J:0<=p.m){u:Tb}(h:Run k (Zx p) u e)(x:Of)(D:Int):AU u D (ZG p.c x p.n.toNat) (UC p x D):=by
 refine(TF h D _ _).1 ((sK N J D _ _).2 ⟨?_,fun i U O=> ?_⟩)
 · exact Zh fun j I F=>by unfold UC;rw [if_pos Oa]
 {
 have:ZG (p.A i) (UC p x D) p.n.toNat=ZG (p.A i) x p.n.toNat:=Zh fun j I F=>by unfold UC;rw [if_pos Oa]
 rw [this];unfold UC;rw [if_neg Oa,show p.n+i-p.n=i by omega]}
theorem Zdt{p:Lp}{u:Tb}(D:lK u)(I:0<=u.nb)(hv:u.vars=p.n)(x:Of)(h i:Int){y0:Of}(J:∀k:Int,0<=k->k<u.nf->g k=u.C i (k+1))(hf:∀k:Int,0<=k->k<u.nf->u.vars<=u.F k->y0 (u.F k-u.vars)=0):
   Wc u h (UC p x h) i=u.C i 0*h+Zd (fun k=>if u.vars<=u.F k then 0 else g k*x (u.F k)) u.nf.toNat+
     (ZG (fun i=>ZG (p.A i) x p.n.toNat-p.b i*h) (Ba u y0 g u.nf.toNat) u.nb.toNat-ZG (fun i=>ZG (p.A i) x p.n.toNat-p.b i*h) y0 u.nb.toNat):=by
 have hn:=D.n1
 have h1:=QX D I (y0:=y0) (g:=g) (fun i=>ZG (p.A i) x p.n.toNat-p.b i*h) hf u.nf.toNat Oa
 rw [h1]
 unfold Wc
 have N:Zd (fun j=>u.C i (j+1)*UC p x h (u.F j)) u.nf.toNat=Zd (fun k=>(if u.vars<=u.F k then 0 else g k*x (u.F k))+(if u.vars<=u.F k then g k*(ZG (p.A (u.F k-u.vars)) x p.n.toNat-p.b (u.F k-u.vars)*h) else 0)) u.nf.toNat:=
   Zh fun j F O=>by
     unfold UC
     rw [J j F Oa]
     by_cases hc:u.vars<=u.F j
     · rw [if_neg Oa,if_pos hc,if_pos hc,hv];omega
     · rw [if_pos Oa,if_neg hc,if_neg hc];omega
 rw [N,Vn];omega
theorem ZjF{p:Lp}(Y:wL p)(hm:0<=p.m){u:Tb}(h:Run k (Zx p) u 0):Hq p (X1 u):=by
 obtain⟨J,aa,hlv,_⟩:=h.fin (.inl rfl)
 have hd:=h.uP
 have d1:u.nb=p.m:=by rw [hd.1];rfl
 have d2:u.nf=p.n:=by rw [hd.2.1];rfl
 have d3:u.vars=p.n:=by rw [hd.2.2.2];rfl
 have hn:=Y.n1
 have lr:=YO u u.nb.toNat
 have zp:∀i:Int,0<=i->i<u.nb->0<=u.C (i+1) 0:=fun i N O=>(Uo u u.nb.toNat).1 (by have:=hlv rfl;omega) i N Oa
 have W:∀k:Int,0<=k->k<u.nf->0<=u.C 0 (k+1)/\u.C 0 (k+1)<=1073741824:=fun k F k1=>⟨aa (k+1) Oa Oa,(J.cell (i:=0) Oa Oa Oa Oa).2⟩
 have hid:AU u u.den (u.C 0 0) (t_ u u.nb.toNat):=fun i N O=>by
   have Z:Zd (fun j=>u.C i (j+1)*t_ u u.nb.toNat (u.F j)) u.nf.toNat=0:=by
     have:Zd (fun j=>u.C i (j+1)*t_ u u.nb.toNat (u.F j)) u.nf.toNat=Zd (fun _=>0) u.nf.toNat:=Zh fun j I U=>by
       rw [RQ u _ fun q q0 q1=>J.Gt q0 Oa I Oa];omega
     rw [this,ZH]
   unfold Wc XX
   rw [Z]
   by_cases hi:i=0
   · subst hi;rw [if_pos rfl];grind
   · rw [if_neg hi,LW J u.nb.toNat Oa (i-1) Oa Oa,show i-1+1=i by omega];grind
 obtain⟨Z,hs⟩:=(sK Y hm _ _ _).1 ((TF h _ _ _).2 hid)
 have hX:∀j,0<=j->j<p.n->Af u u.nb.toNat j=t_ u u.nb.toNat j:=fun j I U=>TC u Oa _
 have dX:∀f:Of,ZG f (Af u u.nb.toNat) p.n.toNat=ZG f (t_ u u.nb.toNat) p.n.toNat:=fun f=>Zh fun j I U=>by rw [hX j I Oa]
 have hY:(X1 u).Y=Ba u (fun _=>0) (fun j=>u.C 0 (j+1)) u.nf.toNat:=by show Ce u _=_;rw [QY]
 have f9:∀w:Of,ZG w (fun _=>0) u.nb.toNat=0:=fun w=>by
   have:ZG w (fun _=>0) u.nb.toNat=Zd (fun _=>0) u.nb.toNat:=Zh fun j _ _=>by simp
   rw [this,ZH]
 have key:∀(x:Of) (F:Int),u.den*ZG p.c x p.n.toNat=u.C 0 0*F+Zd (fun k=>if u.vars<=u.F k then 0 else u.C 0 (k+1)*x (u.F k)) u.nf.toNat+ZG (fun i=>ZG (p.A i) x p.n.toNat-p.b i*F) (X1 u).Y u.nb.toNat:=fun x F=>by
   have h1:=Zkf Y hm h x F 0 Oa Oa
   rw [Zdt J Oa d3 x F 0 (y0:=fun _=>0) (g:=fun j=>u.C 0 (j+1)) (fun _ _ _=>rfl) (fun _ _ _ _=>rfl),f9,<-hY] at h1
   unfold XX at h1
   rw [if_pos rfl] at h1
   omega
 refine⟨Y,J.d1,J.d2,J.cell (i:=0) Oa Oa Oa Oa,d2,d1,fun j I U=> ?_,fun i N O=> ?_,fun i N O=> ?_,fun j I U=> ?_,?_,?_⟩
 {
 show 0<=Af u u.nb.toNat j/\Af u u.nb.toNat j<=_
 rw [hX j I U];exact Uz J zp j _ Oa}
 · rw [hY];exact MV i Oa _ fun k F k1=>W k F Oa
 {
 show p.b i*u.den<=ZG (p.A i) (Af u u.nb.toNat) _
 rw [dX]
 have h1:=hs i N O
 have h2:=(Uz J zp (p.n+i) u.nb.toNat Oa).1
 omega}
 {
 have h1:=key (fun k=>if k=j then 1 else 0) 0
 have h2:0<=Zd (fun k=>if u.vars<=u.F k then 0 else u.C 0 (k+1)*(if u.F k=j then 1 else 0)) u.nf.toNat:=Z8 fun k F k1=>by
   have:=(W k F Oa).1
   split
   · omega
   · split<;>omega
 have h3:ZG (fun i=>ZG (p.A i) (fun k=>if k=j then 1 else 0) p.n.toNat-p.b i*0) (X1 u).Y u.nb.toNat=Nv p.A (X1 u).Y p.m.toNat j:=by
   rw [d1];exact Zh fun i N O=>by
     show(ZG (p.A i) (fun k=>if k=j then 1 else 0) p.n.toNat-p.b i*0)*_=_
     rw [_4 _ I Oa];simp
 rw [_4 _ I Oa,h3] at h1
 show _<=p.c j*u.den
 rw [Int.mul_comm (p.c j)];omega}
 {
 show ZG p.c (Af u u.nb.toNat) _=u.C 0 0
 rw [dX,<-Z]}
 {
 show ZG p.b (X1 u).Y _=u.C 0 0
 have h1:=key (fun _=>0) 1
 have z1:∀f:Of,ZG f (fun _=>0) p.n.toNat=0:=fun f=>by
   have:ZG f (fun _=>0) p.n.toNat=Zd (fun _=>0) p.n.toNat:=Zh fun j _ _=>by simp
   rw [this,ZH]
 have z2:Zd (fun k=>if u.vars<=u.F k then 0 else u.C 0 (k+1)*(fun _=>(0:Int)) (u.F k)) u.nf.toNat=0:=by
   have:Zd (fun k=>if u.vars<=u.F k then 0 else u.C 0 (k+1)*(fun _=>(0:Int)) (u.F k)) u.nf.toNat=Zd (fun _=>0) u.nf.toNat:=Zh fun j _ _=>by split<;>simp
   rw [this,ZH]
 have z3:ZG (fun i=>ZG (p.A i) (fun _=>0) p.n.toNat-p.b i*1) (X1 u).Y u.nb.toNat= -ZG p.b (X1 u).Y p.m.toNat:=by
   have:=Xn (D:=1) (A:= -1) (B:=0) (n:=p.m.toNat) (h:=fun i=>(ZG (p.A i) (fun _=>0) p.n.toNat-p.b i*1)*(X1 u).Y i) (f:=fun i=>p.b i*(X1 u).Y i) (g:=fun _=>0) (fun i N O=>by rw [z1];grind)
   rw [d1]
   show Zd (fun i=>(ZG (p.A i) (fun _=>0) p.n.toNat-p.b i*1)*(X1 u).Y i) p.m.toNat= -Zd (fun i=>p.b i*(X1 u).Y i) p.m.toNat
   omega
 rw [z1,z2,z3] at h1
 omega}
theorem RC(t:Tb)(r:Int):∀K:Nat,Yc t r K<0->∀j:Int,0<=j->j<K->t.C (r+1) (j+1)<=0
 |0,_,j,j0,j1=>Oa
 | k+1,h,j,j0,j1=>by
   unfold Yc at h
   split at h
   {
   rename_i hc
   by_cases e:j=k
   · rw [e];exact hc
   · exact RC t r k h j j0 Oa}
   {
   split at h
   · omega
   · split at h<;>omega}
theorem vZ.chk{p:Lp}(F:0<=p.m){s:So}(h:vZ p s e)(D:e=0):Hq p s:=by
 rcases h with⟨_,_,h⟩|⟨hl,u,hr,⟨h,_⟩|⟨_,rfl⟩⟩
 · omega
 · exact absurd D h
 · subst D;exact ZjF hl F hr
theorem ZdM(f g:Of)(a:Int)(n:Nat):ZG (fun k=>f k*a) g n=ZG f g n*a:=by
 unfold ZG
 rw [<-XF]
 exact Zh fun i _ _=>by grind
end Go.Proofs.Gw
namespace Go.Proofs.YtpnamgfdakfccaaGreat
open Go.Shelf
noncomputable abbrev Om:=Tryz.prog
def Zcx:Go.Shelf.Ren:=⟨fun|189=>293|125=>108|257=>314|128=>194|129=>195|294=>326|295=>327|296=>328|297=>329|298=>330|299=>331|216=>332|300=>333|301=>334|328=>339|329=>255|330=>256|331=>340|332=>341|215=>253|343=>343|n=>n,fun|28=>22|3=>3|46=>192|0=>0|51=>272|53=>274|4=>4|183=>265|182=>264|131=>269|5=>5|9=>9|218=>318|222=>322|228=>353|229=>354|n=>n,fun|n=>n⟩
theorem QK:Go.Proofs.Lays.n189 Om Zcx:={
 mixed:=Gw.Oc
 f125:=Tryz.func108.trans (congrArg some (by kernel_rfl))
 f128:=Tryz.func194.trans (congrArg some (by kernel_rfl))
 f129:=Tryz.func195.trans (congrArg some (by kernel_rfl))
 f189:=Tryz.func293.trans (congrArg some (by kernel_rfl))
 f215:=Tryz.func253.trans (congrArg some (by kernel_rfl))
 f216:=Tryz.func332.trans (congrArg some (by kernel_rfl))
 f257:=Tryz.func314.trans (congrArg some (by kernel_rfl))
 f294:=Tryz.func326.trans (congrArg some (by kernel_rfl))
 f295:=Tryz.func327.trans (congrArg some (by kernel_rfl))
 f296:=Tryz.func328.trans (congrArg some (by kernel_rfl))
 f297:=Tryz.func329.trans (congrArg some (by kernel_rfl))
 f298:=Tryz.func330.trans (congrArg some (by kernel_rfl))
 f299:=Tryz.func331.trans (congrArg some (by kernel_rfl))
 f300:=Tryz.func333.trans (congrArg some (by kernel_rfl))
 f301:=Tryz.func334.trans (congrArg some (by kernel_rfl))
 f328:=Tryz.func339.trans (congrArg some (by kernel_rfl))
 f329:=Tryz.func255.trans (congrArg some (by kernel_rfl))
 f330:=Tryz.func256.trans (congrArg some (by kernel_rfl))
 f331:=Tryz.func340.trans (congrArg some (by kernel_rfl))
 f332:=Tryz.func341.trans (congrArg some (by kernel_rfl))
 f343:=Tryz.func343.trans (congrArg some (by kernel_rfl))
 t0:=Tryz.underlying0
 a0:=Tryz.isAgg0
 z0:=Tryz.sizeOf0
 v0:=Tryz.zeroValue0
 t3:=Tryz.underlying3
 a3:=Tryz.isAgg3
 z3:=Tryz.sizeOf3
 v3:=Tryz.zeroValue3
 t4:=Tryz.underlying4
 a4:=Tryz.isAgg4
 z4:=Tryz.sizeOf4
 v4:=Tryz.zeroValue4
 t5:=Tryz.underlying5
 a5:=Tryz.isAgg5
 z5:=Tryz.sizeOf5
 v5:=Tryz.zeroValue5
 t9:=Tryz.underlying9
 a9:=Tryz.isAgg9
 z9:=Tryz.sizeOf9
 v9:=Tryz.zeroValue9
 t28:=Tryz.underlying22
 a28:=Tryz.isAgg22
 z28:=Tryz.sizeOf22
 v28:=Tryz.zeroValue22
 t46:=Tryz.underlying192
 a46:=Tryz.isAgg192
 z46:=Tryz.sizeOf192
 v46:=Tryz.zeroValue192
 t51:=Tryz.underlying272
 a51:=Tryz.isAgg272
 z51:=Tryz.sizeOf272
 v51:=Tryz.zeroValue272
 t53:=Tryz.underlying274
 a53:=Tryz.isAgg274
 z53:=Tryz.sizeOf274
 v53:=Tryz.zeroValue274
 t131:=Tryz.underlying269
 a131:=Tryz.isAgg269
 z131:=Tryz.sizeOf269
 v131:=Tryz.zeroValue269
 t182:=Tryz.underlying264
 a182:=Tryz.isAgg264
 z182:=Tryz.sizeOf264
 v182:=Tryz.zeroValue264
 t183:=Tryz.underlying265
 a183:=Tryz.isAgg265
 z183:=Tryz.sizeOf265
 v183:=Tryz.zeroValue265
 t218:=Tryz.underlying318
 a218:=Tryz.isAgg318
 z218:=Tryz.sizeOf318
 v218:=Tryz.zeroValue318
 t222:=Tryz.underlying322
 a222:=Tryz.isAgg322
 z222:=Tryz.sizeOf322
 v222:=Tryz.zeroValue322
 t228:=Tryz.underlying353
 a228:=Tryz.isAgg353
 z228:=Tryz.sizeOf353
 v228:=Tryz.zeroValue353
 t229:=Tryz.underlying354
 a229:=Tryz.isAgg354
 z229:=Tryz.sizeOf354
 v229:=Tryz.zeroValue354}
open Go.Sort Go.RowKit in
theorem slices_Sort_int(blk off cap:Nat)(h:List Int)(w:World)(F:Holds (Value.int .i64) w blk off h.toArray)(D:blk<w.heap.size)(hsz:h.length<4611686018427387904):
 Calls Om 293 #[.slice (some ⟨blk,off,none⟩) h.length cap] w fun e w'=>
   e= .returned (.tuple #[])/\∃n os,w'=grow (putRow (Value.int .i64) (Sort.ahead w n) blk off (h.mergeSort fun x y=>decide (x<=y)).toArray) os:=Any.slices_Sort_int QK blk off cap h w F D hsz
def Zcw:Go.Shelf.Ren:=⟨fun|212=>231|263=>284|264=>285|n=>n,fun|46=>192|51=>272|146=>341|53=>274|148=>343|n=>n,fun|n=>n⟩
theorem Zj8:Go.Proofs.Lays.n212 Om Zcw:={
 mixed:=Gw.Oc
 f212:=Tryz.func231.trans (congrArg some (by kernel_rfl))
 f263:=Tryz.func284.trans (congrArg some (by kernel_rfl))
 f264:=Tryz.func285.trans (congrArg some (by kernel_rfl))
 t46:=Tryz.underlying192
 a46:=Tryz.isAgg192
 z46:=Tryz.sizeOf192
 v46:=Tryz.zeroValue192
 t51:=Tryz.underlying272
 a51:=Tryz.isAgg272
 z51:=Tryz.sizeOf272
 v51:=Tryz.zeroValue272
 t53:=Tryz.underlying274
 a53:=Tryz.isAgg274
 z53:=Tryz.sizeOf274
 v53:=Tryz.zeroValue274
 t146:=Tryz.underlying341
 a146:=Tryz.isAgg341
 z146:=Tryz.sizeOf341
 v146:=Tryz.zeroValue341
 t148:=Tryz.underlying343
 a148:=Tryz.isAgg343
 z148:=Tryz.sizeOf343
 v148:=Tryz.zeroValue343}
open Go.RowKit Go.Lib in
theorem Tryz.bits_Mul(x y:Nat)(D:x<18446744073709551616)(h:y<18446744073709551616)(w:World):
 Calls Om 231 #[.int .u64 x,.int .u64 y] w fun e w'=>e= .returned (.tuple #[.int .u64 ((x*y/18446744073709551616:Nat):Int),.int .u64 ((x*y%18446744073709551616:Nat):Int)])/\w'=w:=Any.bits_Mul Zj8 x y D h w
def R2:Go.Shelf.Ren:=⟨fun|15=>66|n=>n,fun|22=>22|3=>3|4=>4|n=>n,fun|n=>n⟩
theorem UV:Go.Proofs.Lays2.n15 Om R2:={
 mixed:=Gw.Oc
 f15:=Tryz.func66.trans (congrArg some (by kernel_rfl))
 t3:=Tryz.underlying3
 a3:=Tryz.isAgg3
 z3:=Tryz.sizeOf3
 v3:=Tryz.zeroValue3
 t4:=Tryz.underlying4
 a4:=Tryz.isAgg4
 z4:=Tryz.sizeOf4
 v4:=Tryz.zeroValue4
 t22:=Tryz.underlying22
 a22:=Tryz.isAgg22
 z22:=Tryz.sizeOf22
 v22:=Tryz.zeroValue22
 i3:=by kernel_rfl}
open Go.RowKit Go.Lib in
theorem slices_Clone_int(b off n c:Nat)(h:List Int)(w:World)(F:n<=h.length)(I:n*8<=140737488355328)(hc:∀j,j<h.length->w.cell? ⟨b,off+j,none⟩=some (.int Gw.Oi (h.getD j 0))):
 Calls Om 66 #[.slice (some ⟨b,off,none⟩) n c] w fun e w'=>∃D,e= .returned D/\w'.ownsRow w.heap.size 3 1 D n ((h.take n).map (Value.int .i64))/\D≠ Gw.Oh/\Below w.heap.size w w':=Any.slices_Clone_int UV b off n c h w F I hc
open Go.RowKit Go.Lib in
theorem slices_Clone_int_nil(n c:Nat)(w:World):
 Calls Om 66 #[.slice none n c] w fun e w'=>e= .returned Gw.Oh/\w'=w:=Any.slices_Clone_int_nil UV n c w
open Go.RowKit Go.Lib in
theorem slices_Clone_int_zero(a:Addr)(c:Nat)(w:World):
 Calls Om 66 #[.slice (some a) 0 c] w fun e w'=>∃h,e= .returned h/\w'.ownsRow w.heap.size 3 1 h 0 []/\h≠ Gw.Oh/\Below w.heap.size w w':=Any.slices_Clone_int_zero UV a c w
open Go.RowKit Go.Sort in
theorem slices_Sort_int_none(p:Option Addr)(cap:Nat)(w:World):
 Calls Om 293 #[.slice p 0 cap] w fun e w'=>e= .returned (.tuple #[])/\w'=w:=Any.slices_Sort_int_none QK p cap w
def VY:Go.Shelf.Ren:=⟨fun|41=>86|n=>n,fun|22=>52|23=>22|4=>4|n=>n,fun|n=>n⟩
theorem Vc:Go.Proofs.SlLaysE0.n41 Om VY:={
 mixed:=Gw.Oc
 f41:=⟨Tryz.f86.name,by decide,Tryz.func86.trans (congrArg some (by kernel_rfl))⟩
 t4:=Tryz.underlying4
 a4:=Tryz.isAgg4
 z4:=Tryz.sizeOf4
 v4:=Tryz.zeroValue4
 t22:=Tryz.underlying52
 a22:=Tryz.isAgg52
 z22:=Tryz.sizeOf52
 v22:=Tryz.zeroValue52}
open Go.RowKit Go.Lib in
theorem UM(h:TypeInfo)(z:Value)(size bytes:Nat)(hi:Tryz.prog.info? 22=some h)(O:h.zero=some z)(N:h.size=size)(J:h.bytes=bytes)(I:z.cells.size=size)(hsz:0<size)(D:∀w,(Go.sizeOf 22).run Om w= .ok size w)(b off n c:Nat)(news:List Value)(w:World)(U:news.length=n*size)(hn:n<=maxLen)(W:n*bytes<=140737488355328)(hc:∀j u,news[j]? =some u->w.cell? ⟨b,off+j,none⟩=some u)(h1:∀u∈news,u.oneCell'=true):
 Calls Om 86 #[.slice (some ⟨b,off,none⟩) n c] w fun e w'=>∃F,e= .returned F/\w'.ownsRow w.heap.size 22 size F n news/\F≠ Gw.Oh/\Below w.heap.size w w':=AnyE.slices_Clone Vc h z size bytes hi O N J I hsz D b off n c news w U hn W hc h1
open Go.RowKit Go.Lib in
theorem W6(n c:Nat)(w:World):
 Calls Om 86 #[.slice none n c] w fun e w'=>e= .returned Gw.Oh/\w'=w:=AnyE.slices_Clone_nil Vc n c w
open Go Go.RowKit Go.Shelf
attribute [local go_sem] Oper.semAt_some
def It.upto{α:Type}(f:Nat->α)(k:Nat):List α:=(List.range k).map f
theorem It.upto_succ{α:Type}(f:Nat->α)(k:Nat):It.upto f (k+1)=It.upto f k++ [f k]:=by simp [It.upto,List.range_succ]
theorem It.upto_length{α:Type}(f:Nat->α)(k:Nat):(It.upto f k).length=k:=by simp [It.upto]
theorem It.upto_all(zs:List Int):It.upto (fun j=>zs[j]?.getD 0) zs.length=zs:=by
 apply List.ext_getElem
 · simp [It.upto]
 {
 intro i h1 h
 simp [It.upto,h]}
set_option maxRecDepth 100000 in
theorem It.values1_in(F:Fence)(n:Nat)(h7:F.fn 294)(hro:F.round=none)(hn:1<=n)(l Bs n₀ b off len cap:Nat)(zs:List Int)(y2:len*8<=140737488351232)(hb:b<n₀)(J Jx:List Int->World->Prop)
   (hY:∀pre x W,J pre W->pre.length<len->YieldAt F (n-1) Om l #[.int Gw.Oi x] W fun e W'=>
     (e= .returned (.bool true)/\J (pre++ [x]) W'/\Below n₀ W W')\/(e= .returned (.bool false)/\Jx (pre++ [x]) W'))
   (W:World) (hBs:W.cell? ⟨Bs,0,none⟩=some (.slice (some ⟨b,off,none⟩) len cap)) (hc:∀j,j<len->W.cell? ⟨b,off+j,none⟩=some (.int Gw.Oi (zs[j]?.getD 0))) (h0:J [] W):
   CallsIn F n Om 294 #[.func (.yield l) #[] #[],Gw.Or Bs] W fun e W'=>(∃v,e= .returned v)/\
     ((∃ys,ys=It.upto (fun j=>zs[j]?.getD 0) len/\J ys W')\/(∃pre,(∃k,k<=len/\pre=It.upto (fun j=>zs[j]?.getD 0) k)/\Jx pre W')):=by
 refine callsIn_of_wp Tryz.func294 rfl h7 ?_ hro
 simp only [Tryz.ntmps294,List.size_toArray,List.length_cons,List.length_nil,Nat.reduceAdd,Nat.reduceSub,Array.replicate_succ,Array.replicate_zero,List.push_toArray,List.append_toArray,List.nil_append,List.cons_append]
 gi_wp2
 gi_loopw [7] (fun i wr=>∃k:Nat,k<=len/\i= .int Gw.Oi k/\J (It.upto (fun j=>zs[j]?.getD 0) k) wr/\Below n₀ W wr)
   (fun i _=>len-(intOf i).toNat)
 case atStart=>exact⟨0,Nat.zero_le _,rfl,h0,Below.refl _ _⟩
 case round=>
   obtain⟨k,hk,rfl,hJs,hnx⟩:=hrel
   have hcx:k<len->wr.cell? ⟨b,off+k,none⟩=some (.int Gw.Oi (zs[k]?.getD 0)):=fun h=>(hnx.cell (p:=⟨b,off+k,none⟩) hb).trans (hc k h)
   by_cases hlt:k<len
   {
   obtain⟨fn,tmps,assign,body,hy,hR⟩:=hY _ (zs[k]?.getD 0) wr hJs (by rw [It.upto_length];exact hlt)
   have mT:=hcx hlt
   gi_wp2
   refine hR.mono ?_
   rintro e W3 (⟨rfl,hJ3,hk3⟩|⟨rfl,jU⟩)
   {
   gi_wp2
   go_roundw
   case rel=>exact⟨k+1,Gw.Oa,by simp,by rw [It.upto_succ];exact hJ3,hnx.trans hk3⟩
   case measure=>simp [intOf];omega}
   · gi_wp2
     refine bodyPost_ret (results_none rfl _ _ _) rfl ?_
     exact⟨⟨_,rfl⟩,.inr ⟨_,⟨k+1,Gw.Oa,(It.upto_succ _ _).symm⟩,jU⟩⟩}
   {
   obtain rfl:k=len:=Gw.Oa
   gi_wp2
   go_end0
   exact⟨⟨_,rfl⟩,.inl ⟨_,rfl,hJs⟩⟩}
theorem It.upto_take(h:List Int){k:Nat}(D:k<=h.length):It.upto (fun j=>h[j]?.getD 0) k=h.take k:=by
 apply List.ext_getElem
 · simp [It.upto,D]
 {
 intro i h1 F
 have:i<h.length:=by simp [It.upto] at h1;omega
 simp [It.upto,this]}
def It.Ints(n₀:Nat)(W:World)(sv:Value)(zs:List Int):Prop:=
  (sv=Gw.Oh/\zs= [])\/∃b off cap,sv= .slice (some ⟨b,off,none⟩) zs.length cap/\b<n₀/\∀j,j<zs.length->W.cell? ⟨b,off+j,none⟩=some (.int Gw.Oi (zs[j]?.getD 0))
theorem It.Ints.below{D:Nat}{A B:World}(h:Below D A B){I:Value}{F:List Int}:It.Ints D A I F->It.Ints D B I F
 | .inl e=> .inl e
 | .inr ⟨b,off,cap,e,hb,hc⟩=> .inr ⟨b,off,cap,e,hb,fun j J=>(h.cell (p:=⟨b,off+j,none⟩) hb).trans (hc j J)⟩
set_option maxRecDepth 100000 in
theorem It.values1_nil_in(F:Fence)(n:Nat)(h7:F.fn 294)(hro:F.round=none)(l Bs:Nat)(J:List Int->World->Prop)(W:World)(hBs:W.cell? ⟨Bs,0,none⟩=some Gw.Oh)(h0:J [] W):
   CallsIn F n Om 294 #[.func (.yield l) #[] #[],Gw.Or Bs] W fun e W'=>(∃v,e= .returned v)/\J [] W':=by
 refine callsIn_of_wp Tryz.func294 rfl h7 ?_ hro
 simp only [Tryz.ntmps294,List.size_toArray,List.length_cons,List.length_nil,Nat.reduceAdd,Nat.reduceSub,Array.replicate_succ,Array.replicate_zero,List.push_toArray,List.append_toArray,List.nil_append,List.cons_append]
 gi_wp2
 gi_loopw [7] (fun i wr=>i= .int Gw.Oi 0/\J [] wr) (fun _ _=>0)
 case atStart=>exact⟨rfl,h0⟩
 case round=>
   obtain⟨rfl,hJs⟩:=hrel
   gi_wp2
   go_end0
   exact⟨⟨_,rfl⟩,hJs⟩
theorem It.values_stops(F:Fence)(n:Nat)(h7:F.fn 294)(N:F.round=none)(hn:1<=n)(Bs h:Nat)(sv:Value)(D:List Int)(y2:D.length*8<=140737488351232)(w:World)(Z:Bs<w.heap.size)(I:h<=w.heap.size)
   (hc:w.cell? ⟨Bs,0,none⟩=some sv) (hI:It.Ints h w sv D):
   SeqStopsK F n Om 294 #[Gw.Or Bs] (fun x:Int=> #[Value.int Gw.Oi x]) (Below h) (fun ys=>ys=D) (fun pre=>pre<+:D) D.length w:=fun l J Jx W hW _ _ hY h0=>by
 have U:=(hW.cell (p:=⟨Bs,0,none⟩) Z).trans hc
 rcases hI.below (hW.mono I) with⟨rfl,rfl⟩|⟨b,off,cap,rfl,hb,hcs⟩
 · exact(It.values1_nil_in F n h7 N l Bs J W U h0).mono fun e W' ⟨Y,O⟩=>⟨Y,.inl ⟨_,rfl,O⟩⟩
 {
 refine(It.values1_in F n h7 N hn l Bs h b off D.length cap D y2 hb J Jx hY W U hcs h0).mono ?_
 rintro e W' ⟨Y,⟨ys,rfl,O⟩|⟨pre,⟨k,hk,rfl⟩,O⟩⟩
 · exact⟨Y,.inl ⟨_,It.upto_all D,O⟩⟩
 · exact⟨Y,.inr ⟨_,by rw [It.upto_take D hk];exact List.take_prefix _ _,O⟩⟩}
theorem It.info3:(Tryz.prog.info? 3).map (fun i=>(i.zero,i.size,i.bytes))=some (some (.int Gw.Oi 0),1,8):=Gw.Oc
set_option maxRecDepth 100000 in
theorem It.appendSeq_in(F:Fence)(n:Nat)(h3:F.fn 313)(h5:F.fn 294)(hro:F.round=none)(hn:3<=n)(Bs:Nat)(sv:Value)(zs:List Int)(xd:zs.length<=maxLen)(y2:zs.length*8<=140737488351232)(w:World)
   (hBs:Bs<w.heap.size) (hcs:w.cell? ⟨Bs,0,none⟩=some sv) (hI:It.Ints w.heap.size w sv zs):
   CallsIn F n Om 313 #[Gw.Oh,.func (.func 294) #[] #[Gw.Or Bs]] w fun e W'=>∃v,e= .returned v/\W'.ownsRow w.heap.size 3 1 v zs.length (zs.map (Value.int .i64))/\Below w.heap.size w W':=by
 have h1:1<=n:=Gw.Oa
 obtain⟨i0,hi,hz0,hz1,hz2⟩:=info_parts It.info3
 refine callsIn_of_wp_marks Tryz.func313 rfl h3 ?_ hro
 simp only [Tryz.ntmps313,List.size_toArray,List.length_cons,List.length_nil,Nat.reduceAdd,Nat.reduceSub,Array.replicate_succ,Array.replicate_zero,List.push_toArray,List.append_toArray,List.nil_append,List.cons_append]
 gi_wp2
 have bO:=Boxed.new w 22 Gw.Oh
 have hB0:Below w.heap.size w (w.alloc (.cells #[Gw.Oh] 22)):=(Below.refl _ w).alloc (Nat.le_refl _) _
 refine wpIn_rangeFunc_ownG hro h1 (gf:=294) (lb:= #[Gw.Or Bs]) rfl h5 (enters_of Tryz.func294 (by kernel_rfl) rfl)
   (It.values_stops F (n-1) h5 hro Gw.Oa Bs w.heap.size sv zs y2 _ (by simp;omega) (by simp) ((hB0.cell (p:=⟨Bs,0,none⟩) hBs).trans hcs) (hI.below hB0)) belowK_t (belowK_b (by simp)) (Below.refl _ _) (fun _=>rfl)
   (fun pre W=>(∃v,Boxed W w.heap.size 22 v/\W.ownsRow w.heap.size 3 1 v pre.length (pre.map (Value.int .i64))/\True)/\Below w.heap.size w W)
   (fun _ _ _=>False)
   (OwnFrom.and (Own.from (holdsRow_own w.heap.size w.heap.size 22 3 1 (fun pre:List Int=>pre.length) (fun pre=>pre.map (Value.int .i64)) (fun pre v=>True)) _) (ownFrom_below (Nat.le_refl _) (by simp)))
   (fun _ _ _ _ _ hs _ _=>hs)
   ⟨⟨_,bO,World.ownsRow_nil _ _ _ _,trivial⟩,hB0⟩
   (fun x=>{tmps:= #[Gw.Oh,.func (.func 294) #[] #[Gw.Or Bs],.pointer (some ⟨w.heap.size,0,none⟩),undef,Gw.Oh,.int Gw.Oi x,.func (.func 294) #[] #[Gw.Or Bs],.int Gw.Oi x,undef,undef,undef,undef,undef],defers:= []}) ?assign ?body ?done ?stop
 case assign=>
   intro l x W K hK
   gi_wp2
   exact hK
 case body=>
   rintro l pre x W ⟨⟨v,hv,qu,_⟩,hB⟩ hlt
   have hc:=hv.cell
   gi_wp2_with (gi_at_builtin;refine wpListIn_append_own _ rfl _ _ 22 rfl w.heap.size 3 i0 (.int Gw.Oi 0) 1 8 Tryz.underlying22 hi hz0 hz1 hz2 rfl (by decide) _ _ _ rfl (qu.alloc _) ⟨W.heap.size,0,none⟩ 1 1 [.int Gw.Oi x] rfl rfl (cell_one_new _ _ _) (by simp [Value.oneCell']) Gw.Oa Gw.Oa (by have:=hB.size;simp;omega) ?_;intro v' w1 cB fT _;obtain⟨g',cap',rfl⟩:=ownsRow_succ cB;obtain⟨hv1,hv2,hr2,hk2,hb2⟩:=hv.appended (by decide) qu hB.size (Nat.le_refl _) cB fT;have hc1:=hv1.cell;have hf1:=hv1.frozen)
   exact⟨hk2.from _,hb2,⟨_,hv2,by simpa using hr2,trivial⟩,hB.trans hb2⟩
 case done=>
   rintro D ys W hD rfl ⟨⟨v,hv,qu,_⟩,hB⟩ hK
   have hc:=hv.cell
   gi_wp2
   refine⟨by simp,.inl ⟨_,_,rfl,run_takeDeferred hK,?_⟩⟩
   exact⟨_,results_tmp rfl _ _ _,v,rfl,ownsRow_putObj qu _ hK rfl,hB.trans (belowK_b (w:=w) (Nat.le_refl _) W D _ _ (by simp at hD;omega) hK rfl rfl)⟩
 case stop=>
   rintro D c pre W _ _ h _
   exact h.elim
open Go.Proofs.Gw in
theorem Az{v:Value}{n:Int}{f:Of}{Bs:Nat}{E:TypeId}(w0:World)(hc:w0.cell? ⟨Bs,0,none⟩=some v)(O:(iO.own v 1 E n (ints f)).holds w0)(hn:n<=1000000):
   Calls Om 313 [Oh,.func (.func 294) #[] #[Or Bs]].toArray w0 fun e w=>∃u,e= .returned u/\∃r,u=r/\iK r n/\Sat w0 w [.own r 1 3 n (ints f)]:=by
 have U:=O.row
 have I:=U.fP.n0
 have D:=Z0 f n
 have hI:It.Ints w0.heap.size w0 v (Zs f n):=by
   obtain⟨_,_,⟨rfl,h0⟩|⟨g,cap,cur,rfl,J,_⟩⟩:=O
   · exact .inl ⟨rfl,List.eq_nil_of_length_eq_zero Oa⟩
   {
   refine .inr ⟨g,0,cap,by rw [D],(Array.getElem?_eq_some_iff.1 J).1,fun j Z=> ?_⟩
   rw [D] at Z
   have:=U.2 j Oa
   rw [List.getElem?_eq_getElem Oa]
   simp only [Option.getD_some]
   rw [Nat.zero_add]
   simp only [pW,Int.toNat_natCast,Nat.zero_add] at this
   rw [this]
   simp [ints,Zs]}
 have Y:maxLen=9223372036854775807\/1000000<=maxLen:= .inr (by unfold maxLen;omega)
 refine(callsIn_wide.1 (It.appendSeq_in Fence.wide 3 trivial trivial rfl (Nat.le_refl _) Bs v (Zs f n) (by rw [D];unfold maxLen;omega) (by rw [D];omega) w0 (World.block_lt_of_cell? w0 _ hc) hc hI)).mono fun e w h=> ?_
 obtain⟨r,rfl,F,hB⟩:=h
 rw [D] at F
 have W:(iO.own r 1 3 n (ints f)).holds w:=iO.holds.uX I Oa (by rw [Nat.mul_one,UY];exact F)
 refine⟨r,rfl,r,rfl,W.row.fP,hB,fun e N=> ?_,fun e N g J=> ?_,List.pairwise_singleton _ _⟩
 · obtain rfl:=List.mem_singleton.1 N;exact W
 {
 obtain rfl:=List.mem_singleton.1 N
 exact(F.lt g J).1}
end Go.Proofs.YtpnamgfdakfccaaGreat
