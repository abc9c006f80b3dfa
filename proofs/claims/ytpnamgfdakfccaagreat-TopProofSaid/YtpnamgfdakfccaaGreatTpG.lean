import Derived.Test.YtpnamgfdakfccaaGreatTpF
import Derived.OrdersIn
import Derived.RangeFuncNested
import Derived.Test.YtpnamgfdakfccaaGreatProg
import Derived.ProofKit
import Derived.OpenShut
import Derived.ChangeOld
import Derived.SizedLaws
import Derived.Lib.SmallJoins
import Derived.Deep.Slices
set_option linter.unusedVariables false
set_option linter.unusedSimpArgs false
set_option maxRecDepth 20000
set_option maxHeartbeats 4000000
namespace Go.Proofs.Ev
open Go Go.RowKit Go.Proofs.Gw
noncomputable def up(β:Env)(nm:Nat)(p:Nat×Nat):Env:=fun k=>if k=nm then some p else β k
theorem Wi{β:Env}{nm:Nat}{p:Nat×Nat}(h:β nm=none):Ext β (up β nm p):=fun k x hk=>by
 unfold up
 by_cases e:k=nm
 · subst e;rw [h] at hk;cases hk
 · rw [if_neg e];exact hk
theorem XC{β:Env}{nm:Nat}{p:Nat×Nat}:up β nm p nm=some p:=by simp [up]
theorem Y2{β:Env}{nm k:Nat}{p:Nat×Nat}(h:k≠nm):up β nm p k=β k:=by simp [up,h]
section
variable {P:Program} {β:Env} {x:X} {w w':World} {w0:Base} {nm k b c off:Nat} {l:List V} {E:Nat} {o:Option Nat}
theorem HR.cells(h:HR w0 β x w)(hb:β k=some (b,c))(hk:x.get k=some (.cells l E o)):
   w0.own b/\∃l1 l2,w.heap[b]? =some (.cells (l1++l2).toArray E (0,0))/\VRs β l l1/\(match o with
   |none=>l2= []
   |some s=>l1.length+l2.length=c*s/\c<=maxLen):=by
 obtain⟨h1,ob,h2,l1,l2,h3,h4,h5⟩:=h.obj hb hk
 subst h3
 exact⟨h1,l1,l2,h2,h4,h5⟩
theorem HR.pre(h:HR w0 β x w)(hn:β nm=none)(ob:Ob):HR w0 β (x.set nm ob) w:=
 have key:∀{k b c o},β k=some (b,c)->(x.set nm ob).get k=some o->x.get k=some o:=fun {k b c o} hb hk=>by
   rw [X.get_set] at hk
   by_cases e:nm=k
   · subst e;rw [hn] at hb;cases hb
   · simpa [e] using hk
 ⟨h.below,fun hb hk=>h.obj hb (key hb hk),fun a1 a2 a3 a4=>h.inj a1 a2 (key a1 a3) (key a2 a4),fun hb=>h.lt hb⟩
theorem HR.bump(h:HR w0 β x w){n:Nat}(hn:x.c<=n):HR w0 β ⟨x.h,n⟩ w:=
 ⟨h.below,fun hb hk=>h.obj hb hk,fun a1 a2 a3 a4=>h.inj a1 a2 a3 a4,fun hb=>⟨Nat.lt_of_lt_of_le (h.lt hb).1 hn,(h.lt hb).2⟩⟩
theorem HR.drew(h:HR w0 β x w):HR w0 β x w.drew:=⟨h.below.drew,h.obj,h.inj,h.lt⟩
theorem HR.kill(h:HR w0 β x w)(k:Nat):HR w0 β (x.kill k) w:=
 have key:∀{j o},(x.kill k).get j=some o->x.get j=some o:=fun {j o} hj=>by
   rw [X.get_kill] at hj
   by_cases e:k=j
   · simp [e] at hj
   · simpa [e] using hj
 ⟨h.below,fun hb hk=>h.obj hb (key hk),fun a1 a2 a3 a4=>h.inj a1 a2 (key a3) (key a4),fun hb=>h.lt hb⟩
theorem HR.grown {row:Option Nat} {g:Nat} {ob:Ob} {rb:Obj} (h:HR w0 β x w) (hn:β nm=none) (hc:nm<x.c) (hx:x.get nm=some ob) (hg:w.grownBy w' row) (hr:∀b,row=some b->w0.own b)
   (hd:∀{k b c o},β k=some (b,c)->x.get k=some o->some b≠row/\b≠g) (hb:w'.heap[g]? =some rb) (hg0:w0.own g) (ho:OR (up β nm (g,c)) c ob rb):
   HR w0 (up β nm (g,c)) x w':=by
 have hgl:g<w'.heap.size:=(Array.getElem?_eq_some_iff.1 hb).1
 refine⟨h.below.grown hg hr,fun {k b c' o} hk hk'=> ?_,fun {k k' b c c' o o'} a1 a2 a3 a4=> ?_,fun {k b c} hk=> ?_⟩
 · by_cases e:k=nm
   · subst e
     rw [XC] at hk;cases hk
     rw [hx] at hk';cases hk'
     exact⟨hg0,rb,hb,ho⟩
   · rw [Y2 e] at hk
     obtain⟨h1,ob',h2,h3⟩:=h.obj hk hk'
     refine⟨h1,ob',?_,h3.mono (Wi hn)⟩
     rw [hg.block b (h.lt hk).2 (hd hk hk').1];exact h2
 · by_cases e:k=nm
   · subst e
     rw [XC] at a1;cases a1
     by_cases e':k'=k
     · exact e'.symm
     · rw [Y2 e'] at a2
       exact absurd rfl (hd a2 a4).2
   · rw [Y2 e] at a1
     by_cases e':k'=nm
     · subst e'
       rw [XC] at a2;cases a2
       exact absurd rfl (hd a1 a3).2
     · rw [Y2 e'] at a2
       exact h.inj a1 a2 a3 a4
 · by_cases e:k=nm
   · subst e
     rw [XC] at hk;cases hk
     exact⟨hc,hgl⟩
   · rw [Y2 e] at hk
     exact⟨(h.lt hk).1,Nat.lt_of_lt_of_le (h.lt hk).2 hg.size⟩
theorem HR.alloc{ob:Ob}{rb:Obj}(h:HR w0 β x w)(hn:β nm=none)(hc:nm<x.c)(hx:x.get nm=some ob)(ho:OR (up β nm (w.heap.size,c)) c ob rb):HR w0 (up β nm (w.heap.size,c)) x (w.alloc rb):=
 h.grown (row:=none) hn hc hx (World.grownBy_alloc w rb none) (fun _ e=>by cases e) (fun {k b c o} hk _=>⟨by simp,fun e=>by have:=(h.lt hk).2;omega⟩) (heap_alloc_new w rb) (.inl h.below.size) ho
theorem HR.turn{ob:Ob}{rb:Obj}{o0:Ob}(h:HR w0 β x w)(hb:β k=some (b,c))(hk:x.get k=some o0)(hg:w.grownBy w' (some b))(h1:w'.heap[b]? =some rb)(ho:OR β c ob rb):HR w0 β (x.set k ob) w':=by
 have hb0:=(h.obj hb hk).1
 refine⟨h.below.grown hg (fun k e=>by cases e;exact hb0),fun {j b' c' o} hj hj'=> ?_,fun {j j' b c c' o o'} a1 a2 a3 a4=> ?_,fun {j b c} hj=>⟨(h.lt hj).1,Nat.lt_of_lt_of_le (h.lt hj).2 hg.size⟩⟩
 · rw [X.get_set] at hj'
   by_cases e:k=j
   · subst e
     rw [hb] at hj;cases hj
     simp at hj';subst hj'
     exact⟨hb0,rb,h1,ho⟩
   · rw [if_neg e] at hj'
     obtain⟨h2,ob',h3,h4⟩:=h.obj hj hj'
     refine⟨h2,ob',?_,h4⟩
     rw [hg.block b' (h.lt hj).2 ?_];exact h3
     intro e'
     injection e' with e';subst e'
     exact e (h.inj hb hj hk hj')
 · have key:∀{j o},(x.set k ob).get j=some o->∃o',x.get j=some o':=fun {j o} hj=>by
     rw [X.get_set] at hj
     by_cases e:k=j
     · subst e;exact⟨_,hk⟩
     · rw [if_neg e] at hj;exact⟨_,hj⟩
   obtain⟨_,g3⟩:=key a3
   obtain⟨_,g4⟩:=key a4
   exact h.inj a1 a2 g3 g4
noncomputable def Zf4(l:List V)(i:Nat):Option V:=List.rec (motive:=fun _=>Nat->Option V) (fun _=>none) (fun a _ ih i=>Bool.rec (ih (Nat.pred i)) (some a) (Nat.beq i 0)) l i
noncomputable def Zfq(l:List V)(i:Nat)(v:V):List V:=List.rec (motive:=fun _=>Nat->List V) (fun _=> []) (fun a r ih i=>Bool.rec (a::ih (Nat.pred i)) (v::r) (Nat.beq i 0)) l i
noncomputable def Vs(l:List V):Nat:=List.rec 0 (fun _ _ ih=>Nat.add ih 1) l
noncomputable def ovr(l:List V)(off:Nat)(vs:List V):List V:=List.rec (motive:=fun _=>Nat->List V->List V) (fun _ l=>l) (fun v _ ih off l=>ih (off+1) (Zfq l off v)) vs off l
noncomputable def rdN(l:List V)(off n:Nat):Option (List V):=Nat.rec (motive:=fun _=>Nat->Option (List V)) (fun _=>some []) (fun _ ih off=>Option.rec none (fun v=>Option.rec none (fun vs=>some (v::vs)) (ih (off+1))) (Zf4 l off)) n off
theorem Zbz:∀(l:List V) (i:Nat),Zf4 l i=l[i]?
 | [],i=>by simp;rfl
 |a::l,0=>rfl
 | a::l,i+1=>by
   rw [List.getElem?_cons_succ,<-Zbz l i];rfl
theorem Za3(v:V):∀(l:List V) (i:Nat),Zfq l i v=l.set i v
 | [],i=>rfl
 |a::l,0=>rfl
 | a::l,i+1=>by
   rw [List.set_cons_succ,<-Za3 v l i];rfl
theorem YD:∀(l:List V),Vs l=l.length
 | []=>rfl
 |a::l=>by rw [List.length_cons,<-YD l];rfl
theorem ZfA:∀(vs l:List V) (off:Nat),off+vs.length<=l.length->ovr l off vs=l.take off++vs++l.drop (off+vs.length)
 | [],l,off,h=>by
   show l=_
   simp
 | v ::vs,l,off,h=>by
   simp only [List.length_cons] at h
   have hlt:off<l.length:=Oa
   have e1:(l.set off v).take (off+1)=l.take off++ [v]:=by
     rw [List.take_set,List.take_succ_eq_append_getElem hlt,List.set_append_right _ _ (by simp;omega)]
     simp [Nat.min_eq_left (Nat.le_of_lt hlt)]
   have e2:(l.set off v).drop (off+1+vs.length)=l.drop (off+(v::vs).length):=by
     rw [List.drop_set_of_lt Oa];congr 1;simp;omega
   have ih:=ZfA vs (l.set off v) (off+1) (by simp;omega)
   have e:ovr l off (v::vs)=ovr (Zfq l off v) (off+1) vs:=rfl
   rw [e,Za3,ih,e1,e2]
   simp
theorem Zfr:∀{n:Nat} {l:List V} {off:Nat} {vs:List V},rdN l off n=some vs->(n=0\/off+n<=l.length)/\vs=(l.drop off).take n
 |0,l,off,vs,h=>by injection h with h;subst h;exact⟨.inl rfl,by simp⟩
 | n + 1,l,off,vs,h=>by
   have e:rdN l off (n+1)=Option.rec none (fun v=>Option.rec none (fun vs=>some (v::vs)) (rdN l (off+1) n)) (Zf4 l off):=rfl
   rw [e,Zbz] at h
   cases hg:l[off]? with
   |none=>rw [hg] at h;cases h
   | some v=>
     rw [hg] at h
     have hlt:=(List.getElem?_eq_some_iff.1 hg).1
     cases hr:rdN l (off+1) n with
     |none=>rw [hr] at h;cases h
     | some vs'=>
       rw [hr] at h
       injection h with h;subst h
       obtain⟨h1,h2⟩:=Zfr hr
       refine⟨.inr (by rcases h1 with h1|h1<;>omega),?_⟩
       rw [h2,List.drop_eq_getElem_cons hlt,List.take_succ_cons]
       congr 1
       exact((List.getElem?_eq_some_iff.1 hg).2).symm
theorem KC(w:World)(g:Nat)(cs:Array Value):w.grownBy (w.setRow g cs) (some g):=⟨rfl,rfl,rfl,by simp,fun k _ hk=>setRow_other w g k cs (fun e=>hk (by rw [e]))⟩
theorem HR.write{vs:List V}{us:List Value}(h:HR w0 β x w)(hb:β k=some (b,c))(hk:x.get k=some (.cells l E o))(hv:VRs β vs us)(h1:vs.all one=true)(hl:off+vs.length<=l.length):
   ∃w',(storeCells ⟨b,off,none⟩ us 0).run P w= .ok () w'/\HR w0 β (x.set k (.cells (ovr l off vs) E o)) w':=by
 obtain⟨h2,l1,l2,h3,h4,h5⟩:=h.cells hb hk
 have hll:=h4.len
 have hul:=hv.len
 refine⟨_,run_storeCells_at P b off E us 0 _ w h3 (by simp;omega) (hv.one h1),h.turn hb hk (KC w b _) (setRow_heap w b _ _ E (0,0) h3) ?_⟩
 refine⟨l1.take off++us++l1.drop (off+us.length),l2,?_,?_,?_⟩
 · congr 1
   simp only [Nat.add_zero,List.append_assoc]
   rw [List.take_append_of_le_length Oa,List.drop_append_of_le_length Oa]
 · rw [hul,ZfA _ _ _ hl];exact((h4.take off).app hv).app (h4.drop _)
 · have e:(l1.take off++us++l1.drop (off+us.length)).length=l1.length:=by simp;omega
   rw [e];exact h5
noncomputable def rdn(x:X)(k off n:Nat):Option (List V):=match x.get k with
  |some (.cells l _ _)=>rdN l off n
  |_=>none
theorem Uc {n:Nat} {vs:List V} (h:HR w0 β x w) (hb:β k=some (b,c)) (hr:rdn x k off n=some vs):∃us,us.length=n/\VRs β vs us/\∀j u,us[j]? =some u->w.cell? ((⟨b,off,none⟩:Addr).add j)=some u:=by
 unfold rdn at hr
 split at hr
 · rename_i l E o hk
   obtain⟨hc,rfl⟩:=Zfr hr
   obtain⟨_,l1,l2,h3,h4,_⟩:=h.cells hb hk
   have hll:=h4.len
   refine⟨(l1.drop off).take n,?_,(h4.drop off).take n,fun j u hj=> ?_⟩
   · rcases hc with rfl|hc
     · simp
     · simp;omega
   · rw [List.getElem?_take] at hj
     split at hj
     · rename_i hjn
       rw [List.getElem?_drop] at hj
       rw [Addr.add_lit]
       have hlt:=(List.getElem?_eq_some_iff.1 hj).1
       simp only [World.cell?,h3,Option.isSome_none,Bool.false_eq_true,if_false]
       rw [List.getElem?_toArray,List.getElem?_append_left hlt];exact hj
     · cases hj
 · cases hr
noncomputable def KV(P:Program)(K:TypeId)(key:V):Bool:=match P.underlying K,key with
  | some (.array 2 E),.agg [a,b]=>T5 P E&&(match P.info? E with
    |some i=>Nat.beq i.size 1
    |none=>false)
  |_,_=>false
noncomputable def ZeA(P:Program)(K:TypeId)(key:V):List (V×V)->Option (Option V)
  | []=>some none
  | (k,v)::r=>match eqv P K key k with
    |some true=>some (some v)
    |some false=>ZeA P K key r
    |none=>none
noncomputable def ZkO(P:Program)(K E:TypeId)(key:V)(ok:Bool)(l:List (V×V)):Option V:=bif !(KV P K key) then none else match ZeA P K key l with
  |some (some v)=>some (bif ok then .tup [v,.bool true] else v)
  | some none=>match ZM P E with
    | some (z,_,_)=>match cv z with
      |some v=>some (bif ok then .tup [v,.bool false] else v)
      |none=>none
    |none=>none
  |none=>none
theorem Uk {key : V} {K:TypeId} {u:Value} (h:KV P K key=true) (hv:VR β key u) (em:Bool) (w:World):(Instr.checkKey em 10000 K u).run P w= .ok () w:=by
 unfold KV at h
 split at h
 · rename_i E a b hu
   simp only [Bool.and_eq_true] at h
   obtain⟨hT,hs⟩:=h
   split at hs
   · rename_i i hi
     rw [ZI] at hs
     cases hv with
     | agg hl=>
       cases hl with
       | @cons _ u1 _ _ g1 hl=>cases hl with
         | @cons _ u2 _ _ g2 hl=>cases hl with
           | nil =>
             have p1:=Xn (P:=P) hT (us:= [u1,u2]) (i:=0) rfl w
             have p2:=Xn (P:=P) hT (us:= [u1,u2]) (i:=1) rfl w
             have ck:∀u w,(Instr.checkKey em 9999 E u).run P w= .ok () w:=fun u w=>by
               unfold T5 at hT
               split at hT
               · rename_i k hk
                 show(Instr.checkKey em (9998+1) E u).run P w=_
                 unfold Instr.checkKey
                 simp [run_underlying hk]
               · cases hT
             show(Instr.checkKey em (9999+1) K _).run P w=_
             unfold Instr.checkKey
             simp [run_underlying hu,sizeOf,typeInfo,hi,hs,Std.Legacy.Range.forIn_eq_forIn_range',Std.Legacy.Range.size,List.range',p1,p2,ck]
   · cases hs
 · cases h
theorem Zf9{key:V}{K:TypeId}{u:Value}(hv:VR β key u)(w:World):∀{l:List (V×V)} {es:List MapEntry} {r:Option V} (i:Nat),MRs β l es->ZeA P K key l=some r->
   ∃q,(Instr.findAsking K u es i).run P w= .ok q w/\((r=none/\q=none)\/∃v j u',r=some v/\q=some (j,u')/\VR β v u')
 | [],_,r,i,.nil,h=>by
   injection h with h;subst h
   exact⟨none,by simp [Instr.findAsking],.inl ⟨rfl,rfl⟩⟩
 | (k,v)::l,_,r,i,.cons a b c,h=>by
   unfold ZeA at h
   split at h
   · rename_i he
     injection h with h;subst h
     exact⟨some (i,_),by simp [Instr.findAsking,Zaj he hv a w],.inr ⟨_,i,_,rfl,rfl,b⟩⟩
   · rename_i he
     obtain⟨q,h1,h2⟩:=Zf9 hv w (i+1) c h
     exact⟨q,by simp [Instr.findAsking,Zaj he hv a w,h1],h2⟩
   · cases h
theorem ZfU{key:V}{K:TypeId}(h:KV P K key=true):∃E,P.underlying K=some (.array 2 E):=by
 unfold KV at h
 split at h
 · rename_i hu;exact⟨_,hu⟩
 · cases h
theorem Zaa{key:V}{K:TypeId}{u:Value}(hk:KV P K key=true)(hv:VR β key u)(w:World){l:List (V×V)}{es:List MapEntry}{r:Option V}(hm:MRs β l es)(h:ZeA P K key l=some r):
   ∃q,(Instr.findKey K u es).run P w= .ok q w/\((r=none/\q=none)\/∃v j u',r=some v/\q=some (j,u')/\VR β v u'):=by
 obtain⟨q,h1,h2⟩:=Zf9 (P:=P) hv w 0 hm h
 refine⟨q,?_,h2⟩
 obtain⟨E,hu⟩:=ZfU hk
 rw [<-h1]
 cases es with
 |nil=>simp [Instr.findKey,run_underlying hu,Instr.findNow,Instr.findAsking]
 |cons e es=>simp [Instr.findKey,run_underlying hu,Instr.findNow,Instr.sameNow]
theorem Vl{b:Nat}{es:Array MapEntry}{ck:Nat}(h:w.heap[b]? =some (.map es ck)):(getObj b).run P w= .ok (.map es ck) w:=by simp [getObj,Sem.run,h]
theorem Zcn{b:Nat}{es:Array MapEntry}{ck:Nat}(o:Obj)(h:w.heap[b]? =some (.map es ck)):(setObj b o).run P w= .ok () (w.putObj b o):=by simp [setObj,Sem.run,h,World.putObj]
theorem ZiJ {key v:V} {T K E:TypeId} {u:Value} {ok:Bool} {l:List (V×V)} {es:List MapEntry} {ck b:Nat} (hT:P.underlying T=some (.map K E)) (hv:VR β key u) (hm:MRs β l es) (hb:w.heap[b]? =some (.map es.toArray ck)) (h:ZkO P K E key ok l=some v):
   ∃u',(Instr.lookup T (.map (some b)) u ok).run P w= .ok u' w/\VR β v u':=by
 unfold ZkO at h
 cases hk:KV P K key with
 |false=>rw [hk] at h;cases h
 | true=>
   rw [hk] at h
   split at h
   · rename_i v0 hf
     injection h with h;subst h
     obtain⟨q,h1,h2⟩:=Zaa hk hv w hm hf
     rcases h2 with⟨h2,_⟩|⟨v1,j,u',h2,rfl,h3⟩
     · cases h2
     · injection h2 with h2;subst h2
       refine⟨if ok=true then .tuple #[u',.bool true] else u',?_,?_⟩
       · cases ok<;>simp [Instr.lookup,run_underlying hT,Vl hb,Uk hk hv,h1]
       · cases ok
         · exact h3
         · exact .tup (.cons h3 (.cons (.bool _) .nil))
   · rename_i hf
     split at h
     · rename_i z s bt hz
       split at h
       · rename_i v1 hc
         injection h with h;subst h
         obtain⟨q,h1,h2⟩:=Zaa hk hv w hm hf
         rcases h2 with⟨_,rfl⟩|⟨v1,j,u',h2,_⟩
         · obtain⟨i,hi,hzz,_,_⟩:=Yn hz
           refine⟨if ok=true then .tuple #[z,.bool false] else z,?_,?_⟩
           · cases ok<;>simp [Instr.lookup,run_underlying hT,Vl hb,Uk hk hv,h1,zeroValue,typeInfo,hi,hzz]
           · cases ok
             · exact ZdH hc
             · exact .tup (.cons (ZdH hc) (.cons (.bool _) .nil))
         · cases h2
       · cases h
     · cases h
   · cases h
theorem HR.mapAt{l:List (V×V)}(h:HR w0 β x w)(hb:β k=some (b,c))(hk:x.get k=some (.map l)):w0.own b/\∃es ck,w.heap[b]? =some (.map es.toArray ck)/\MRs β l es:=by
 obtain⟨h1,ob,h2,es,ck,rfl,h3⟩:=h.obj hb hk
 exact⟨h1,es,ck,h2,h3⟩
noncomputable def exL(P:Program)(ρ:Operand->Option V)(x:X)(o:Op):Option V:=match o with
  | .load T a=>match ρ a with
    | some (.p k off)=>bif ZB P T then(match rdn x k off 1 with
      |some [v]=>some v
      |_=>none) else match ZjK P T with
      |some n=>(rdn x k off n).map .agg
      |none=>none
    |_=>none
  | .lookup T m k ok=>match ρ m,ρ k,P.underlying T with
    | some (.mp b),some key,some (.map K E)=>match x.get b with
      |some (.map l)=>ZkO P K E key ok l
      |_=>none
    |_,_,_=>none
  |_=>none
variable {ρ:Operand->Option V} {ρ':Operand->Value}
theorem ZcF (h:HR w0 β x w) (hρ:Ve β ρ ρ') {o:Oper} {v:V} (he:exL P ρ x o.op=some v):∃u,(execOp ρ' o).run P w= .ok (.value u) w/\VR β v u:=by
 obtain⟨dst,op,ty,pos,after,guard⟩:=o
 dsimp only at he
 unfold exL at he
 split at he
 · rename_i T a
   split at he
   · rename_i k off ha
     have hv:=hρ _ _ ha
     generalize hu:ρ' a=u at hv
     cases hv with
     | p hb=>
       cases hp:ZB P T with
       | true=>
         rw [hp] at he
         dsimp only [cond_true] at he
         cases hr:rdn x k off 1 with
         |none=>rw [hr] at he;cases he
         | some vs=>
           rw [hr] at he
           obtain⟨us,h1,h2,h3⟩:=Uc h hb hr
           have he':vs[0]? =some v:=by
             split at he
             · rename_i v' e;injection e with e;subst e;simpa using he
             · cases he
           obtain⟨u,h4,h5⟩:=h2.get he'
           obtain⟨⟨d,hd,hA⟩,_⟩:=XE (w:=w) hp
           have h6:=h3 0 u h4
           refine⟨u,?_,h5⟩
           simp [execOp,hu,Instr.loadAt,Instr.sureAddr,loadVar,hA]
           simp [Addr.add] at h6
           simp [h6]
       | false=>
         rw [hp] at he
         dsimp only [cond_false] at he
         split at he
         · rename_i n hn
           cases hr:rdn x k off n with
           |none=>rw [hr] at he;cases he
           | some vs=>
             rw [hr] at he;injection he with he;subst he
             obtain⟨us,h1,h2,h3⟩:=Uc h hb hr
             obtain⟨g1,g2⟩:=ZhH (w:=w) hn
             subst h1
             exact⟨.agg us.toArray,by simp [execOp,hu,Instr.loadAt,Instr.sureAddr,loadVar,g1,g2,run_loadCells_list (P:=P) w _ us h3],.agg h2⟩
         · cases he
   · cases he
 · rename_i T m kk okk
   split at he
   · rename_i b0 key K E hm hkk hT
     split at he
     · rename_i l hl
       have hv:=hρ _ _ hm
       generalize hu:ρ' m=u at hv
       cases hv with
       | mp hb=>
         obtain⟨_,es,ck,h1,h2⟩:=h.mapAt hb hl
         obtain⟨u',h3,h4⟩:=ZiJ hT (hρ _ _ hkk) h2 h1 he
         exact⟨u',by simp [execOp,hu,h3],h4⟩
     · cases he
   · cases he
 · cases he
theorem VRs.map{α:Type}{f:α->V}{g:α->Value}:∀{is:List α},(∀i∈is,VR β (f i) (g i))->VRs β (is.map f) (is.map g)
 | [],_=> .nil
 |i::is,h=> .cons (h i (by simp)) (VRs.map fun j hj=>h j (by simp [hj]))
noncomputable def Za6(zl:List V)(n:Nat):List V:=(List.range n).map fun j=>zl.getD (j%zl.length) .pn
theorem US{zl:List V}{zs:List Value}(h:VRs β zl zs){n:Nat}(hn:n=0\/zl≠ []):VRs β (Za6 zl n) ((Array.range n).map (zs.toArray[· %zs.toArray.size]!)).toList:=by
 rw [Array.toList_map,Array.toList_range]
 refine VRs.map fun j hj=> ?_
 have hj':j<n:=by simpa using hj
 have xa:=h.len
 have h0:zl.length≠0:=by
   rcases hn with hn|hn
   · omega
   · simpa using hn
 have hlt:j%zl.length<zl.length:=Nat.mod_lt _ Oa
 obtain⟨u,h1,h2⟩:=h.get (List.getElem?_eq_getElem hlt)
 have e1:zl.getD (j%zl.length) .pn=zl[j%zl.length]:=by simp [hlt]
 have e2:zs.toArray[j%zs.toArray.size]! =u:=by
   have:(zs[j%zs.length]?)=some u:=by rw [xa];exact h1
   simp [this]
 rw [e1,e2];exact h2
noncomputable def exA(P:Program)(ρ:Operand->Option V)(nm:Nat)(o:Op):Option (List V×Nat×V):=match o with
  | .alloc E=>match ZM P E with
    | some (z,_,_)=>match cl z.cells.toList with
      |some l=>some (l,E,.p nm 0)
      |none=>none
    |none=>none
  | .box E a=>match ρ a with
    |some v=>some (Xf v,E,.p nm 0)
    |none=>none
  | .buildSlice T len parts=>match Zr P T with
    | some (E,s)=>match ZM P E,Vo ρ parts.toList with
      | some (z,_,_),some ps=>match cl z.cells.toList with
        | some zl=>bif Nat.beq zl.length s&& !Nat.beq s 0&&Nat.ble (len*s) 16777216 then
            match RX (fun i=>some (i*s,s)) (Za6 zl (len*s)) ps with
            |some r=>some (r,E,.s nm 0 len len)
            |none=>none
          else none
        |none=>none
      |_,_=>none
    |none=>none
  | .makeSlice T a b=>match Zr P T with
    | some (E,s)=>match ZM P E,ρ a,ρ b with
      | some (z,_,bytes),some (.int _ n),some (.int _ c)=>match cl z.cells.toList with
        |some zl=>if Nat.beq zl.length s&& !Nat.beq s 0&&decide (0<=n)&&decide (n<=c)&&decide ((bytes:Int)*c<=281474976710656)&&decide (c<=9223372036854775807) then
            some (Za6 zl (c.toNat*s),E,.s nm 0 n.toNat c.toNat) else none
        |none=>none
      |_,_,_=>none
    |none=>none
  |_=>none
theorem Zgp (hρ : Ve β ρ ρ') {o:Oper} {r:List V} {v:V} (he:exA P ρ nm o.op=some (r,E,v)):
   ∃us,VRs β r us/\∀w,∃u,(execOp ρ' o).run P w= .ok (.value u) (w.alloc (.cells us.toArray E))/\∀β',β' nm=some (w.heap.size,0)->VR β' v u:=by
 obtain⟨dst,op,ty,pos,after,guard⟩:=o
 dsimp only at he
 unfold exA at he
 split at he
 · rename_i T
   split at he
   · rename_i z s bt hz
     split at he
     · rename_i l hl
       injection he with he
       injection he with h1 he
       injection he with h2 h3
       subst h1;subst h2;subst h3
       obtain⟨i,hi,hzz,_,_⟩:=Yn hz
       exact⟨z.cells.toList,WM hl,fun w=>⟨_,by simp [execOp,Instr.alloc,zeroValue,typeInfo,hi,hzz,newVar,newRow],fun β' hb=> .p hb⟩⟩
     · cases he
   · cases he
 · rename_i T a
   split at he
   · rename_i v0 ha
     injection he with he
     injection he with h1 he
     injection he with h2 h3
     subst h1;subst h2;subst h3
     exact⟨(ρ' a).cells.toList,(hρ _ _ ha).cells,fun w=>⟨_,by simp [execOp,Instr.box,newVar,newRow],fun β' hb=> .p hb⟩⟩
   · cases he
 · rename_i T len parts
   split at he
   · rename_i E' s ht
     split at he
     · rename_i z s' bt ps hz hps
       split at he
       · rename_i zl hzl
         cases hc:(Nat.beq zl.length s&& !Nat.beq s 0&&Nat.ble (len*s) 16777216) with
         |false=>rw [hc] at he;cases he
         | true=>
           rw [hc] at he
           dsimp only [cond_true] at he
           split at he
           · rename_i r' hf
             injection he with he
             injection he with h1 he
             injection he with h2 h3
             subst h1;subst h2;subst h3
             simp only [Bool.and_eq_true,Bool.not_eq_true',ZT,ZI] at hc
             obtain⟨⟨c1,c2⟩,c3⟩:=hc
             have hs0:s≠0:=fun e=>by subst e;simp at c2
             obtain⟨hu,i,hi,hs⟩:=Zq ht
             obtain⟨i',hi',hzz,_,_⟩:=Yn hz
             rw [hi] at hi';cases hi'
             have yX:=WM (β:=β) hzl
             have yA:=US yX (n:=len*s) (.inr (fun e=>by rw [e] at c1;simp at c1;omega))
             obtain⟨cs,h4,h5⟩:=UW hρ _ parts.toList ps hps _ _ _ yA hf
             refine⟨cs,h5,fun w=>⟨.slice (some ⟨w.heap.size,0,none⟩) len len,?_,fun β' hb=> .s hb⟩⟩
             have e1:Instr.fill (fun i=>some (i*s,s)) ((Array.range (len*s)).map (z.cells[· %z.cells.size]!)) (parts.toList.map fun x=>(x.1,ρ' x.2))=some cs.toArray:=by simp only [Array.toArray_toList] at h4;exact h4
             have aR:¬16777216<len*s:=Oa
             by_cases h0:len*s=0
             · rw [h0] at e1
               have e2:Instr.fill (fun i=>some (i*s,s)) #[] (parts.toList.map fun x=>(x.1,ρ' x.2))=some cs.toArray:=by
                 simpa [Array.range_zero'] using e1
               simp [execOp,Instr.buildSlice,run_underlying hu,sizeOf,typeInfo,hi,hs,h0,Array.range_zero',e2,newRow]
             · simp [execOp,Instr.buildSlice,run_underlying hu,sizeOf,typeInfo,hi,hs,h0,aR,zeroValue,hzz,e1,newRow]
           · cases he
       · cases he
     · cases he
   · cases he
 · rename_i T a b
   split at he
   · rename_i E' s ht
     split at he
     · rename_i z s' bytes k n k' c hz ha hb
       split at he
       · rename_i zl hzl
         split at he
         · rename_i hc
           injection he with he
           injection he with h1 he
           injection he with h2 h3
           subst h1;subst h2;subst h3
           simp only [Bool.and_eq_true,Bool.not_eq_true',ZI,decide_eq_true_eq] at hc
           obtain⟨⟨⟨⟨⟨c1,c2⟩,c3⟩,c4⟩,c5⟩,c6⟩:=hc
           have hs0:s≠0:=fun e=>by subst e;simp at c2
           obtain⟨hu,i,hi,hs⟩:=Zq ht
           obtain⟨i',hi',hzz,_,hby⟩:=Yn hz
           rw [hi] at hi';cases hi'
           have yX:=WM (β:=β) hzl
           have yA:=US yX (n:=c.toNat*s) (.inr (fun e=>by rw [e] at c1;simp at c1;omega))
           have hva:=hρ _ _ ha
           have hvb:=hρ _ _ hb
           generalize hua:ρ' a=ua at hva
           generalize hub:ρ' b=ub at hvb
           cases hva;cases hvb
           simp only [Array.toArray_toList] at yA
           refine⟨_,yA,fun w=>⟨.slice (some ⟨w.heap.size,0,none⟩) n.toNat c.toNat,?_,fun β' hb=> .s hb⟩⟩
           have:=run_make (P:=P) w T E' i z hu hi hzz k k' n c c3 c4 (by rw [hby];exact c5) c6
           rw [hs] at this
           simp only [execOp,hua,hub]
           rw [Sem.run_bind,this,Array.toArray_toList]
           rfl
         · cases he
       · cases he
     · cases he
   · cases he
 · cases he
end
end Go.Proofs.Ev
namespace Go.Proofs.Ev
open Go Go.RowKit Go.Proofs.Gw
section
variable {P:Program} {β:Env} {x x':X} {w w':World} {w0:Base} {nm k b c off:Nat} {l:List V} {E:Nat} {o:Option Nat} {ρ:Operand->Option V} {ρ':Operand->Value} {T:TypeId}
noncomputable def Left(w0:Base)(β:Env)(x x':X)(nm:Nat)(v:V)(w':World)(u:Value):Prop:=x'.c=x.c/\∃β',VR β' v u/\HR w0 β' x' w'/\∀k,k≠nm->β' k=β k
theorem Left.same{v:V}{u:Value}(hv:VR β v u)(hc:x'.c=x.c)(h:HR w0 β x' w'):Left w0 β x x' nm v w' u:=⟨hc,β,hv,h,fun _ _=>rfl⟩
noncomputable def Zh7(x:X)(n:Nat):V->Option (List V)
  | .sn=>some []
  | .s k off _ _=>rdn x k off n
  | .su k _=>rdn x k 0 n
  | .so k off m=>bif Nat.beq m 0 then none else rdn x k off n
  |_=>none
theorem Zfg {n s m:Nat} {v:V} {u:Value} {vs:List V} (h:HR w0 β x w) (hv:VR β v u) (hm:UN v=some m) (hs:Zh7 x (n*s) v=some vs) (hn:n<=m):
   ∃us,us.length=n*s/\VRs β vs us/\(Builtin.firstCells s n u).run P w= .ok us.toArray w/\((v= .sn/\u=Oh/\us= []/\n=0)\/∃a cap,u= .slice (some a) m cap/\∀j t,us[j]? =some t->w.cell? (a.add j)=some t):=by
 cases hv with
 | sn=>
   injection hs with hs;subst hs
   injection hm with hm;subst hm
   obtain rfl:n=0:=Oa
   exact⟨[],by simp,.nil,by simp [Builtin.firstCells],.inl ⟨rfl,rfl,rfl,rfl⟩⟩
 | @s k off n' cap b c hb=>
   injection hm with hm;subst hm
   obtain⟨us,h1,h2,h3⟩:=Uc h hb hs
   exact⟨us,h1,h2,run_firstCells_some w s n _ _ cap us h1 h3,.inr ⟨_,_,rfl,h3⟩⟩
 | @su k n' b c hb hn'=>
   injection hm with hm;subst hm
   obtain⟨us,h1,h2,h3⟩:=Uc h hb hs
   exact⟨us,h1,h2,run_firstCells_some w s n _ _ _ us h1 h3,.inr ⟨_,_,rfl,h3⟩⟩
 | @so k off n' b c o cap hb hn' ho=>
   injection hm with hm;subst hm
   unfold Zh7 at hs
   dsimp only at hs
   cases hz:Nat.beq n' 0 with
   |true=>rw [hz] at hs;cases hs
   | false=>
     rw [hz] at hs
     dsimp only [cond_false] at hs
     rcases ho with ho|ho
     · subst ho;simp at hz
     · subst ho
       obtain⟨us,h1,h2,h3⟩:=Uc h hb hs
       exact⟨us,h1,h2,run_firstCells_some w s n _ _ _ us h1 h3,.inr ⟨_,_,rfl,h3⟩⟩
 |_=>cases hm
noncomputable def Zlq(P:Program)(x:X)(nm:Nat)(T:TypeId)(sv yv:V):Option (V×X):=
  match Zr P T with
  |none=>none
  | some (E,s)=>match ZM P E,UN sv,UN yv with
    | some (z,_,bt),some n,some m=>
      bif Nat.beq s 0|| !Nat.ble ((n+m)*bt) 140737488355328|| !Nat.ble (n+m) 1000000000|| !Nat.beq z.cells.size s then none else
      match Zh7 x (m*s) yv with
      |none=>none
      | some new=>
        bif !new.all one then none else
        match sv with
        | .sn=>bif Nat.beq m 0 then some (.sn,x) else some (.su nm m,x.set nm (.cells new E (some s)))
        | .s k off n cap=>
          bif Nat.ble (n+m) cap then
            match x.get k with
            |some (.cells l E' o)=>bif Nat.ble (off+n*s+Vs new) (Vs l) then some (.s k off (n+m) cap,x.set k (.cells (ovr l (off+n*s) new) E' o)) else none
            |_=>none
          else bif Nat.beq m 0 then none else match rdn x k off (n*s) with
            |some old=>some (.su nm (n+m),x.set nm (.cells (old++new) E (some s)))
            |none=>none
        | .su k n=>match x.get k with
          | some (.cells l E' (some s'))=>
            bif !Nat.beq s' s|| !Nat.beq E' E then none else
            bif Nat.ble (n*s+Vs new) (Vs l) then some (.su k (n+m),x.set k (.cells (ovr l (n*s) new) E (some s)))
            else bif Nat.beq (n*s) (Vs l) then some (.su nm (n+m),(x.kill k).set nm (.cells (l++new) E (some s))) else none
          |_=>none
        |_=>none
    |_,_,_=>none
theorem WS{z:Array Value}{s n:Nat}(h:z.size=s):(Builtin.zeroCells z n).toList.length=n*s:=by simp [Builtin.zeroCells,h]
theorem ZiX (h : HR w0 β x w) (hn:β nm=none) (hc:nm<x.c) {sv yv r:V} {su yu:Value} (hs:VR β sv su) (hy:VR β yv yu) (he:Zlq P x nm T sv yv=some (r,x')) (ty:TypeId):
   ∃u w',(Builtin.append_ #[T,T] ty #[su,yu]).run P w= .ok u w'/\Left w0 β x x' nm r w' u:=by
 unfold Zlq at he
 split at he
 · cases he
 rename_i E s ht
 split at he
 case h_2=>cases he
 rename_i z s0 bt n m hz hln hlm
 obtain⟨hut,_⟩:=Zq ht
 obtain⟨i,hi,hzz,cN,hby⟩:=Yn hz
 obtain⟨_,i',hi',hsz⟩:=Zq ht
 rw [hi] at hi';cases hi'
 cases hcc:(Nat.beq s 0|| !Nat.ble ((n+m)*bt) 140737488355328|| !Nat.ble (n+m) 1000000000|| !Nat.beq z.cells.size s) with
 |true=>rw [hcc] at he;cases he
 | false =>
   rw [hcc] at he
   dsimp only [cond_false] at he
   simp only [Bool.or_eq_false_iff,Bool.not_eq_false',ZT,ZI] at hcc
   obtain⟨⟨⟨c1,c2⟩,c3⟩,c4⟩:=hcc
   have hs0:s≠0:=fun e=>by subst e;simp at c1
   split at he
   · cases he
   rename_i new zt
   obtain⟨us,hul,hus,hfc,hya⟩:=Zfg (P:=P) (s:=s) h hy hlm zt (Nat.le_refl m)
   cases qk:new.all one with
   |false=>rw [qk] at he;cases he
   | true=>
     rw [qk] at he
     simp only [Bool.not_true,cond_false] at he
     have hu1:=hus.one qk
     have kL:UN yv=some m:=hlm
     have hnl:=hus.len
     cases hs with
     | sn=>
       injection hln with hln;subst hln
       dsimp only at he
       cases hm0:Nat.beq m 0 with
       | true=>
         rw [hm0] at he
         injection he with he;injection he with e1 e2;subst e1;subst e2
         rw [ZI] at hm0;subst hm0
         refine⟨Oh,w,?_,.same .sn rfl h⟩
         rcases hya with⟨_,rfl,_⟩|⟨a,cap,rfl,_⟩
         · simp [Builtin.append_,run_underlying hut,sizeOf,typeInfo,hi,Builtin.lenOf,Builtin.firstCells]
         · have gN:us= []:=by simpa using hul
           subst gN
           rw [<-hsz] at hfc
           simp [Builtin.append_,run_underlying hut,sizeOf,typeInfo,hi,Builtin.lenOf,hfc]
       | false=>
         rw [hm0] at he
         injection he with he;injection he with e1 e2;subst e1;subst e2
         have hm1:m≠0:=fun e=>by subst e;simp at hm0
         rcases hya with⟨_,_,_,h0⟩|⟨a,cap,rfl,yp⟩
         · exact absurd h0 hm1
         have hr:=run_append_nil (P:=P) w T ty E i z hut hi hzz a m cap us (by rw [hul,hsz]) yp Oa Oa (by rw [hby];rw [Nat.zero_add] at c2;omega)
         refine⟨_,_,hr,rfl,up β nm (w.heap.size,grownCap w m 0 E),.su XC (grownCap_ge w m 0 E),?_,fun k hk=>Y2 hk⟩
         have h2:=(h.pre hn (.cells new E (some s))).drew
         refine h2.alloc (ob:= .cells new E (some s)) (c:=grownCap w m 0 E) hn hc (by rw [X.get_set];simp) ⟨us,(Builtin.zeroCells z.cells (grownCap w m 0 E-m)).toList,by simp,hus.mono (Wi hn),?_,?_⟩
         · rw [hul,WS c4,<-Nat.add_mul];congr 1;have:=grownCap_ge w m 0 E;omega
         · exact grownCap_le_maxLen w m 0 E (by unfold maxLen;omega)
     | @s k off n' cap b c hb=>
       injection hln with hln;subst hln
       dsimp only at he
       cases qy:Nat.ble (n'+m) cap with
       | true=>
         rw [qy] at he
         dsimp only [cond_true] at he
         rw [ZT] at qy
         split at he
         · rename_i l E' o hk
           rw [YD,YD] at he
           cases qO:Nat.ble (off+n'*s+new.length) l.length with
           |false=>rw [qO] at he;cases he
           | true=>
             rw [qO] at he
             injection he with he;injection he with e1 e2;subst e1;subst e2
             rw [ZT] at qO
             obtain⟨w',h1,h2⟩:=h.write (P:=P) hb hk hus qk qO
             refine⟨.slice (some ⟨b,off,none⟩) (n'+m) cap,w',?_,.same (.s hb) rfl h2⟩
             rw [<-hsz] at hfc h1
             rcases hya with⟨_,rfl,_,hm⟩|⟨a,cp,rfl,_⟩
             · subst hm;rw [Nat.add_zero] at qy;simp [Builtin.append_,run_underlying hut,sizeOf,typeInfo,hi,Builtin.lenOf,qy,hfc,Addr.add_lit,h1]
             · simp [Builtin.append_,run_underlying hut,sizeOf,typeInfo,hi,Builtin.lenOf,qy,hfc,Addr.add_lit,h1]
         · cases he
       | false=>
         rw [qy] at he
         dsimp only [cond_false] at he
         have f6:¬n'+m<=cap:=fun e=>by rw [ZT.2 e] at qy;cases qy
         cases hm0:Nat.beq m 0 with
         |true=>rw [hm0] at he;cases he
         |false=>
         rw [hm0] at he
         dsimp only [cond_false] at he
         split at he
         · rename_i old zr
           injection he with he;injection he with e1 e2;subst e1;subst e2
           obtain⟨os,hol,hos,cW⟩:=Uc h hb zr
           rcases hya with⟨_,_,_,h0⟩|⟨a,cp,rfl,yp⟩
           · subst h0;simp at hm0
           have hr:=run_append_grow (P:=P) w T ty E i z hut hi hzz ⟨b,off,none⟩ n' cap os (by rw [hol,hsz]) cW a m cp us (by rw [hul,hsz]) yp Oa Oa (growslice_fits Oa (by rw [hby];exact c2))
           refine⟨_,_,hr,rfl,up β nm (w.heap.size,grownCap w (n'+m) cap E),.su XC (grownCap_ge w _ _ E),?_,fun k hk=>Y2 hk⟩
           have h2:=(h.pre hn (.cells (old++new) E (some s))).drew
           refine h2.alloc (ob:= .cells (old++new) E (some s)) (c:=grownCap w (n'+m) cap E) hn hc (by rw [X.get_set];simp) ⟨os++us,(Builtin.zeroCells z.cells (grownCap w (n'+m) cap E-(n'+m))).toList,by simp,(hos.app hus).mono (Wi hn),?_,?_⟩
           · rw [List.length_append,hul,hol,WS c4,<-Nat.add_mul,<-Nat.add_mul];congr 1;have:=grownCap_ge w (n'+m) cap E;omega
           · exact grownCap_le_maxLen w _ _ E (by unfold maxLen;omega)
         · cases he
     | @su k n' b c hb hnc=>
       injection hln with hln;subst hln
       dsimp only at he
       split at he
       · rename_i l E' s' hk
         cases hcs:(!Nat.beq s' s|| !Nat.beq E' E) with
         |true=>rw [hcs] at he;cases he
         | false =>
           rw [hcs] at he
           dsimp only [cond_false] at he
           simp only [Bool.or_eq_false_iff,Bool.not_eq_false',ZI] at hcs
           obtain⟨rfl,rfl⟩:=hcs
           obtain⟨hb0,l1,l2,g1,g2,g3,g4⟩:=h.cells hb hk
           have hll:=g2.len
           rw [YD,YD] at he
           cases qO:Nat.ble (n'*s'+new.length) l.length with
           | true=>
             rw [qO] at he
             injection he with he;injection he with e1 e2;subst e1;subst e2
             rw [ZT] at qO
             obtain⟨w',h1,h2⟩:=h.write (P:=P) hb hk hus qk qO
             have qy:n'+m<=c:=by
               have:(n'+m)*s'<=c*s':=by rw [Nat.add_mul];omega
               exact Nat.le_of_mul_le_mul_right this Oa
             refine⟨.slice (some ⟨b,0,none⟩) (n'+m) c,w',?_,.same (.su hb qy) rfl h2⟩
             rw [<-hsz] at hfc h1
             rcases hya with⟨_,rfl,_,hm⟩|⟨a,cp,rfl,_⟩
             · subst hm;rw [Nat.add_zero] at qy;simp [Builtin.append_,run_underlying hut,sizeOf,typeInfo,hi,Builtin.lenOf,qy,hfc,Addr.add_lit,h1]
             · simp [Builtin.append_,run_underlying hut,sizeOf,typeInfo,hi,Builtin.lenOf,qy,hfc,Addr.add_lit,h1]
           | false =>
             rw [qO] at he
             dsimp only [cond_false] at he
             cases bD:Nat.beq (n'*s') l.length with
             |false=>rw [bD] at he;cases he
             | true=>
               rw [bD] at he
               injection he with he;injection he with e1 e2;subst e1;subst e2
               rw [ZI] at bD
               have yk:w.ownsRow 0 E' s' (.slice (some ⟨b,0,none⟩) n' c) n' l1:=⟨by omega,.inr ⟨b,c,_,rfl,Nat.zero_le _,g1,hnc,g4,by simpa using g3,by rw [bD,<-hll];simp⟩⟩
               rcases hya with⟨_,_,rfl,h0⟩|⟨a,cp,rfl,yp⟩
               · exfalso
                 have:¬n'*s'+new.length<=l.length:=fun e=>by rw [ZT.2 e] at qO;cases qO
                 simp at hnl
                 omega
               obtain⟨u,w',hr,h2,h3,h4⟩:=V1 (P:=P) w 0 T E' i z s' bt hut hi hzz hsz hby c4 Oa _ n' l1 yk a m cp us hul yp hu1 (by unfold maxLen;omega) c2 (Nat.zero_le _) ty
               obtain⟨h5,⟨_,h6⟩|⟨g,cap',cur,rfl,hg0,hg1,hg2,hg3,hg4,hg5⟩⟩:=h2
               · exfalso
                 have:¬n'*s'+new.length<=l.length:=fun e=>by rw [ZT.2 e] at qO;cases qO
                 have hm0:m=0:=Oa
                 subst hm0
                 simp at hul
                 subst hul
                 simp at hnl
                 omega
               have hog:w0.own g:=by
                 rcases h4 with h4|h4
                 · have e:g=b:=by simpa [Value.ownBlock] using h4
                   rw [e];exact hb0
                 · exact .inl (Nat.le_trans h.below.size (h4 g (by simp [Value.ownBlock])))
               refine⟨_,w',hr,rfl,up β nm (g,cap'),.su XC hg2,?_,fun k hk=>Y2 hk⟩
               have hk':nm≠k:=fun e=>by subst e;rw [hn] at hb;cases hb
               refine((h.kill k).pre hn (.cells (l++new) E' (some s'))).grown (ob:= .cells (l++new) E' (some s')) (row:=some b) hn hc (by rw [X.get_set];simp) h3 (fun b' e=>by cases e;exact hb0) (fun {j bj cj oj} hj hj'=> ?_) hg1 hog ⟨l1++us,cur.toList.drop ((n'+m)*s'),?_,(g2.app hus).mono (Wi hn),?_,hg3⟩
               · rw [X.get_set,X.get_kill] at hj'
                 have e1:nm≠j:=fun e=>by subst e;rw [hn] at hj;cases hj
                 rw [if_neg e1] at hj'
                 by_cases e2:k=j
                 · rw [if_pos e2] at hj';cases hj'
                 · rw [if_neg e2] at hj'
                   have e3:bj≠b:=fun e=>by subst e;exact e2 (h.inj hb hj hk hj')
                   refine⟨fun e=>e3 (Option.some.inj e),fun e=> ?_⟩
                   rcases h4 with h4|h4
                   · simp [Value.ownBlock] at h4
                     exact e3 (e.trans h4)
                   · have h7:=h4 g (by simp [Value.ownBlock])
                     have h8:=(h.lt hj).2
                     omega
               · congr 1
                 rw [<-hg5,List.take_append_drop]
               · rw [<-hg5]
                 simp only [List.length_take,List.length_drop,Array.length_toList,hg4]
                 have:(n'+m)*s'<=cap'*s':=Nat.mul_le_mul_right _ hg2
                 omega
       · cases he
     |so _ _ _=>cases he
     |_=>cases hln
end
end Go.Proofs.Ev
namespace Go.Proofs.Ev
open Go Go.RowKit Go.Proofs.Gw
section
variable {P:Program} {β:Env} {x x':X} {w w':World} {w0:Base} {nm k b c off:Nat} {l:List V} {E:Nat} {o:Option Nat} {ρ:Operand->Option V} {ρ':Operand->Value} {T:TypeId}
noncomputable def wrV(x:X)(dv:V)(vs:List V):Option X:=
  bif !vs.all one then none else match dv with
  | .sn=>bif vs.isEmpty then some x else none
  | .s k off _ _=>match x.get k with
    |some (.cells l E o)=>bif Nat.ble (off+Vs vs) (Vs l) then some (x.set k (.cells (ovr l off vs) E o)) else none
    |_=>none
  | .su k _=>match x.get k with
    |some (.cells l E o)=>bif Nat.ble (0+Vs vs) (Vs l) then some (x.set k (.cells (ovr l 0 vs) E o)) else none
    |_=>none
  | .so k off m=>bif Nat.beq m 0 then none else match x.get k with
    |some (.cells l E o)=>bif Nat.ble (off+Vs vs) (Vs l) then some (x.set k (.cells (ovr l off vs) E o)) else none
    |_=>none
  |_=>none
theorem ZjQ {dv:V} {du:Value} {vs:List V} {us:List Value} (h:HR w0 β x w) (hd:VR β dv du) (hv:VRs β vs us) (he:wrV x dv vs=some x'):
   ∃a n cap w',du= .slice a n cap/\UN dv=some n/\x'.c=x.c/\HR w0 β x' w'/\((a=none/\us= []/\n=0/\w'=w)\/∃a',a=some a'/\(storeCells a' us 0).run P w= .ok () w'):=by
 unfold wrV at he
 cases h1:vs.all one with
 |false=>rw [h1] at he;cases he
 | true=>
   rw [h1] at he
   simp only [Bool.not_true,cond_false] at he
   cases hd with
   | sn=>
     dsimp only at he
     cases h2:vs.isEmpty with
     |false=>rw [h2] at he;cases he
     | true=>
       rw [h2] at he;injection he with he;subst he
       have:vs= []:=by simpa using h2
       subst this
       cases hv
       exact⟨none,0,0,w,rfl,rfl,rfl,h,.inl ⟨rfl,rfl,rfl,rfl⟩⟩
   | @s k off n cap b c hb=>
     dsimp only at he
     split at he
     · rename_i l E o hk
       rw [YD,YD] at he
       cases hf:Nat.ble (off+vs.length) l.length with
       |false=>rw [hf] at he;cases he
       | true=>
         rw [hf] at he;injection he with he;subst he
         rw [ZT] at hf
         obtain⟨w',g1,g2⟩:=h.write (P:=P) hb hk hv h1 hf
         exact⟨_,_,_,w',rfl,rfl,rfl,g2,.inr ⟨_,rfl,g1⟩⟩
     · cases he
   | @su k n b c hb hn=>
     dsimp only at he
     split at he
     · rename_i l E o hk
       rw [YD,YD] at he
       cases hf:Nat.ble (0+vs.length) l.length with
       |false=>rw [hf] at he;cases he
       | true=>
         rw [hf] at he;injection he with he;subst he
         rw [ZT] at hf
         obtain⟨w',g1,g2⟩:=h.write (P:=P) hb hk hv h1 hf
         exact⟨_,_,_,w',rfl,rfl,rfl,g2,.inr ⟨_,rfl,g1⟩⟩
     · cases he
   | @so k off n b c o cap hb hn ho=>
     dsimp only at he
     cases hz:Nat.beq n 0 with
     |true=>rw [hz] at he;cases he
     | false =>
       rw [hz] at he
       dsimp only [cond_false] at he
       rcases ho with ho|ho
       · subst ho;simp at hz
       · subst ho
         split at he
         · rename_i l E o' hk
           rw [YD,YD] at he
           cases hf:Nat.ble (o+vs.length) l.length with
           |false=>rw [hf] at he;cases he
           | true=>
             rw [hf] at he;injection he with he;subst he
             rw [ZT] at hf
             obtain⟨w',g1,g2⟩:=h.write (P:=P) hb hk hv h1 hf
             exact⟨_,_,_,w',rfl,rfl,rfl,g2,.inr ⟨_,rfl,g1⟩⟩
         · cases he
   |_=>cases he
noncomputable def ZaE(P:Program)(T T':TypeId):Bool:=bif Nat.beq T T' then true else match P.underlying T,P.underlying T' with
  |some (.slice E),some (.slice E')=>Nat.beq E E'
  |_,_=>false
theorem ZaC{T T' ty:TypeId}(h:ZaE P T T'=true)(u v:Value)(w:World):(Builtin.append_ #[T,T'] ty #[u,v]).run P w=(Builtin.append_ #[T,T] ty #[u,v]).run P w:=by
 unfold ZaE at h
 cases hT:Nat.beq T T' with
 |true=>rw [ZI] at hT;subst hT;rfl
 | false=>
   rw [hT] at h
   dsimp only [cond_false] at h
   split at h
   · rename_i E E' h1 h2
     cases u<;>simp [Builtin.append_,run_underlying h1,run_underlying h2]
   · cases h
noncomputable def eBi(P:Program)(ρ:Operand->Option V)(x:X)(nm:Nat)(c:Call):Option (V×X):=
  match c.callee with
  | .builtin .append=>match c.args.toList,c.argTypes.toList with
    | [a, b], [T,T']=>match ρ a,ρ b with
      | some (.sn),some (.int _ n)=>match Zr P T,P.underlying T' with
        | some (E,s),some (.int _)=>match ZM P E with
          | some (z,_,bt)=>match cl z.cells.toList with
            |some zl=>if decide (1<=n)&&decide (n*bt<=140737488355328)&&decide (n<=1000000000)&&Nat.beq zl.length s&& !Nat.beq s 0 then
                some (.su nm n.toNat,x.set nm (.cells (Za6 zl (n.toNat*s)) E (some s))) else
                if n=0 then some (.sn,x) else none
            |none=>none
          |none=>none
        |_,_=>none
      |some sv,some yv=>bif ZaE P T T' then Zlq P x nm T sv yv else none
      |_,_=>none
    |_,_=>none
  | .builtin .copy=>match c.args.toList,c.argTypes.toList with
    | [a, b], [T,_]=>match ρ a,ρ b,Zr P T with
      | some dv,some sv,some (E,s)=>match UN dv,UN sv with
        | some n,some m=>match Zh7 x (Nat.min m n*s) sv with
          | some vs=>match wrV x dv vs with
            |some x'=>some (.int Oi (Nat.min m n),x')
            |none=>none
          |none=>none
        |_,_=>none
      |_,_,_=>none
    |_,_=>none
  | .builtin .clear=>match c.args.toList,c.argTypes.toList with
    | [a], [T]=>match ρ a,Zr P T with
      | some dv,some (E,s)=>match UN dv,ZM P E with
        | some n,some (z,_,_)=>match cl z.cells.toList with
          | some zl=>bif Nat.beq n 0 then some (.tup [],x) else bif Nat.beq zl.length 0 then none else match wrV x dv (Za6 zl (n*zl.length)) with
            |some x'=>some (.tup [],x')
            |none=>none
          |none=>none
        |_,_=>none
      |_,_=>none
    |_,_=>none
  |_=>none
theorem Zf3(h:HR w0 β x w)(hn:β nm=none)(hc:nm<x.c){T T':TypeId}{s bt:Nat}{z:Value}{k:IntKind}{n:Int}{kk:IntKind}{zl:List V}(ht:Zr P T=some (E,s))(hk:P.underlying T'=some (.int k))(hz:∃s',ZM P E=some (z,s',bt))(hzl:cl z.cells.toList=some zl)
   (h1:1<=n) (hb:n*bt<=140737488355328) (h2:n<=1000000000) (hs:zl.length=s) (hs0:s≠0) (ty:TypeId):
   ∃u w',(Builtin.append_ #[T,T'] ty #[Oh,.int kk n]).run P w= .ok u w'/\Left w0 β x (x.set nm (.cells (Za6 zl (n.toNat*s)) E (some s))) nm (.su nm n.toNat) w' u:=by
 obtain⟨s',hz⟩:=hz
 obtain⟨hut,i,hi,hsz⟩:=Zq ht
 obtain⟨i',hi',hzz,_,hby⟩:=Yn hz
 rw [hi] at hi';cases hi'
 have yX:=WM (β:=β) hzl
 have hzs:z.cells.size=s:=by have:=yX.len;simp at this;omega
 have hw:IntKind.i64.wrap n=n:=by rw [IntKind.wrap_i64];omega
 have h48:¬(281474976710656<n*(i.bytes:Int)):=by rw [hby];omega
 have hn0:¬n<0:=Oa
 have hbn:((n.toNat*i.bytes:Nat):Int)=n*bt:=by rw [Int.natCast_mul,hby,Int.toNat_of_nonneg Oa]
 have yP:¬(281474976710656<Builtin.nextslicecap n.toNat 0*i.bytes):=by rw [nextslicecap_zero Oa];omega
 have h63:¬(9223372036854775807<(n.toNat:Int)):=Oa
 have hnz:¬n.toNat=0:=Oa
 have aQ:¬n.toNat*i.size=0:=by rw [hsz];exact Nat.mul_ne_zero hnz hs0
 have hbz:¬(i.bytes=0/\False):=by simp
 refine⟨.slice (some ⟨w.heap.size,0,none⟩) n.toNat (grownCap w n.toNat 0 E),w.drew.alloc (.cells (Builtin.zeroCells z.cells n.toNat++Builtin.zeroCells z.cells (grownCap w n.toNat 0 E-n.toNat)) E),?_,rfl,up β nm (w.heap.size,grownCap w n.toNat 0 E),.su XC (grownCap_ge w _ 0 E),?_,fun k hk=>Y2 hk⟩
 · have ja:¬((9223372036854775807:Int)<max n 0):=Oa
   simp [Builtin.append_,run_underlying hut,run_underlying hk,sizeOf,typeInfo,zeroValue,hi,hzz,asInt,asIntOf,hw,hn0,h48,hnz,yP,ja,Question.forced,newRow,grownCap,Builtin.firstCells,aQ]
   omega
 · have h2:=(h.pre hn (.cells (Za6 zl (n.toNat*s)) E (some s))).drew
   refine h2.alloc (ob:= .cells (Za6 zl (n.toNat*s)) E (some s)) (c:=grownCap w n.toNat 0 E) hn hc (by rw [X.get_set];simp) ⟨(Builtin.zeroCells z.cells n.toNat).toList,(Builtin.zeroCells z.cells (grownCap w n.toNat 0 E-n.toNat)).toList,by simp,?_,?_,?_⟩
   · have:=US (WM (β:=up β nm (w.drew.heap.size,grownCap w n.toNat 0 E)) hzl) (n:=n.toNat*s) (.inr (fun e=>by rw [e] at hs;simp at hs;omega))
     simp only [Array.toArray_toList] at this
     simpa [Builtin.zeroCells,hzs] using this
   · rw [WS hzs,WS hzs,<-Nat.add_mul];congr 1;have:=grownCap_ge w n.toNat 0 E;omega
   · exact grownCap_le_maxLen w _ 0 E (by unfold maxLen;omega)
theorem Zlp (h : HR w0 β x w) (hρ:Ve β ρ ρ') (hn:β nm=none) (hc:nm<x.c) {c:Call} {v:V} (he:eBi P ρ x nm c=some (v,x')) (ty:TypeId):
   ∃u w',(do let d<-resolve ρ' c ty;invoke d.target d.args:Sem Next).run P w= .ok (.value u) w'/\Left w0 β x x' nm v w' u:=by
 obtain⟨cal,args,ts⟩:=c
 obtain⟨args⟩:=args
 obtain⟨ts⟩:=ts
 unfold eBi at he
 split at he
 · rename_i y8
   dsimp only at y8 he;subst y8
   split at he
   · rename_i a b T T'
     split at he
     · rename_i kk n ha hb
       split at he
       · rename_i E s ke ht hk
         split at he
         · rename_i z s' bt hz
           split at he
           · rename_i zl hzl
             have hva:=hρ _ _ ha
             have hvb:=hρ _ _ hb
             generalize hua:ρ' a=ua at hva
             generalize hub:ρ' b=ub at hvb
             cases hva;cases hvb
             split at he
             · rename_i hcc
               injection he with he;injection he with e1 e2;subst e1;subst e2
               simp only [Bool.and_eq_true,Bool.not_eq_true',ZI,decide_eq_true_eq] at hcc
               obtain⟨⟨⟨⟨c1,c2⟩,c3⟩,c4⟩,c5⟩:=hcc
               obtain⟨u,w',h1,h2⟩:=Zf3 (kk:=kk) h hn hc ht hk ⟨s',hz⟩ hzl c1 c2 c3 c4 (fun e=>by subst e;simp at c5) ty
               exact⟨u,w',by simp [resolve,invoke,builtin,hua,hub,h1],h2⟩
             · split at he
               · rename_i hn0
                 injection he with he;injection he with e1 e2;subst e1;subst e2
                 subst hn0
                 obtain⟨hut,i,hi,hsz⟩:=Zq ht
                 refine⟨Oh,w,?_,.same .sn rfl h⟩
                 have hw:IntKind.i64.wrap 0=0:=rfl
                 simp [resolve,invoke,builtin,hua,hub,Builtin.append_,run_underlying hut,run_underlying hk,sizeOf,typeInfo,hi,asInt,asIntOf,hw]
               · cases he
           · cases he
         · cases he
       · cases he
     · rename_i sv yv hni ha hb
       cases hT:ZaE P T T' with
       |false=>rw [hT] at he;cases he
       | true=>
         rw [hT] at he
         obtain⟨u,w',h1,h2⟩:=ZiX h hn hc (hρ _ _ ha) (hρ _ _ hb) he ty
         exact⟨u,w',by simp [resolve,invoke,builtin,ZaC hT,h1],h2⟩
     · cases he
   · cases he
 · rename_i y8
   dsimp only at y8 he;subst y8
   split at he
   · rename_i a b T T'
     split at he
     · rename_i dv sv E s ha hb ht
       split at he
       · rename_i n m hln hlm
         split at he
         · rename_i vs fW
           split at he
           · rename_i x1 hwr
             injection he with he;injection he with e1 e2;subst e1;subst e2
             obtain⟨us,g1,g2,g3,_⟩:=Zfg (P:=P) h (hρ _ _ hb) hlm fW (Nat.min_le_left m n)
             obtain⟨ad,n',cap,w',g4,g5,g6,g7,g8⟩:=ZjQ (P:=P) h (hρ _ _ ha) g2 hwr
             rw [hln] at g5;cases g5
             obtain⟨hut,i,hi,hsz⟩:=Zq ht
             obtain⟨a2,jt,g9⟩:=KS (hρ _ _ hb) hlm
             subst hsz
             refine⟨.int Oi (Nat.min m n),w',?_,.same (.int _ _) g6 g7⟩
             rw [g9] at g3
             rcases g8 with⟨rfl,rfl,rfl,rfl⟩|⟨a',rfl,g8⟩
             · simp [resolve,invoke,builtin,g4,g9,Builtin.copy_,run_underlying hut,Builtin.lenOf,sizeOf,typeInfo,hi,g3,goInt]
               rw [show m.min 0=0 from Nat.min_eq_right (Nat.zero_le m)] at g3
               simp [g3]
             · simp [resolve,invoke,builtin,g4,g9,Builtin.copy_,run_underlying hut,Builtin.lenOf,sizeOf,typeInfo,hi,goInt]
               simp [g3,g8]
           · cases he
         · cases he
       · cases he
     · cases he
   · cases he
 · rename_i y8
   dsimp only at y8 he;subst y8
   split at he
   · rename_i a T
     split at he
     · rename_i dv E s ha ht
       split at he
       · rename_i n z s' bt hln hz
         split at he
         · rename_i zl hzl
           obtain⟨hut,i,hi,hsz⟩:=Zq ht
           obtain⟨i',hi',hzz,_,hby⟩:=Yn hz
           rw [hi] at hi';cases hi'
           cases hn0:Nat.beq n 0 with
           | true=>
             rw [hn0] at he;injection he with he;injection he with e1 e2;subst e1;subst e2
             rw [ZI] at hn0;subst hn0
             obtain⟨a2,jt,g9⟩:=KS (hρ _ _ ha) hln
             refine⟨.tuple #[],w,?_,.same (.tup (vs:= []) .nil) rfl h⟩
             cases a2<;>simp [resolve,invoke,builtin,g9,Builtin.clear_,run_underlying hut]
           | false =>
             rw [hn0] at he
             dsimp only [cond_false] at he
             cases hz0:Nat.beq zl.length 0 with
             |true=>rw [hz0] at he;cases he
             |false=>
             rw [hz0] at he
             dsimp only [cond_false] at he
             split at he
             · rename_i x1 hwr
               injection he with he;injection he with e1 e2;subst e1;subst e2
               have yX:=WM (β:=β) hzl
               have hrp:=US yX (n:=n*zl.length) (.inr (fun e=>by rw [e] at hz0;simp at hz0))
               obtain⟨ad,n',cap,w',g4,g5,g6,g7,g8⟩:=ZjQ (P:=P) h (hρ _ _ ha) hrp hwr
               rw [hln] at g5;cases g5
               refine⟨.tuple #[],w',?_,.same (.tup (vs:= []) .nil) g6 g7⟩
               have hzs:z.cells.size=zl.length:=by have:=yX.len;simpa using this
               rcases g8 with⟨rfl,_,rfl,_⟩|⟨a',rfl,g8⟩
               · simp at hn0
               · have hnn:n≠0:=fun e=>by subst e;simp at hn0
                 have e1:(Builtin.zeroCells z.cells n).toList=((Array.range (n*zl.length)).map (z.cells.toList.toArray[· %z.cells.toList.toArray.size]!)).toList:=by
                   simp [Builtin.zeroCells,hzs]
                 rw [<-e1] at g8
                 simp [resolve,invoke,builtin,g4,Builtin.clear_,run_underlying hut,zeroValue,typeInfo,hi,hzz,g8]
             · cases he
         · cases he
       · cases he
     · cases he
   · cases he
 · cases he
theorem YP(w:World)(b:Nat)(o:Obj):w.grownBy (w.putObj b o) (some b):=⟨rfl,rfl,rfl,by simp,fun k _ hk=>World.putObj_heap_other (fun e=>hk (by rw [e]))⟩
theorem X4{w:World}{b:Nat}{o o':Obj}(h:w.heap[b]? =some o'):(w.putObj b o).heap[b]? =some o:=World.putObj_heap_same (Array.getElem?_eq_some_iff.1 h).1
noncomputable def exM(P:Program)(ρ:Operand->Option V)(x:X)(nm:Nat)(o:Op):Option (V×X):=match o with
  | .store T a v=>match ρ a,ρ v,P.info? T with
    | some (.p k off),some u,some i=>bif !(Xf u).all one|| !Nat.beq (Vs (Xf u)) i.size then none else match x.get k with
      |some (.cells l E o)=>bif Nat.ble (off+Vs (Xf u)) (Vs l) then some (.tup [],x.set k (.cells (ovr l off (Xf u)) E o)) else none
      |_=>none
    |_,_,_=>none
  | .call c=>eBi P ρ x nm c
  | .makeMap _ none=>some (.mp nm,x.set nm (.map []))
  | .mapUpdate T m k v=>match ρ m,ρ k,ρ v,P.underlying T with
    | some (.mp b),some key,some u,some (.map K _)=>match x.get b with
      | some (.map l)=>bif !(KV P K key) then none else match ZeA P K key l with
        |some none=>some (.tup [],x.set b (.map (l++ [(key,u)])))
        |_=>none
      |_=>none
    |_,_,_,_=>none
  |_=>none
theorem Zlh (h:HR w0 β x w) (hρ:Ve β ρ ρ') (hn:β nm=none) (hc:nm<x.c) {o:Oper} {v:V} (he:exM P ρ x nm o.op=some (v,x')):
   ∃r u w',(execOp ρ' o).run P w= .ok r w'/\(r= .value u\/(r= .skip/\u=undef))/\Left w0 β x x' nm v w' u:=by
 obtain⟨dst,op,ty,pos,after,guard⟩:=o
 dsimp only at he
 unfold exM at he
 split at he
 · rename_i T a v0
   split at he
   · rename_i k off u i ha hv hi
     simp only [YD] at he
     cases hcc:(!(Xf u).all one|| !Nat.beq (Xf u).length i.size) with
     |true=>rw [hcc] at he;cases he
     | false =>
       rw [hcc] at he
       dsimp only [cond_false] at he
       simp only [Bool.or_eq_false_iff,Bool.not_eq_false',ZI] at hcc
       split at he
       · rename_i l E o hk
         cases hf:Nat.ble (off+(Xf u).length) l.length with
         |false=>rw [hf] at he;cases he
         | true=>
           rw [hf] at he;injection he with he;injection he with e1 e2;subst e1;subst e2
           rw [ZT] at hf
           have hva:=hρ _ _ ha
           generalize hua:ρ' a=ua at hva
           cases hva with
           | p hb=>
             have hcl:=(hρ _ _ hv).cells
             have hll:=hcl.len
             simp only [Array.length_toList] at hll
             obtain⟨w',g1,g2⟩:=h.write (P:=P) hb hk hcl hcc.1 hf
             refine⟨.skip,undef,w',?_,.inr ⟨rfl,rfl⟩,.same (.tup (vs:= []) .nil) rfl g2⟩
             have hsz:(ρ' v0).cells.size=i.size:=by rw [hll];exact hcc.2
             simp [execOp,hua,Instr.storeAt,Instr.sureAddr,storeVar,sizeOf,typeInfo,hi,hsz,g1]
       · cases he
   · cases he
 · rename_i c
   obtain⟨u,w',h1,h2⟩:=Zlp h hρ hn hc he ty
   exact⟨.value u,u,w',by rw [<-h1];rfl,.inl rfl,h2⟩
 · injection he with he;injection he with e1 e2;subst e1;subst e2
   have hx:(x.set nm (.map [])).get nm=some (.map []):=by rw [X.get_set];simp
   have h2:=(h.pre hn (.map [])).alloc (c:=0) (rb:= .map #[] 0) hn (by cases x;exact hc) hx ⟨[],0,rfl,.nil⟩
   refine⟨.value (.map (some w.heap.size)),.map (some w.heap.size),w.alloc (.map #[] 0),?_,.inl rfl,?_⟩
   · simp [execOp,Instr.makeMap]
   · exact⟨by cases x;rfl,_,.mp XC,h2,fun k hk=>Y2 hk⟩
 · rename_i T m kk v0
   split at he
   · rename_i b0 key u K E hm hkk hvv hT
     split at he
     · rename_i l hl
       cases hk:KV P K key with
       |false=>rw [hk] at he;cases he
       | true=>
         rw [hk] at he
         split at he
         · rename_i hf
           injection he with he;injection he with e1 e2;subst e1;subst e2
           have hv:=hρ _ _ hm
           generalize hu:ρ' m=um at hv
           cases hv with
           | mp hb=>
             rename_i b c
             obtain⟨_,es,ck,g1,g2⟩:=h.mapAt hb hl
             have hkv:=hρ _ _ hkk
             obtain⟨q,f1,f2⟩:=Zaa (P:=P) hk hkv w g2 hf
             rcases f2 with⟨_,rfl⟩|⟨_,_,_,f2,_⟩
             · have g3:MRs β (l++ [(key,u)]) (es++ [(⟨ρ' kk,ρ' v0,ck⟩:MapEntry)]):=MRs.snoc hkv (hρ _ _ hvv) g2
               refine⟨.skip,undef,w.putObj b (.map (es++ [(⟨ρ' kk,ρ' v0,ck⟩:MapEntry)]).toArray (ck+1)),?_,.inr ⟨rfl,rfl⟩,.same (.tup (vs:= []) .nil) (by cases x;rfl) (h.turn (ob:= .map (l++ [(key,u)])) hb hl (YP _ _ _) (X4 g1) ⟨_,_,rfl,g3⟩)⟩
               simp [execOp,hu,Instr.mapUpdate,run_underlying hT,Vl g1,Uk hk hkv,f1,Zcn _ g1]
             · cases f2
         · cases he
     · cases he
   · cases he
 · cases he
end
end Go.Proofs.Ev
namespace Go.Proofs.Ev
open Go Go.RowKit Go.Proofs.Gw
structure S where
  t:T V
  b:List (Nat×V)
  n:Nat
  ds:List Nat
  x:X
noncomputable def Xd(t:T V)(b:List (Nat×V))(i:Nat):Option V:=Option.rec (t.get i) (fun v=>some v) (look b i)
noncomputable def S.get(s:S)(i:Nat):Option V:=Xd s.t s.b i
theorem RR(t:T V)(b:List (Nat×V))(d:Nat)(v:V)(i:Nat):Xd t ((d,v)::b) i=if d=i then some v else Xd t b i:=by
 unfold Xd
 rw [X8]
 by_cases h:d=i
 · subst h;simp
 · simp [XL h,h]
structure Kit where
  fuel:Nat
  call:Nat->List V->X->Option (V×X)
  yld:Nat->List V->X->Option (V×X)
noncomputable def ZaK(w0:Base)(β:Env)(c:Nat)(v:V)(x':X):Ending->World->Prop:=fun e w'=>∃u β',e= .returned u/\VR β' v u/\HR w0 β' x' w'/\c<=x'.c/\∀k,k<c->β' k=β k
structure KOk (P:Program) (K:Kit):Prop where
  call:∀{f xs x v x'},K.call f xs x=some (v,x')->∀{w0 β w us},HR w0 β x w->VRs β xs us->Calls P f us.toArray w (ZaK w0 β x.c v x')
  yld:∀{l xs x v x'},K.yld l xs x=some (v,x')->∀{w0 β w us b c},HR w0 β x w->VRs β xs us->β l=some (b,c)->
    ∃fn tmps assign body,(Instr.yield b us.toArray).run P w= .ok (.round b fn tmps assign body) w/\RoundIn (FZ none) 0 P b fn tmps assign body w (ZaK w0 β x.c v x')
inductive Kd where
  |pure|load|new|eff
noncomputable def kd:Op->Kd
  | .load _ _=> .load
  | .lookup _ _ _ _=> .load
  | .alloc _| .box _ _| .buildSlice _ _ _| .makeSlice _ _ _=> .new
  | .store _ _ _=> .eff
  | .makeMap _ _=> .eff
  | .mapUpdate _ _ _ _=> .eff
  | .call c=>match c.callee with
    | .value _=> .eff
    | .builtin .append| .builtin .copy| .builtin .clear=> .eff
    |_=> .pure
  |_=> .pure
noncomputable def exE(K:Kit)(P:Program)(ρ:Operand->Option V)(x:X)(nm:Nat)(o:Op):Option (V×X):=match o with
  | .store _ _ _=>exM P ρ x nm o
  | .makeMap _ _=>exM P ρ x nm o
  | .mapUpdate _ _ _ _=>exM P ρ x nm o
  | .call c=>match c.callee with
    | .value f=>match ρ f,Zcf ρ c.args.toList with
      |some (.fn g cap),some xs=>bif Zc P g then K.call g (xs++cap) x else none
      |some (.yl l),some xs=>K.yld l xs x
      |_,_=>none
    |_=>exM P ρ x nm o
  |_=>none
section
variable {P:Program} {K:Kit} {β:Env} {x x':X} {w w':World} {w0:Base} {nm:Nat} {ρ:Operand->Option V} {o:Oper} {r:Option Nat} {a:Act}
theorem Zgo (hK : KOk P K) (h:HR w0 β x w) (hρ:Ve β ρ a.eval) (hn:β nm=none) (hc:nm<x.c) {v:V} (he:exE K P ρ x nm o.op=some (v,x')) {next:Act->World->Prop} {Q:Exit->Act->World->Prop}
   (hx:∀β' u w',VR β' v u->HR w0 β' x' w'->(∀k,k<x.c->k≠nm->β' k=β k)->x.c<=x'.c->next (a.put o.dst u) w'):o.wpIn (FZ r) 0 P a w next Q:=by
 refine⟨fun _ _=>trivial,?_⟩
 have mem:exM P ρ x nm o.op=some (v,x')->(o.semAt (FZ r).round a.eval)=execOp a.eval o->o.uponIn (FZ r) 0 P a next Q ((o.semAt (FZ r).round a.eval).run P w):=fun he hs=>by
   obtain⟨rr,u,w',h1,h2,h3,β',h4,h5,h6⟩:=Zlh h hρ hn hc he
   rw [hs,h1]
   have h7:=hx β' u w' h4 h5 (fun k _ hk=>h6 k hk) (Nat.le_of_eq h3.symm)
   rcases h2 with rfl|⟨rfl,rfl⟩
   · exact h7
   · exact h7
 unfold exE at he
 split at he
 · rename_i hop
   exact mem he (YQ (by unfold ndf;rw [hop]) r _)
 · rename_i hop
   exact mem he (YQ (by unfold ndf;rw [hop]) r _)
 · rename_i hop
   exact mem he (YQ (by unfold ndf;rw [hop]) r _)
 · rename_i c hop
   have cS:o.semAt (FZ r).round a.eval=execOp a.eval o:=YQ (by unfold ndf;rw [hop]) r _
   split at he
   · rename_i f hf
     obtain⟨cal,args,ts⟩:=c
     dsimp only at hf he
     subst hf
     split at he
     · rename_i g cap xs hfv has
       cases ht:Zc P g with
       |false=>rw [ht] at he;cases he
       | true=>
         rw [ht] at he
         dsimp only [cond_true] at he
         have hv:=hρ _ _ hfv
         have dp:=UQ hρ has
         generalize hu:a.eval f=u at hv
         cases hv with
         | @fn _ _ vs yP=>
           have yh:(execOp a.eval o).run P w= .ok (.enter g (args.toList.map a.eval++vs).toArray) w:=by
             unfold Zc at ht
             cases hfn:P.funcs[g]? with
             |none=>simp [hfn] at ht
             | some fn=>
               simp only [hfn,Bool.and_eq_true,Bool.not_eq_true'] at ht
               obtain⟨hb,hnm⟩:=ht
               have hb':fn.body≠none:=by intro e;rw [e] at hb;simp at hb
               have hn':fn.name≠ "runtime.NumGoroutine" :=by simpa using hnm
               have e:args.map a.eval++vs.toArray=(args.toList.map a.eval++vs).toArray:=by
                 apply Array.ext';simp
               simp [execOp,hop,resolve,hu,Deferred.ofValue,invoke,callFunc,hfn,hn',hb']
           rw [cS,yh]
           refine⟨fun h=>(by cases h),Wh ((hK.call he h (dp.app yP)).mono fun e w' hE=> ?_)⟩
           obtain⟨u',β',rfl,h4,h5,hle,h6⟩:=hE
           exact hx β' u' w' h4 h5 (fun k hk _=>h6 k hk) hle
     · rename_i l xs hfv has
       have hv:=hρ _ _ hfv
       have dp:=UQ hρ has
       generalize hu:a.eval f=u at hv
       cases hv with
       | @yl _ bb cc hb=>
         obtain⟨fn,tmps,assign,body,h1,h2⟩:=hK.yld he h dp hb
         have yh:(execOp a.eval o).run P w= .ok (.round bb fn tmps assign body) w:=by
           rw [<-h1]
           have e:args.map a.eval=(args.toList.map a.eval).toArray:=by
             apply Array.ext';simp
           simp [execOp,hop,resolve,hu,Deferred.ofValue,invoke,e]
         rw [cS,yh]
         refine⟨fun h=>(by cases h),?_⟩
         have h3:RoundIn (FZ r) 0 P bb fn tmps assign body w (ZaK w0 β x.c v x'):=h2
         refine RoundIn.mono h3 fun e w' hE=> ?_
         obtain⟨u',β',rfl,h4,h5,hle,h6⟩:=hE
         exact hx β' u' w' h4 h5 (fun k hk _=>h6 k hk) hle
     · cases he
   · exact mem he cS
 · cases he
end
noncomputable def Wr(ops:Array Oper)(g:Nat->Option V)(o:Oper):Option Bool:=match o.guard with
  |none=>some true
  | some (j,p)=>match ops[j]? with
    | some oj=>match oj.dst with
      | some d=>match g d with
        |some (.bool b)=>some (b==p)
        |some (.tup [])=>some false
        |_=>none
      |none=>none
    |none=>none
theorem Zby {β:Env} {ops:Array Oper} {g:Nat->Option V} {a:Array Value} {o:Oper} {b:Bool} (h:TA β g a) (hg:Wr ops g o=some b):Region.wanted o (yielded ops a)=b:=by
 unfold Wr at hg
 split at hg
 · rename_i h0
   injection hg with hg;subst hg
   simp [Region.wanted,h0]
 · rename_i j p h0
   split at hg
   · rename_i oj hj
     split at hg
     · rename_i d hd
       split at hg
       · rename_i b' ht
         injection hg with hg;subst hg
         obtain⟨u,h1,h2⟩:=h _ _ ht
         cases h2
         simp only [Region.wanted,h0,yielded,hj,Option.bind_some,hd,h1]
         cases b'<;>cases p<;>rfl
       · rename_i ht
         injection hg with hg;subst hg
         obtain⟨u,h1,h2⟩:=h _ _ ht
         cases h2 with
         | tup hh=>
           cases hh
           simp [Region.wanted,h0,yielded,hj,hd,h1]
       · cases hg
     · cases hg
   · cases hg
inductive DR (β:Env):List Nat->List Deferred->Prop
  |nil:DR β [] []
  |cons {k b c:Nat} {ks:List Nat} {ds:List Deferred}:β k=some (b,c)->DR β ks ds->DR β (k::ks) ({target:= .collected b,args:= #[]}::ds)
theorem DR.mono{β β':Env}(h:Ext β β'):∀{ks:List Nat} {ds:List Deferred},DR β ks ds->DR β' ks ds
 |_,_,.nil=> .nil
 |_,_,.cons a b=> .cons (h _ _ a) (DR.mono h b)
structure FR (w0:Base) (β:Env) (s:S) (a:Act) (w:World):Prop where
  ta:TA β s.get a.tmps
  sz:a.tmps.size=s.n
  ds:DR β s.ds a.defers
  hr:HR w0 β s.x w
noncomputable def NX(c:Nat)(β β':Env):Prop:=∀k,k<c->β' k=β k
theorem NX.refl(c:Nat)(β:Env):NX c β β:=fun _ _=>rfl
theorem NX.trans{c c':Nat}{β β' β'':Env}(h:NX c β β')(h':NX c' β' β'')(hc:c<=c'):NX c β β'':=fun k hk=>(h' k Oa).trans (h k hk)
theorem HR.ext{w0:Base}{w:World}{β β':Env}{x:X}(h:HR w0 β x w)(hn:NX x.c β β'):Ext β β':=fun k p hk=>by
 obtain⟨b,c⟩:=p
 rw [hn k (h.lt hk).1];exact hk
noncomputable def S.put(s:S)(d:Option Nat)(v:V)(x:X):Option S:=S.rec (motive:=fun _=>Option S) (fun t b n ds _=>match d with
  |none=>some ⟨t,b,n,ds,x⟩
  |some d=>bif Nat.blt d n then some ⟨t,(d,v)::b,n,ds,x⟩ else none) s
theorem S.put_eq(s:S)(d:Option Nat)(v:V)(x:X):s.put d v x=match d with
 |none=>some {s with x:=x}
 |some d=>bif Nat.blt d s.n then some {s with b:=(d,v)::s.b,x:=x} else none:=by
 cases s;cases d<;>rfl
theorem Tl{w0:Base}{w':World}{β β':Env}{s s':S}{a:Act}{w:World}{d:Option Nat}{v:V}{u:Value}{x:X}(hF:FR w0 β s a w)(hp:s.put d v x=some s')(hv:VR β' v u)(h:HR w0 β' x w')(hn:NX s.x.c β β'):FR w0 β' s' (a.put d u) w':=by
 have he:=hF.hr.ext hn
 rw [S.put_eq] at hp
 cases d with
 | none=>
   injection hp with hp;subst hp
   exact⟨hF.ta.mono he,hF.sz,hF.ds.mono he,h⟩
 | some d=>
   dsimp only at hp
   cases hd:Nat.blt d s.n with
   |false=>rw [hd] at hp;cases hp
   | true=>
     rw [hd] at hp;injection hp with hp;subst hp
     have hlt:d<s.n:=by simpa [Nat.blt_eq] using hd
     exact⟨(hF.ta.mono he).put (by rw [hF.sz];exact hlt) hv (fun i=>RR _ _ _ _ _),by simp [Act.put,hF.sz],hF.ds.mono he,h⟩
noncomputable def Zio(K:Kit)(P:Program)(ops:Array Oper)(s:S)(o:Oper):Option S:=
  match Wr ops s.get o with
  |none=>none
  |some false=>s.put o.dst (.tup []) s.x
  | some true=>match kd o.op with
    | .pure=>match exP P (rho s.get) o.op with
      |some v=>s.put o.dst v s.x
      |none=>none
    | .load=>match exL P (rho s.get) s.x o.op with
      |some v=>s.put o.dst v s.x
      |none=>none
    | .new=>match exA P (rho s.get) s.x.c o.op with
      |some (l,E,v)=>s.put o.dst v ((⟨s.x.h,s.x.c+1⟩:X).set s.x.c (.cells l E none))
      |none=>none
    | .eff=>match exE K P (rho s.get) ⟨s.x.h,s.x.c+1⟩ s.x.c o.op with
      |some (v,x)=>s.put o.dst v x
      |none=>none
noncomputable def opP(P:Program)(t:T V)(b:List (Nat×V))(n:Nat)(ds:List Nat)(x:X)(o:Oper):Option S:=Option.rec none (fun v=>S.put ⟨t,b,n,ds,x⟩ o.dst v x) (exP P (rho (Xd t b)) o.op)
noncomputable def opL(P:Program)(t:T V)(b:List (Nat×V))(n:Nat)(ds:List Nat)(x:X)(o:Oper):Option S:=Option.rec none (fun v=>S.put ⟨t,b,n,ds,x⟩ o.dst v x) (exL P (rho (Xd t b)) x o.op)
noncomputable def opN(P:Program)(t:T V)(b:List (Nat×V))(n:Nat)(ds:List Nat)(x:X)(o:Oper):Option S:=match exA P (rho (Xd t b)) x.c o.op with
  |some (l,E,v)=>S.put ⟨t,b,n,ds,x⟩ o.dst v ((x.bump 1).set x.c (.cells l E none))
  |none=>none
noncomputable def opE(K:Kit)(P:Program)(t:T V)(b:List (Nat×V))(n:Nat)(ds:List Nat)(x:X)(o:Oper):Option S:=match exE K P (rho (Xd t b)) (x.bump 1) x.c o.op with
  |some (v,x')=>S.put ⟨t,b,n,ds,x⟩ o.dst v x'
  |none=>none
noncomputable def opB(K:Kit)(P:Program)(t:T V)(b:List (Nat×V))(n:Nat)(ds:List Nat)(x:X)(o:Oper):Option S:=Kd.rec (opP P t b n ds x o) (opL P t b n ds x o) (opN P t b n ds x o) (opE K P t b n ds x o) (kd o.op)
noncomputable def opS(K:Kit)(P:Program)(ops:Array Oper)(s:S)(o:Oper):Option S:=S.rec (motive:=fun _=>Option S) (fun t b n ds x=>
  Option.rec (opB K P t b n ds x o) (fun _=>Option.rec none (fun w=>Bool.rec (S.put ⟨t,b,n,ds,x⟩ o.dst (.tup []) x) (opB K P t b n ds x o) w) (Wr ops (Xd t b) o)) o.guard) s
theorem ZfE(K:Kit)(P:Program)(t:T V)(b:List (Nat×V))(n:Nat)(ds:List Nat)(x:X)(o:Oper):opB K P t b n ds x o=match kd o.op with
   | .pure=>match exP P (rho (Xd t b)) o.op with
     |some v=>S.put ⟨t,b,n,ds,x⟩ o.dst v x
     |none=>none
   | .load=>match exL P (rho (Xd t b)) x o.op with
     |some v=>S.put ⟨t,b,n,ds,x⟩ o.dst v x
     |none=>none
   | .new=>match exA P (rho (Xd t b)) x.c o.op with
     |some (l,E,v)=>S.put ⟨t,b,n,ds,x⟩ o.dst v ((⟨x.h,x.c+1⟩:X).set x.c (.cells l E none))
     |none=>none
   | .eff=>match exE K P (rho (Xd t b)) ⟨x.h,x.c+1⟩ x.c o.op with
     |some (v,x')=>S.put ⟨t,b,n,ds,x⟩ o.dst v x'
     |none=>none:=by
 unfold opB
 cases kd o.op
 · show opP P t b n ds x o=_
   unfold opP
   cases exP P (rho (Xd t b)) o.op<;>rfl
 · show opL P t b n ds x o=_
   unfold opL
   cases exL P (rho (Xd t b)) x o.op<;>rfl
 · rfl
 · rfl
theorem ZfD(K:Kit)(P:Program)(ops:Array Oper)(s:S)(o:Oper):opS K P ops s o=Zio K P ops s o:=by
 obtain⟨t,b,n,ds,x⟩:=s
 unfold Zio
 show(Option.rec (opB K P t b n ds x o) (fun _=>Option.rec none (fun w=>Bool.rec (S.put ⟨t,b,n,ds,x⟩ o.dst (.tup []) x) (opB K P t b n ds x o) w) (Wr ops (Xd t b) o)) o.guard:Option S)=match Wr ops (Xd t b) o with
   |none=>none
   |some false=>S.put ⟨t,b,n,ds,x⟩ o.dst (.tup []) x
   |some true=>_
 cases hg:o.guard with
 | none=>
   have:Wr ops (Xd t b) o=some true:=by unfold Wr;rw [hg]
   rw [this]
   exact ZfE K P t b n ds x o
 | some jp=>
   cases Wr ops (Xd t b) o with
   |none=>rfl
   | some w=>cases w with
     |false=>rfl
     |true=>exact ZfE K P t b n ds x o
theorem Zba{s s':S}{d:Option Nat}{v:V}{x:X}(hp:s.put d v x=some s'):s'.x=x/\s'.n=s.n/\s'.ds=s.ds:=by
 rw [S.put_eq] at hp
 cases d with
 |none=>injection hp with hp;subst hp;exact⟨rfl,rfl,rfl⟩
 | some d=>
   dsimp only at hp
   cases hd:Nat.blt d s.n with
   |false=>rw [hd] at hp;cases hp
   |true=>rw [hd] at hp;injection hp with hp;subst hp;exact⟨rfl,rfl,rfl⟩
section
variable {P:Program} {K:Kit} {β:Env} {w:World} {w0:Base} {o:Oper} {r:Option Nat} {a:Act} {s s':S} {ops:Array Oper}
theorem ZkE{o:Oper}(h:∀c,o.op≠ .defer c):ndf o=true:=by
 unfold ndf
 split
 · rename_i c hc;exact absurd hc (h c)
 · rfl
theorem V6{v:Value}{w':World}(h:(execOp a.eval o).run P w= .ok (.value v) w'){next:Act->World->Prop}{Q:Exit->Act->World->Prop}(hn:next (a.put o.dst v) w'):o.wpIn (FZ r) 0 P a w next Q:=by
 refine⟨fun _ _=>trivial,?_⟩
 have hd:∀c,o.op≠ .defer c:=fun c hc=>by
   simp only [execOp,hc] at h
   rw [Sem.run_bind] at h
   cases hr:(resolve a.eval c o.type).run P w with
   |ok d w1=>rw [hr] at h;simp at h
   |halt e w1=>rw [hr] at h;simp [Result.andThen] at h
 have e:o.semAt (FZ r).round a.eval=execOp a.eval o:=YQ (ZkE hd) r _
 rw [e,h]
 exact hn
theorem Zkz (hK:KOk P K) (hF:FR w0 β s a w) (he:opS K P ops s o=some s') {next:Act->World->Prop} {Q:Exit->Act->World->Prop}
   (hx:∀β' a' w',FR w0 β' s' a' w'->NX s.x.c β β'->s.x.c<=s'.x.c->next a' w'):
   if Region.wanted o (yielded ops a.tmps) then o.wpIn (FZ r) 0 P a w next Q else(∀f,o.about P w a.eval=some f->(FZ r).fn f)/\next (a.put o.dst undef) w:=by
 have hρ:Ve β (rho s.get) a.eval:=KD hF.ta
 have hb:HR w0 β ⟨s.x.h,s.x.c+1⟩ w:=hF.hr.bump Oa
 have zN:β s.x.c=none:=by
   cases hq:β s.x.c with
   |none=>rfl
   |some p=>obtain⟨b,c⟩:=p;have:=(hF.hr.lt hq).1;omega
 rw [ZfD] at he
 unfold Zio at he
 split at he
 · cases he
 · rename_i hg
   rw [Zby hF.ta hg,if_neg (by simp)]
   refine⟨fun _ _=>trivial,hx β _ w (Tl hF he (.tup (vs:= []) .nil) hF.hr (NX.refl _ _)) (NX.refl _ _) ?_⟩
   rw [(Zba he).1];exact Nat.le_refl _
 · rename_i hg
   rw [Zby hF.ta hg,if_pos rfl]
   split at he
   · split at he
     · rename_i v hv
       obtain⟨u,h1,h2⟩:=Zgn hρ hv
       exact V6 (h1 w) (hx β _ w (Tl hF he h2 hF.hr (NX.refl _ _)) (NX.refl _ _) (by rw [(Zba he).1];exact Nat.le_refl _))
     · cases he
   · split at he
     · rename_i v hv
       obtain⟨u,h1,h2⟩:=ZcF hF.hr hρ hv
       exact V6 h1 (hx β _ w (Tl hF he h2 hF.hr (NX.refl _ _)) (NX.refl _ _) (by rw [(Zba he).1];exact Nat.le_refl _))
     · cases he
   · split at he
     · rename_i l E v hv
       obtain⟨us,h1,h2⟩:=Zgp hρ hv
       obtain⟨u,h3,h4⟩:=h2 w
       have hn:NX s.x.c β (up β s.x.c (w.heap.size,0)):=fun k hk=>Y2 Oa
       have h5:HR w0 (up β s.x.c (w.heap.size,0)) ((⟨s.x.h,s.x.c+1⟩:X).set s.x.c (.cells l E none)) (w.alloc (.cells us.toArray E)):=
         (hb.pre zN (.cells l E none)).alloc (ob:= .cells l E none) zN (Nat.lt_succ_self _) (by rw [X.get_set];simp) ⟨us, [],by simp,h1.mono (Wi zN),rfl⟩
       exact V6 h3 (hx _ _ _ (Tl hF he (h4 _ XC) h5 hn) hn (by rw [(Zba he).1];exact Nat.le_succ _))
     · cases he
   · split at he
     · rename_i v x1 hv
       refine Zgo hK hb hρ zN (Nat.lt_succ_self _) hv fun β' u w' h1 h2 h3 h4=> ?_
       have hn:NX s.x.c β β':=fun k hk=>h3 k (by show k<s.x.c+1;omega) Oa
       refine hx β' _ w' (Tl hF he h1 h2 hn) hn ?_
       rw [(Zba he).1]
       have h4':s.x.c+1<=x1.c:=h4
       omega
     · cases he
noncomputable def TZ(K:Kit)(P:Program)(ops:Array Oper)(l:List Oper)(s:S):Option S:=List.rec (motive:=fun _=>S->Option S) (fun s=>some s) (fun o _ ih s=>Option.rec none (fun s'=>ih s') (opS K P ops s o)) l s
theorem Zbk(K:Kit)(P:Program)(ops:Array Oper)(s:S):TZ K P ops [] s=some s:=rfl
theorem Rz(K:Kit)(P:Program)(ops:Array Oper)(o:Oper)(l:List Oper)(s:S):TZ K P ops (o::l) s=match opS K P ops s o with
   |some s'=>TZ K P ops l s'
   |none=>none:=by
 show(Option.rec none (fun s'=>TZ K P ops l s') (opS K P ops s o):Option S)=_
 cases opS K P ops s o<;>rfl
theorem Zdl(hK:KOk P K){Q:Exit->Act->World->Prop}{s':S}:∀(l:List Oper) {s:S} {β:Env} {a:Act} {w:World},FR w0 β s a w->TZ K P ops l s=some s'->
   (∀β' a' w',FR w0 β' s' a' w'->NX s.x.c β β'->s.x.c<=s'.x.c->Q .normal a' w')->wpListIn (FZ r) 0 P ops Q l a w
 | [],s,β,a,w,hF,he,hx=>by
   rw [Zbk] at he
   injection he with he;subst he
   exact hx β a w hF (NX.refl _ _) (Nat.le_refl _)
 | o ::l,s,β,a,w,hF,he,hx=>by
   rw [Rz] at he
   split at he
   · rename_i s1 h1
     unfold wpListIn
     exact Zkz hK hF h1 fun β' a' w' hF' hn hc=>Zdl hK l hF' he fun β'' a'' w'' hF'' hn' hc'=>hx β'' a'' w'' hF'' (hn.trans hn' hc) (Nat.le_trans hc hc')
   · cases he
end
end Go.Proofs.Ev
namespace Go.Proofs.Ev
open Go Go.RowKit Go.Proofs.Gw
mutual
noncomputable def eqV:V->V->Bool
  | .bool a,.bool b=>a==b
  | .int k n,.int k' m=>decide (k=k')&&decide (n=m)
  | .pn,.pn=>true
  | .p k o,.p k' o'=>Nat.beq k k'&&Nat.beq o o'
  | .sn,.sn=>true
  | .s k o n c,.s k' o' n' c'=>Nat.beq k k'&&Nat.beq o o'&&Nat.beq n n'&&Nat.beq c c'
  | .su k n,.su k' n'=>Nat.beq k k'&&Nat.beq n n'
  | .so k o n,.so k' o' n'=>Nat.beq k k'&&Nat.beq o o'&&Nat.beq n n'
  | .fn f l,.fn g m=>Nat.beq f g&&Um l m
  | .yl k,.yl k'=>Nat.beq k k'
  | .nf,.nf=>true
  | .agg l,.agg m=>Um l m
  | .tup l,.tup m=>Um l m
  | .mp k,.mp k'=>Nat.beq k k'
  |_,_=>false
noncomputable def Um:List V->List V->Bool
  | [], []=>true
  |a::l,b::m=>eqV a b&&Um l m
  |_,_=>false
end
mutual
theorem Zak:∀{a b:V},eqV a b=true->a=b
 | .bool a,b,h=>by cases b<;>simp [eqV] at h;simp [h]
 | .int k n,b,h=>by cases b<;>simp [eqV] at h;simp [h]
 | .pn,b,h=>by cases b<;>simp [eqV] at h;rfl
 | .p k o,b,h=>by cases b<;>simp [eqV] at h;simp [h]
 | .sn,b,h=>by cases b<;>simp [eqV] at h;rfl
 | .s k o n c,b,h=>by cases b<;>simp [eqV] at h;simp [h]
 | .su k n,b,h=>by cases b<;>simp [eqV] at h;simp [h]
 | .so k o n,b,h=>by cases b<;>simp [eqV] at h;simp [h]
 | .fn f l,b,h=>by
   cases b<;>simp [eqV] at h
   rw [h.1,XV h.2]
 | .yl k,b,h=>by cases b<;>simp [eqV] at h;simp [h]
 | .nf,b,h=>by cases b<;>simp [eqV] at h;rfl
 | .str s,b,h=>by cases b<;>simp [eqV] at h
 | .agg l,b,h=>by
   cases b<;>simp [eqV] at h
   rw [XV h]
 | .tup l,b,h=>by
   cases b<;>simp [eqV] at h
   rw [XV h]
 | .mp k,b,h=>by cases b<;>simp [eqV] at h;simp [h]
theorem XV:∀{l m:List V},Um l m=true->l=m
 | [], [],_=>rfl
 | [],_::_,h=>by simp [Um] at h
 |_::_, [],h=>by simp [Um] at h
 | a::l,b::m,h=>by
   simp [Um] at h
   rw [Zak h.1,XV h.2]
end
noncomputable def Zan:List Oper->Nat->Nat->Option Nat
  | [],_,_=>none
  | o::r,i,t=>match o.dst with
    |some d=>bif Nat.beq d t then some i else Zan r (i+1) t
    |none=>Zan r (i+1) t
theorem Va:∀{l:List Oper} {i t j:Nat},Zan l i t=some j->i<=j/\∃o,l[j-i]? =some o/\o.dst=some t
 | [],i,t,j,h=>by cases h
 | o ::r,i,t,j,h=>by
   unfold Zan at h
   have next:Zan r (i+1) t=some j->i<=j/\∃o',(o::r)[j-i]? =some o'/\o'.dst=some t:=fun h=>by
     obtain⟨h1,o',h2,h3⟩:=Va h
     refine⟨by omega,o',?_,h3⟩
     rw [show j-i=(j-(i+1))+1 by omega,List.getElem?_cons_succ];exact h2
   split at h
   · rename_i d hd
     cases he:Nat.beq d t with
     | true=>
       rw [he] at h;injection h with h;subst h
       rw [ZI] at he;subst he
       exact⟨Nat.le_refl _,o,by simp,hd⟩
     |false=>rw [he] at h;exact next h
   · exact next h
noncomputable def mof(B:List Nat)(o:Oper):Nat:=o.after.toList.foldl (fun m e=>bif Region.binds .any e then m|||(2^e.on|||B.getD e.on 0) else m) 0
noncomputable def T3(l:List Oper):List Nat:=l.foldl (fun B o=>B++ [mof B o]) []
noncomputable def T7(B:List Nat):List Oper->Nat->Bool
  | [],_=>true
  |o::r,i=>Nat.beq (B.getD i 0) (mof B o)&&o.after.toList.all (fun e=> !Region.binds .any e||Nat.blt e.on i)&&T7 B r (i+1)
noncomputable def bit(B:List Nat)(i j:Nat):Bool:=Nat.testBit (B.getD i 0) j
theorem TM{B:List Nat}:∀{l:List Oper} {k:Nat},T7 B l k=true->∀{i:Nat} {o:Oper},l[i]? =some o->B.getD (k+i) 0=mof B o/\∀e∈o.after,Region.binds .any e=true->e.on<k+i
 | [],k,_,i,o,hi=>by simp at hi
 | o'::r,k,h,i,o,hi=>by
   unfold T7 at h
   simp only [Bool.and_eq_true] at h
   obtain⟨⟨h1,h2⟩,h3⟩:=h
   cases i with
   | zero=>
     simp at hi;subst hi
     refine⟨ZI.1 h1,fun e he hb=> ?_⟩
     have:=List.all_eq_true.1 h2 e (by simpa using he)
     rw [hb] at this
     simpa [Nat.blt_eq] using this
   | succ i=>
     simp at hi
     have:=TM h3 hi
     rw [show k+1+i=k+(i+1) by omega] at this
     exact this
theorem ZbC {B:List Nat} {j:Nat}:∀{es:List Edge} {m:Nat},Nat.testBit (es.foldl (fun m e=>bif Region.binds .any e then m|||(2^e.on|||B.getD e.on 0) else m) m) j=true->
   Nat.testBit m j=true\/∃e∈es,Region.binds .any e=true/\(e.on=j\/bit B e.on j=true)
 | [],m,h=> .inl h
 | e ::es,m,h=>by
   simp only [List.foldl_cons] at h
   rcases ZbC h with h1|⟨e',he',hb⟩
   · cases hb:Region.binds .any e with
     |false=>rw [hb] at h1;exact .inl h1
     | true=>
       rw [hb] at h1
       simp only [cond_true,Nat.testBit_or,Bool.or_eq_true,Nat.testBit_two_pow,decide_eq_true_eq] at h1
       rcases h1 with h1|h1|h1
       · exact .inl h1
       · exact .inr ⟨e,by simp,hb,.inl h1⟩
       · exact .inr ⟨e,by simp,hb,.inr h1⟩
   · exact .inr ⟨e',by simp [he'],hb⟩
theorem Yw {l:List Oper} {B:List Nat} {listed:Array Bool} (hB:T7 B l 0=true) (hc:Closed l.toArray listed) {j:Nat}:∀(i:Nat) {o:Oper},l[i]? =some o->(∀e∈o.after,Region.binds .any e=true->listed.getD e.on false=true)->bit B i j=true->listed.getD j false=true:=by
 intro i
 induction i using Nat.strongRecOn with
 | _ i ih=>
   intro o ho hl hb
   obtain⟨h1,h2⟩:=TM hB ho
   rw [Nat.zero_add] at h1 h2
   unfold bit at hb
   rw [h1] at hb
   unfold mof at hb
   rcases ZbC hb with h3|⟨e,he,hbe,h3⟩
   · simp at h3
   · have he':e∈o.after:=by simpa using he
     have hon:=hl e he' hbe
     rcases h3 with h3|h3
     · rw [<-h3];exact hon
     · have hlt:=h2 e he' hbe
       have hil:i<l.length:=(List.getElem?_eq_some_iff.1 ho).1
       have ho':l[e.on]? =some (l[e.on]'(by omega)):=List.getElem?_eq_getElem _
       exact ih e.on hlt ho' (hc.2 e.on _ (by simp) hon) h3
structure Rg where
  l:List Oper
  B:List Nat
  t:Nat->Option V
  c0:Nat
noncomputable def UM(l:List Oper)(B:List Nat)(t0:Nat->Option V)(R:T V)(i:Nat):Operand->Option V
  | .tmp t=>match Zan l 0 t with
    |some j=>bif bit B i j then R.get j else bif bit B j i then t0 t else none
    |none=>t0 t
  | .const v=>cv v
  | .func f=>some (.fn f [])
  | .global _=>none
noncomputable def K0(l:List Oper)(B:List Nat)(R:T V)(i:Nat)(o:Oper):Option Bool:=match o.guard with
  |none=>some true
  | some (j,p)=>bif bit B i j then match l[j]? with
    | some oj=>match oj.dst with
      | some d=>match R.get j with
        |some (.bool b)=>some (b==p)
        |some (.tup [])=>some false
        |_=>none
      |none=>none
    |none=>none
    else none
noncomputable def evX(l:List Oper)(B:List Nat)(t0:Nat->Option V)(c0:Nat)(P:Program)(R:T V)(x:X)(i:Nat)(o:Oper):Option (V×Option (List V×Nat)):=
  match K0 l B R i o with
  |none=>none
  |some false=>some (.tup [],none)
  | some true=>match kd o.op with
    | .pure=>(exP P (UM l B t0 R i) o.op).map fun v=>(v,none)
    | .load=>(exL P (UM l B t0 R i) x o.op).map fun v=>(v,none)
    | .new=>(exA P (UM l B t0 R i) (c0+i) o.op).map fun p=>(p.2.2,some (p.1,p.2.1))
    | .eff=>none
noncomputable def Wb(o:Oper):Bool:=match kd o.op with
  | .eff=>true
  |_=>false
noncomputable def Wc(l:List Oper)(B:List Nat)(t0:Nat->Option V)(c0:Nat)(P:Program):List (Oper×Nat)->T V->X->T V×X
  | [],R,x=>(R,x)
  | (o,i)::r,R,x=>match evX l B t0 c0 P R x i o with
    |some (v,none)=>Wc l B t0 c0 P r (R.set i v) x
    |some (v,some (cs,E))=>Wc l B t0 c0 P r (R.set i v) (x.set (c0+i) (.cells cs E none))
    |none=>Wc l B t0 c0 P r R x
noncomputable def ZeK(l:List Oper)(B:List Nat)(t0:Nat->Option V)(c0:Nat)(P:Program)(R:T V)(x:X)(p:Oper×Nat):Bool:=match evX l B t0 c0 P R x p.2 p.1,R.get p.2 with
  |some (v,none),some u=>eqV v u
  | some (v,some (cs,E)),some u=>eqV v u&&match x.get (c0+p.2) with
    |some (.cells l' E' none)=>Um cs l'&&Nat.beq E E'
    |_=>false
  |_,_=>false
noncomputable def avX(B:List Nat)(es:List (Oper×Nat))(i:Nat):Bool:=es.all fun e=> !(bit B i e.2)
noncomputable def ZfB(B:List Nat)(done:List Nat)(i:Nat):Bool:=done.all fun e=> !(bit B e i)
noncomputable def stgX(l:List Oper)(B:List Nat)(t0:Nat->Option V)(c0:Nat)(P:Program)(K:Kit)(ne:List (Oper×Nat)):List (Oper×Nat)->List Nat->(Nat->Bool)->T V->X->Option (T V×X)
  | es, done,new,R,x=>
    match Wc l B t0 c0 P (ne.filter fun p=>new p.2) R x with
    | (R1,x1)=>bif !(ne.all fun p=> !(avX B es p.2&&ZfB B done p.2)||ZeK l B t0 c0 P R1 x1 p) then none else
      match es with
      | []=>some (R1,x1)
      | (o,i)::es'=>bif !es'.all (fun e=>bit B e.2 i) then none else
        match K0 l B R1 i o with
        |some false=>stgX l B t0 c0 P K ne es' (i::done) (fun j=>avX B es' j&&bit B j i) (R1.set i (.tup [])) x1
        | some true=>match exE K P (UM l B t0 R1 i) x1 (c0+i) o.op with
          |some (v,y)=>stgX l B t0 c0 P K ne es' (i::done) (fun j=>avX B es' j&&bit B j i) (R1.set i v) y
          |none=>none
        |none=>none
section
variable {P:Program} {K:Kit} {G:Rg} {β β0:Env} {w:World} {w0:Base} {r:Option Nat} {a:Act}
theorem VS:∀{is:List (Oper×Nat)} {R:T V} {x:X} {j:Nat},(∀p∈is,p.2≠j)->(Wc G.l G.B G.t G.c0 P is R x).1.get j=R.get j
 | [],R,x,j,h=>rfl
 | (o,i)::is,R,x,j,h=>by
   have hi:i≠j:=h (o,i) (by simp)
   have hr:∀p∈is,p.2≠j:=fun p hp=>h p (by simp [hp])
   unfold Wc
   split
   · rw [VS hr,T.get_set,if_neg hi]
   · rw [VS hr,T.get_set,if_neg hi]
   · exact VS hr
theorem UX:∀{is:List (Oper×Nat)} {R:T V} {x:X},HR w0 β x w->(∀p∈is,β (G.c0+p.2)=none)->HR w0 β (Wc G.l G.B G.t G.c0 P is R x).2 w/\(Wc G.l G.B G.t G.c0 P is R x).2.c=x.c
 | [],R,x,h,_=>⟨h,rfl⟩
 | (o,i)::is,R,x,h,hn=>by
   have hi:β (G.c0+i)=none:=hn (o,i) (by simp)
   have hr:∀p∈is,β (G.c0+p.2)=none:=fun p hp=>hn p (by simp [hp])
   unfold Wc
   split
   · exact UX h hr
   · rename_i l E _
     obtain⟨h1,h2⟩:=UX (R:=R.set i _) (h.pre hi (.cells l E none)) hr
     exact⟨h1,h2⟩
   · exact UX h hr
structure Inv (G:Rg) (n0:Nat) (marks:List Nat) (es:List (Oper×Nat)) (done:List Nat) (R:T V) (x:X) (w0:Base) (β0:Env) (listed:Array Bool) (β:Env) (a:Act) (w:World):Prop where
  closed:Closed G.l.toArray listed
  hr:HR w0 β x w
  name:∀i,i<G.l.length->listed.getD i true=false->β (G.c0+i)=none
  c:G.c0+G.l.length<=x.c
  nx:NX G.c0 β0 β
  unl:∀e∈es,listed.getD e.2 true=false
  lst:∀e∈done,listed.getD e false=true
  old:∀t v,(∀j,Zan G.l 0 t=some j->listed.getD j false=false)->G.t t=some v->∃u,a.tmps[t]? =some u/\VR β v u
  got:∀j o d v,G.l[j]? =some o->listed.getD j false=true->o.dst=some d->R.get j=some v->∃u,a.tmps[d]? =some u/\VR β v u
  sz:a.tmps.size=n0
  ds:DR β marks a.defers
structure Good (G:Rg) (n0:Nat):Prop where
  B:T7 G.B G.l 0=true
  dst:∀i o d,G.l[i]? =some o->o.dst=some d->Zan G.l 0 d=some i/\d<n0
theorem YU{listed:Array Bool}{i:Nat}(h:i<listed.size):listed.getD i true=listed.getD i false:=by simp [Array.getD,h]
variable {n0:Nat} {marks:List Nat} {es:List (Oper×Nat)} {done:List Nat} {R:T V} {x:X} {listed:Array Bool}
theorem Inv.rho (h:Inv G n0 marks es done R x w0 β0 listed β a w) (hG:Good G n0) {i:Nat} {o:Oper} (ho:G.l[i]? =some o) (ha:∀e∈o.after,Region.binds .any e=true->listed.getD e.on false=true) (hun:listed.getD i true=false):Ve β (UM G.l G.B G.t R i) a.eval:=fun y v hy=>by
 cases y with
 | tmp t =>
   unfold UM at hy
   dsimp only at hy
   split at hy
   · rename_i j hj
     cases hb:bit G.B i j with
     | false =>
       rw [hb] at hy
       dsimp only [cond_false] at hy
       cases hb2:bit G.B j i with
       |false=>rw [hb2] at hy;cases hy
       | true=>
         rw [hb2] at hy
         obtain⟨_,oj,h1,h2⟩:=Va hj
         have h1':G.l[j]? =some oj:=by simpa using h1
         obtain⟨u,h3,h4⟩:=h.old t v (fun j' hj'=>by
           rw [hj] at hj';cases hj'
           cases hq:listed.getD j false with
           |false=>rfl
           | true=>
             exfalso
             have h5:=Yw hG.B h.closed j h1' (h.closed.2 j _ (by simpa using h1') hq) hb2
             have hsz:listed.size=G.l.length:=by have:=h.closed.1;simpa using this
             have hil:=(List.getElem?_eq_some_iff.1 ho).1
             rw [YU Oa] at hun
             rw [hun] at h5;cases h5) hy
         have:a.eval (.tmp t)=u:=by simp [Act.eval,h3]
         rw [this];exact h4
     | true=>
       rw [hb] at hy
       obtain⟨_,oj,h1,h2⟩:=Va hj
       obtain⟨u,h3,h4⟩:=h.got j oj t v (by simpa using h1) (Yw hG.B h.closed i ho ha hb) h2 hy
       have:a.eval (.tmp t)=u:=by simp [Act.eval,h3]
       rw [this];exact h4
   · rename_i hj
     obtain⟨u,h3,h4⟩:=h.old t v (fun j' hj'=>by rw [hj] at hj';cases hj') hy
     have:a.eval (.tmp t)=u:=by simp [Act.eval,h3]
     rw [this];exact h4
 |const u=>exact ZdH hy
 |func f=>injection hy with hy;subst hy;exact .fn (vs:= []) .nil
 |global g=>cases hy
theorem Inv.guard (h:Inv G n0 marks es done R x w0 β0 listed β a w) (hG:Good G n0) {i:Nat} {o:Oper} (ho:G.l[i]? =some o) (ha:∀e∈o.after,Region.binds .any e=true->listed.getD e.on false=true) {b:Bool} (hg:K0 G.l G.B R i o=some b):
   Region.wanted o (yielded G.l.toArray a.tmps)=b:=by
 unfold K0 at hg
 split at hg
 · rename_i h0
   injection hg with hg;subst hg
   simp [Region.wanted,h0]
 · rename_i j p h0
   cases hb:bit G.B i j with
   |false=>rw [hb] at hg;cases hg
   | true=>
     rw [hb] at hg
     dsimp only [cond_true] at hg
     have hl:=Yw hG.B h.closed i ho ha hb
     split at hg
     · rename_i oj hj
       split at hg
       · rename_i d hd
         split at hg
         · rename_i b' ht
           injection hg with hg;subst hg
           obtain⟨u,h1,h2⟩:=h.got j oj d _ hj hl hd ht
           cases h2
           simp only [Region.wanted,h0,yielded,List.getElem?_toArray,hj,Option.bind_some,hd,h1]
           cases b'<;>cases p<;>rfl
         · rename_i ht
           injection hg with hg;subst hg
           obtain⟨u,h1,h2⟩:=h.got j oj d _ hj hl hd ht
           cases h2 with
           | tup hh=>
             cases hh
             simp [Region.wanted,h0,yielded,hj,hd,h1]
         · cases hg
       · cases hg
     · cases hg
theorem Inv.step {R':T V} {x':X} {β':Env} {w':World} {es':List (Oper×Nat)} {done':List Nat} {v:V} {u:Value} (h:Inv G n0 marks es done R x w0 β0 listed β a w) (hG:Good G n0) {i:Nat} {o:Oper} (ho:G.l[i]? =some o) (hi:i∈Region.ready .any G.l.toArray listed)
   (hv:VR β' v u) (hr:HR w0 β' x' w') (hn:∀k,k<x.c->k≠G.c0+i->β' k=β k) (hc:x.c<=x'.c) (hRi:R'.get i=some v) (hR:∀j,j≠i->R'.get j=R.get j) (hes:∀e∈es',e∈es/\e.2≠i) (y5:∀e∈done',e=i\/e∈done):
   Inv G n0 marks es' done' R' x' w0 β0 (listed.setIfInBounds i true) β' (a.put o.dst u) w':=by
 have hil:i<G.l.length:=(List.getElem?_eq_some_iff.1 ho).1
 have hsz:listed.size=G.l.length:=by have:=h.closed.1;simpa using this
 have hcc:=h.c
 have hun:listed.getD i true=false:=(mem_ready.1 hi).1
 have hbi:β (G.c0+i)=none:=h.name i hil hun
 have ba:Ext β β':=fun k p hk=>by
   obtain⟨b,c⟩:=p
   have hk':=(h.hr.lt hk).1
   rw [hn k hk' (fun e=>by subst e;rw [hbi] at hk;cases hk)];exact hk
 have ez:∀j,j≠i->(listed.setIfInBounds i true).getD j false=listed.getD j false:=fun j hj=>Ym false (Ne.symm hj)
 have bU:∀j,j≠i->(listed.setIfInBounds i true).getD j true=listed.getD j true:=fun j hj=>Ym true (Ne.symm hj)
 have zK:∀b,(listed.setIfInBounds i true).getD i b=true:=fun b=>by simp [Array.getD,hsz,hil]
 refine⟨h.closed.set hi,hr,fun j hj hl=> ?_,Nat.le_trans hcc hc,fun k hk=> ?_,fun e he=> ?_,fun e he=> ?_,fun t v' ht hg=> ?_,fun j oj d v' hj hl hd hg=> ?_,?_,?_⟩
 · by_cases e:j=i
   · subst e;rw [zK] at hl;cases hl
   · rw [bU j e] at hl
     rw [hn _ Oa Oa];exact h.name j hj hl
 · rw [hn k Oa Oa];exact h.nx k hk
 · obtain⟨h1,h2⟩:=hes e he
   rw [bU _ h2];exact h.unl e h1
 · rcases y5 e he with rfl|h1
   · exact zK _
   · exact getD_set_true (h.lst e h1)
 · obtain⟨u',h1,h2⟩:=h.old t v' (fun j hj=>by
     have h3:=ht j hj
     have hji:j≠i:=fun e=>by subst e;rw [zK] at h3;cases h3
     rw [ez j hji] at h3;exact h3) hg
   refine⟨u',?_,h2.mono ba⟩
   cases hd:o.dst with
   |none=>exact h1
   | some d=>
     have hdt:d≠t:=fun e=>by
       subst e
       have h3:=ht i (hG.dst i o d ho hd).1
       rw [zK] at h3;cases h3
     simp only [Act.put]
     rw [Array.getElem?_setIfInBounds_ne hdt];exact h1
 · by_cases e:j=i
   · subst e
     rw [ho] at hj;cases hj
     rw [hRi] at hg;cases hg
     refine⟨u,?_,hv⟩
     rw [hd]
     have:=(hG.dst j o d ho hd).2
     have hs:=h.sz
     simp [Act.put,hs,this]
   · rw [ez j e] at hl
     rw [hR j e] at hg
     obtain⟨u',h1,h2⟩:=h.got j oj d v' hj hl hd hg
     refine⟨u',?_,h2.mono ba⟩
     cases hd':o.dst with
     |none=>exact h1
     | some d'=>
       have hdd:d'≠d:=fun e'=>by
         subst e'
         have h3:=(hG.dst i o d' ho hd').1
         have h4:=(hG.dst j oj d' hj hd).1
         rw [h3] at h4
         exact e (Option.some.inj h4).symm
       simp only [Act.put]
       rw [Array.getElem?_setIfInBounds_ne hdd];exact h1
 · have:=h.sz
   cases o.dst<;>simpa [Act.put] using this
 · have:(a.put o.dst u).defers=a.defers:=by cases o.dst<;>rfl
   rw [this];exact h.ds.mono ba
noncomputable def left(n:Nat)(listed:Array Bool):Nat:=((List.range n).filter fun j=> !listed.getD j true).length
theorem Tw{listed:Array Bool}{i:Nat}(hi:i<listed.size)(hun:listed.getD i true=false):∀n,left n (listed.setIfInBounds i true)+(if i<n then 1 else 0)=left n listed
 |0=>by simp [left]
 | n +1=>by
   have ih:=Tw hi hun n
   unfold left at*
   rw [List.range_succ,List.filter_append,List.filter_append,List.length_append,List.length_append]
   by_cases e:n=i
   · subst e
     rw [if_neg Oa] at ih
     rw [if_pos Oa]
     have h1:(listed.setIfInBounds n true).getD n true=true:=by simp [Array.getD,hi]
     have h2:([n].filter fun j=> !(listed.setIfInBounds n true).getD j true).length=0:=by simp only [List.filter,h1];rfl
     have h3:([n].filter fun j=> !listed.getD j true).length=1:=by simp only [List.filter,hun];rfl
     rw [h2,h3];omega
   · have h1:(listed.setIfInBounds i true).getD n true=listed.getD n true:=Ym true (Ne.symm e)
     have h2:([n].filter fun j=> !(listed.setIfInBounds i true).getD j true)= [n].filter fun j=> !listed.getD j true:=by simp only [List.filter,h1]
     rw [h2]
     by_cases e2:i<n
     · rw [if_pos e2] at ih;rw [if_pos Oa];omega
     · rw [if_neg e2] at ih;rw [if_neg Oa];omega
theorem Zev{n:Nat}{listed:Array Bool}(h:left n listed=0){j:Nat}(hj:j<n):listed.getD j true=true:=by
 unfold left at h
 have h1:=List.eq_nil_of_length_eq_zero h
 cases hq:listed.getD j true with
 |true=>rfl
 | false=>
   have:j∈(List.range n).filter fun j=> !listed.getD j true:=List.mem_filter.2 ⟨List.mem_range.2 hj,by simp only [hq];rfl⟩
   rw [h1] at this;cases this
theorem Zef {l:List Oper} {B:List Nat} {listed:Array Bool} (hB:T7 B l 0=true) (hsz:listed.size=l.length) (h:Region.ready .any l.toArray listed= []):∀i,i<l.length->listed.getD i false=true:=by
 intro i
 induction i using Nat.strongRecOn with
 | _ i ih=>
   intro hi
   cases hq:listed.getD i false with
   |true=>rfl
   | false=>
     exfalso
     have ho:l[i]? =some (l[i]):=List.getElem?_eq_getElem hi
     have:i∈Region.ready .any l.toArray listed:=mem_ready.2 ⟨by rw [YU Oa];exact hq,l[i],by simp,fun e he hb=>by
       have hlt:=(TM hB ho).2 e he hb
       rw [Nat.zero_add] at hlt
       exact ih e.on hlt Oa⟩
     rw [h] at this;cases this
end
end Go.Proofs.Ev
namespace Go.Proofs.Ev
open Go Go.RowKit Go.Proofs.Gw
section
variable {P:Program} {K:Kit} {G:Rg} {β β0:Env} {w:World} {w0:Base} {r:Option Nat} {a:Act} {n0:Nat} {marks:List Nat} {es:List (Oper×Nat)} {done:List Nat} {R:T V} {x:X} {listed:Array Bool} {Q:Exit->Act->World->Prop} {ne:List (Oper×Nat)}
structure NE (G:Rg) (ne:List (Oper×Nat)):Prop where
  all:∀i o,G.l[i]? =some o->Wb o=false->(o,i)∈ne
  is:∀p∈ne,G.l[p.2]? =some p.1/\Wb p.1=false
structure ES (G:Rg) (es:List (Oper×Nat)) (done:List Nat):Prop where
  all:∀i o,G.l[i]? =some o->Wb o=true->(o,i)∈es\/i∈done
  is:∀p∈es,G.l[p.2]? =some p.1/\Wb p.1=true
theorem Zcq (hG:Good G n0) (h:Inv G n0 marks es done R x w0 β0 listed β a w) {i:Nat} {o:Oper} (ho:G.l[i]? =some o) (hi:i∈Region.ready .any G.l.toArray listed) (hc:ZeK G.l G.B G.t G.c0 P R x (o,i)=true) {K':Act->World->Prop}
   (hK:∀β' a' w',Inv G n0 marks es done R x w0 β0 (listed.setIfInBounds i true) β' a' w'->K' a' w') (hie:∀e∈es,e.2≠i):wpOpIn (FZ r) 0 P G.l.toArray Q i K' a w:=by
 obtain⟨hun,o',ho',ha⟩:=mem_ready.1 hi
 have:o'=o:=by
   have h1:G.l.toArray[i]? =some o:=by simpa using ho
   exact Option.some.inj (ho'.symm.trans h1)
 subst this
 have hρ:=h.rho hG ho ha hun
 have hil:i<G.l.length:=(List.getElem?_eq_some_iff.1 ho).1
 have hbi:=h.name i hil hun
 have hcc:=h.c
 have es':∀e∈es,e∈es/\e.2≠i:=fun e he=>⟨he,hie e he⟩
 have ds':∀e∈done,e=i\/e∈done:=fun e he=> .inr he
 have same:∀{v:V} {u:Value},VR β v u->R.get i=some v->Inv G n0 marks es done R x w0 β0 (listed.setIfInBounds i true) β (a.put o'.dst u) w:=fun hv hR=>
   h.step hG ho hi hv h.hr (fun _ _ _=>rfl) (Nat.le_refl _) hR (fun _ _=>rfl) es' ds'
 unfold wpOpIn
 simp only [ho']
 unfold ZeK at hc
 split at hc
 · rename_i v u hev hR
   have:=Zak hc
   subst this
   unfold evX at hev
   split at hev
   · cases hev
   · rename_i hg
     rw [h.guard hG ho ha hg,if_neg (by simp)]
     injection hev with hev;injection hev with e1 e2;subst e1
     exact⟨fun _ _=>trivial,hK β _ w (same (.tup (vs:= []) .nil) hR)⟩
   · rename_i hg
     rw [h.guard hG ho ha hg,if_pos rfl]
     split at hev
     · cases hp:exP P (UM G.l G.B G.t R i) o'.op with
       |none=>rw [hp] at hev;cases hev
       | some v'=>
         rw [hp] at hev;injection hev with hev;injection hev with e1 e2;subst e1
         obtain⟨u,h1,h2⟩:=Zgn hρ hp
         exact V6 (h1 w) (hK β _ w (same h2 hR))
     · cases hp:exL P (UM G.l G.B G.t R i) x o'.op with
       |none=>rw [hp] at hev;cases hev
       | some v'=>
         rw [hp] at hev;injection hev with hev;injection hev with e1 e2;subst e1
         obtain⟨u,h1,h2⟩:=ZcF h.hr hρ hp
         exact V6 h1 (hK β _ w (same h2 hR))
     · cases hp:exA P (UM G.l G.B G.t R i) (G.c0+i) o'.op with
       |none=>rw [hp] at hev;cases hev
       |some p=>rw [hp] at hev;injection hev with hev;injection hev with e1 e2;cases e2
     · cases hev
 · rename_i v l E u hev hR
   rw [Bool.and_eq_true] at hc
   obtain⟨hc1,hc2⟩:=hc
   have:=Zak hc1
   subst this
   split at hc2
   · rename_i l' E' hx
     rw [Bool.and_eq_true] at hc2
     have e1:=XV hc2.1
     have e2:=ZI.1 hc2.2
     subst e1;subst e2
     unfold evX at hev
     split at hev
     · cases hev
     · injection hev with hev;injection hev with e1 e2;cases e2
     · rename_i hg
       rw [h.guard hG ho ha hg,if_pos rfl]
       split at hev
       · cases hp:exP P (UM G.l G.B G.t R i) o'.op with
         |none=>rw [hp] at hev;cases hev
         |some v'=>rw [hp] at hev;injection hev with hev;injection hev with e1 e2;cases e2
       · cases hp:exL P (UM G.l G.B G.t R i) x o'.op with
         |none=>rw [hp] at hev;cases hev
         |some v'=>rw [hp] at hev;injection hev with hev;injection hev with e1 e2;cases e2
       · cases hp:exA P (UM G.l G.B G.t R i) (G.c0+i) o'.op with
         |none=>rw [hp] at hev;cases hev
         | some p=>
           obtain⟨l2,E2,v2⟩:=p
           rw [hp] at hev;injection hev with hev;injection hev with e1 e2;subst e1
           injection e2 with e2;injection e2 with e2 e3;subst e2;subst e3
           obtain⟨us,h1,h2⟩:=Zgp hρ hp
           obtain⟨u,h3,h4⟩:=h2 w
           have h5:=h.hr.alloc (c:=0) (rb:= .cells us.toArray E2) hbi Oa hx ⟨us, [],by simp,h1.mono (Wi hbi),rfl⟩
           exact V6 h3 (hK _ _ _ (h.step hG ho hi (h4 _ XC) h5 (fun k _ hk=>Y2 hk) (Nat.le_refl _) hR (fun _ _=>rfl) es' ds'))
       · cases hev
   · cases hc2
 · cases hc
theorem ZaT (hG:Good G n0) (hne:NE G ne) (hES:ES G es done) (gW:∀p∈ne,avX G.B es p.2=true->ZfB G.B done p.2=true->ZeK G.l G.B G.t G.c0 P R x p=true)
   (z7:∀e es',es=e::es'->∀e'∈es',bit G.B e'.2 e.2=true)
   (fA:es= []->∀listed β a w,Inv G n0 marks es done R x w0 β0 listed β a w->(∀i,i<G.l.length->listed.getD i false=true)->Q .normal a w)
   (fz:∀e es',es=e::es'->∀fuel listed β a w,Inv G n0 marks es done R x w0 β0 listed β a w->e.2∈Region.ready .any G.l.toArray listed->left G.l.length listed=fuel+1->
     wpOpIn (FZ r) 0 P G.l.toArray Q e.2 (wpAnyIn (FZ r) 0 P .any G.l.toArray Q fuel (listed.setIfInBounds e.2 true)) a w):
   ∀fuel listed β a w,Inv G n0 marks es done R x w0 β0 listed β a w->left G.l.length listed=fuel->wpAnyIn (FZ r) 0 P .any G.l.toArray Q fuel listed a w:=by
 intro fuel
 have ends:∀listed β a w,Inv G n0 marks es done R x w0 β0 listed β a w->Region.ready .any G.l.toArray listed= []->Q .normal a w:=fun listed β a w h hr=>by
   have hsz:listed.size=G.l.length:=by have:=h.closed.1;simpa using this
   have qa:=Zef hG.B hsz hr
   refine fA ?_ listed β a w h qa
   cases hes:es with
   |nil=>rfl
   | cons e es'=>
     exfalso
     have he:e∈es:=by rw [hes];simp
     have h1:=(hES.is e he).1
     have hl:=(List.getElem?_eq_some_iff.1 h1).1
     have h2:=h.unl e he
     have h3:=qa e.2 hl
     rw [YU Oa] at h2
     rw [h2] at h3;cases h3
 induction fuel with
 | zero=>
   intro listed β a w h hf
   have hr:Region.ready .any G.l.toArray listed= []:=by
     rw [List.eq_nil_iff_forall_not_mem]
     intro i hi
     obtain⟨hun,o,ho,_⟩:=mem_ready.1 hi
     have hil:i<G.l.length:=by
       have:=(Array.getElem?_eq_some_iff.1 ho).1
       simpa using this
     rw [Zev hf hil] at hun;cases hun
   exact⟨hr,ends listed β a w h hr⟩
 | succ fuel ih=>
   intro listed β a w h hf
   refine⟨fun hr=>ends listed β a w h hr,fun i hi=> ?_⟩
   obtain⟨hun,o,ho,ha⟩:=mem_ready.1 hi
   have ho':G.l[i]? =some o:=by simpa using ho
   have hil:i<G.l.length:=(List.getElem?_eq_some_iff.1 ho').1
   have hsz:listed.size=G.l.length:=by have:=h.closed.1;simpa using this
   have yz:left G.l.length (listed.setIfInBounds i true)=fuel:=by
     have:=Tw Oa hun G.l.length
     rw [if_pos hil] at this;omega
   cases hk:Wb o with
   | true=>
     rcases hES.all i o ho' hk with hm|hm
     · cases hes:es with
       |nil=>rw [hes] at hm;cases hm
       | cons e es'=>
         rw [hes] at hm
         rcases List.mem_cons.1 hm with e1|e1
         · have:e.2=i:=by rw [<-e1]
           rw [<-this] at hi⊢
           exact fz e es' hes fuel listed β a w h hi hf
         · exfalso
           have hb:=z7 e es' hes _ e1
           have h1:=Yw hG.B h.closed i ho' ha hb
           have h2:=h.unl e (by rw [hes];simp)
           have hel:=(List.getElem?_eq_some_iff.1 (hES.is e (by rw [hes];simp)).1).1
           rw [YU Oa] at h2
           rw [h2] at h1;cases h1
     · exfalso
       have:=h.lst i hm
       rw [YU Oa] at hun
       rw [hun] at this;cases this
   | false =>
     have xN:=hne.all i o ho' hk
     have hav:avX G.B es i=true:=List.all_eq_true.2 fun e he=>by
       cases hb:bit G.B i e.2 with
       |false=>rfl
       | true=>
         exfalso
         have h1:=Yw hG.B h.closed i ho' ha hb
         have h2:=h.unl e he
         have hel:=(List.getElem?_eq_some_iff.1 (hES.is e he).1).1
         rw [YU Oa] at h2
         rw [h2] at h1;cases h1
     have hop:ZfB G.B done i=true:=List.all_eq_true.2 fun e he=>by
       cases hb:bit G.B e i with
       |false=>rfl
       | true=>
         exfalso
         have hl:=h.lst e he
         have hel:e<G.l.length:=by
           rcases Nat.lt_or_ge e G.l.length with h'|h'
           · exact h'
           · rw [Array.getD_eq_getD_getElem?,Array.getElem?_eq_none Oa] at hl;cases hl
         have heo:G.l[e]? =some G.l[e]:=List.getElem?_eq_getElem hel
         have h1:=Yw hG.B h.closed e heo (h.closed.2 e _ (by simp) hl) hb
         rw [YU Oa] at hun
         rw [hun] at h1;cases h1
     exact Zcq hG h ho' hi (gW _ xN hav hop) (fun β' a' w' h'=>ih _ β' a' w' h' yz) fun e he e1=>by
       have h1:=hES.is e he
       rw [e1,ho'] at h1
       have h2:=Option.some.inj h1.1
       rw [<-h2,hk] at h1
       exact absurd h1.2 (by simp)
theorem Inv.fill{new:Nat->Bool}(hne:NE G ne)(h:Inv G n0 marks es done R x w0 β0 listed β a w)(zt:∀p∈ne,new p.2=true->listed.getD p.2 true=false):
   Inv G n0 marks es done (Wc G.l G.B G.t G.c0 P (ne.filter fun p=>new p.2) R x).1 (Wc G.l G.B G.t G.c0 P (ne.filter fun p=>new p.2) R x).2 w0 β0 listed β a w:=by
 have xN:∀p∈ne.filter fun p=>new p.2,G.l[p.2]? =some p.1/\listed.getD p.2 true=false:=fun p hp=>by
   obtain⟨h1,h2⟩:=List.mem_filter.1 hp
   exact⟨(hne.is p h1).1,zt p h1 h2⟩
 obtain⟨h1,h2⟩:=UX (P:=P) (G:=G) (is:=ne.filter fun p=>new p.2) (R:=R) h.hr fun p hp=>h.name _ (List.getElem?_eq_some_iff.1 (xN p hp).1).1 (xN p hp).2
 refine {h with hr:=h1,c:=by rw [h2];exact h.c,got:=fun j o d v hj hl hd hg=> ?_}
 rw [VS] at hg
 · exact h.got j o d v hj hl hd hg
 · intro p hp e
   have h3:=(xN p hp).2
   have hsz:listed.size=G.l.length:=by have:=h.closed.1;simpa using this
   have hjl:=(List.getElem?_eq_some_iff.1 hj).1
   rw [e,YU Oa] at h3
   rw [h3] at hl;cases hl
theorem Zkp (hK:KOk P K) (hG:Good G n0) (hne:NE G ne) {Rf:T V} {xf:X} (fin:∀done listed β a w,Inv G n0 marks [] done Rf xf w0 β0 listed β a w->(∀i,i<G.l.length->listed.getD i false=true)->Q .normal a w):
   ∀ (es:List (Oper×Nat)) (done:List Nat) (new:Nat->Bool) (R:T V) (x:X),stgX G.l G.B G.t G.c0 P K ne es done new R x=some (Rf,xf)->ES G es done->∀fuel listed β a w,Inv G n0 marks es done R x w0 β0 listed β a w->(∀p∈ne,new p.2=true->listed.getD p.2 true=false)->left G.l.length listed=fuel->
     wpAnyIn (FZ r) 0 P .any G.l.toArray Q fuel listed a w:=by
 intro es
 induction es with
 | nil=>
   intro done new R x he hES fuel listed β a w h zt hf
   unfold stgX at he
   have h1:=h.fill (P:=P) hne zt
   generalize hfl:Wc G.l G.B G.t G.c0 P (ne.filter fun p=>new p.2) R x=q at he h1
   obtain⟨R1,x1⟩:=q
   dsimp only at he h1
   cases qa:ne.all (fun p=> !(avX G.B [] p.2&&ZfB G.B done p.2)||ZeK G.l G.B G.t G.c0 P R1 x1 p) with
   |false=>rw [qa] at he;cases he
   | true=>
     rw [qa] at he
     injection he with he;injection he with e1 e2;subst e1;subst e2
     refine ZaT hG hne hES (fun p hp hav hop=> ?_) (fun e es' e1=>by cases e1) (fun _ listed β a w h hl=>fin done listed β a w h hl) (fun e es' e1=>by cases e1) fuel listed β a w h1 hf
     have:=List.all_eq_true.1 qa p hp
     rw [hav,hop] at this
     simpa using this
 | cons e es' ih=>
   intro done new R x he hES fuel listed β a w h zt hf
   obtain⟨o,i⟩:=e
   unfold stgX at he
   have h1:=h.fill (P:=P) hne zt
   generalize hfl:Wc G.l G.B G.t G.c0 P (ne.filter fun p=>new p.2) R x=q at he h1
   obtain⟨R1,x1⟩:=q
   dsimp only at he h1
   cases qa:ne.all (fun p=> !(avX G.B ((o,i)::es') p.2&&ZfB G.B done p.2)||ZeK G.l G.B G.t G.c0 P R1 x1 p) with
   |false=>rw [qa] at he;cases he
   | true=>
     rw [qa] at he
     simp only [Bool.not_true,cond_false] at he
     cases z7:es'.all (fun e=>bit G.B e.2 i) with
     |false=>rw [z7] at he;cases he
     | true=>
       rw [z7] at he
       simp only [Bool.not_true,cond_false] at he
       have ho:=(hES.is (o,i) (by simp)).1
       have hoe:=(hES.is (o,i) (by simp)).2
       dsimp only at ho hoe
       have fm:ES G es' (i::done):=⟨fun j oj hj hk=>by
         rcases hES.all j oj hj hk with hm|hm
         · rcases List.mem_cons.1 hm with e1|e1
           · injection e1 with e1 e2;exact .inr (by rw [e2];simp)
           · exact .inl e1
         · exact .inr (by simp [hm]),fun p hp=>hES.is p (by simp [hp])⟩
       refine ZaT hG hne hES (fun p hp hav hop=> ?_) (fun e es'' e1 e' he'=> ?_) (fun e1=>by cases e1) (fun e es'' e1 fuel listed β a w h hi hf=> ?_) fuel listed β a w h1 hf
       · have:=List.all_eq_true.1 qa p hp
         rw [hav,hop] at this
         simpa using this
       · injection e1 with e1 e2
         subst e1;subst e2
         exact List.all_eq_true.1 z7 e' he'
       · injection e1 with e1 e2
         subst e1;subst e2
         dsimp only at hi⊢
         obtain⟨hun,o2,ho2,ha⟩:=mem_ready.1 hi
         have:o2=o:=by
           have h2:G.l.toArray[i]? =some o:=by simpa using ho
           exact Option.some.inj (ho2.symm.trans h2)
         subst this
         have hil:i<G.l.length:=(List.getElem?_eq_some_iff.1 ho).1
         have hsz:listed.size=G.l.length:=by have:=h.closed.1;simpa using this
         have hbi:=h.name i hil hun
         have hcc:=h.c
         have yz:left G.l.length (listed.setIfInBounds i true)=fuel:=by
           have:=Tw Oa hun G.l.length
           rw [if_pos hil] at this;omega
         have fg:∀e∈es',e∈(o2,i)::es'/\e.2≠i:=fun e he=>⟨by simp [he],fun e1=>by
           have hb:=List.all_eq_true.1 z7 e he
           rw [e1] at hb
           have h3:=Yw hG.B h.closed i ho ha hb
           rw [YU Oa] at hun
           rw [hun] at h3;cases h3⟩
         have hdn:∀e∈i::done,e=i\/e∈done:=fun e he=>List.mem_cons.1 he
         have bW:∀p∈ne,(avX G.B es' p.2&&bit G.B p.2 i)=true->(listed.setIfInBounds i true).getD p.2 true=false:=fun p hp hb=>by
           rw [Bool.and_eq_true] at hb
           have hpo:=hne.is p hp
           have hpi:i≠p.2:=fun e=>by
             have h3:=hpo.1
             rw [<-e,ho] at h3
             have h4:=Option.some.inj h3
             rw [<-h4,hoe] at hpo
             exact absurd hpo.2 (by simp)
           rw [Ym true hpi]
           have hpl:=(List.getElem?_eq_some_iff.1 hpo.1).1
           rw [YU Oa]
           cases hq:listed.getD p.2 false with
           |false=>rfl
           | true=>
             exfalso
             have h3:=Yw hG.B h.closed p.2 hpo.1 (h.closed.2 p.2 _ (by simpa using hpo.1) hq) hb.2
             rw [YU Oa] at hun
             rw [hun] at h3;cases h3
         unfold wpOpIn
         simp only [ho2]
         split at he
         · rename_i hg
           rw [h.guard hG ho ha hg,if_neg (by simp)]
           refine⟨fun _ _=>trivial,ih _ _ _ _ he fm fuel _ β _ w ?_ bW yz⟩
           exact h.step hG ho hi (.tup (vs:= []) .nil) h.hr (fun _ _ _=>rfl) (Nat.le_refl _) (by rw [T.get_set,if_pos rfl]) (fun j hj=>by rw [T.get_set,if_neg (Ne.symm hj)]) fg hdn
         · rename_i hg
           rw [h.guard hG ho ha hg,if_pos rfl]
           split at he
           · rename_i v y hv
             refine Zgo hK h.hr (h.rho hG ho ha hun) hbi Oa hv fun β' u w' h1 h2 h3 h4=> ?_
             exact ih _ _ _ _ he fm fuel _ β' _ w' (h.step hG ho hi h1 h2 h3 h4 (by rw [T.get_set,if_pos rfl]) (fun j hj=>by rw [T.get_set,if_neg (Ne.symm hj)]) fg hdn) bW yz
           · cases he
         · cases he
end
end Go.Proofs.Ev
namespace Go.Proofs.Ev
open Go Go.RowKit Go.Proofs.Gw
noncomputable def fin:List (Oper×Nat)->T V->List (Nat×V)->Option (List (Nat×V))
  | [],_,b=>some b
  | (o,i)::r,R,b=>match o.dst with
    |none=>fin r R b
    | some d=>match R.get i with
      |some v=>fin r R ((d,v)::b)
      |none=>none
theorem Zab :∀{is:List (Oper×Nat)} {R:T V} {b b':List (Nat×V)},fin is R b=some b'->∀t q v,Xd t b' q=some v->(∃p∈is,p.1.dst=some q/\R.get p.2=some v)\/((∀p∈is,p.1.dst≠some q)/\Xd t b q=some v)
 | [],R,b,b',h,t,q,v,hq=>by
   injection h with h;subst h
   exact .inr ⟨by simp,hq⟩
 | (o, i)::r,R,b,b',h,t,q,v,hq=>by
   unfold fin at h
   split at h
   · rename_i hd
     rcases Zab h t q v hq with⟨p,hp,h1⟩|⟨h1,h2⟩
     · exact .inl ⟨p,by simp [hp],h1⟩
     · refine .inr ⟨fun p hp=> ?_,h2⟩
       rcases List.mem_cons.1 hp with rfl|hp
       · simp [hd]
       · exact h1 p hp
   · rename_i d hd
     split at h
     · rename_i v0 hv0
       rcases Zab h t q v hq with⟨p,hp,h1⟩|⟨h1,h2⟩
       · exact .inl ⟨p,by simp [hp],h1⟩
       · rw [RR] at h2
         by_cases e:d=q
         · subst e
           rw [if_pos rfl] at h2
           injection h2 with h2;subst h2
           exact .inl ⟨(o,i),by simp,hd,hv0⟩
         · rw [if_neg e] at h2
           refine .inr ⟨fun p hp=> ?_,h2⟩
           rcases List.mem_cons.1 hp with rfl|hp
           · simp [hd,e]
           · exact h1 p hp
     · cases h
theorem RJ{b:List (Nat×V)}{d:Nat}{v:V}{q:Nat}(h:look ((d,v)::b) q≠none):d=q\/look b q≠none:=by
 by_cases e:d=q
 · exact .inl e
 · rw [X8,XL e] at h;exact .inr h
theorem TD:∀{is:List (Oper×Nat)} {R:T V} {b b':List (Nat×V)},fin is R b=some b'->∀q,look b' q≠none->look b q≠none\/∃p∈is,p.1.dst=some q
 | [],R,b,b',h,q,hq=>by
   injection h with h;subst h
   exact .inl hq
 | (o, i)::r,R,b,b',h,q,hq=>by
   unfold fin at h
   split at h
   · rcases TD h q hq with h1|⟨p,hp,h1⟩
     · exact .inl h1
     · exact .inr ⟨p,by simp [hp],h1⟩
   · rename_i d hd
     split at h
     · rcases TD h q hq with h1|⟨p,hp,h1⟩
       · rcases RJ h1 with e|h1
         · exact .inr ⟨(o,i),by simp,by rw [hd,e]⟩
         · exact .inl h1
       · exact .inr ⟨p,by simp [hp],h1⟩
     · cases h
noncomputable def ZbS(l:List Oper)(n:Nat)(p:Oper×Nat):Bool:=match p.1.dst with
  | some d=>(match Zan l 0 d with
    |some j=>Nat.beq j p.2
    |none=>false)&&Nat.blt d n
  |none=>true
noncomputable def Zlj(K:Kit)(P:Program)(n:Nat)(ops:Array Oper)(s:S):Option S:=
  let l:=ops.toList
  let iz:=l.zipIdx
  bif !(Nat.beq s.n n&&(T7 (T3 l) l 0&&iz.all (ZbS l n))) then none else
  match stgX l (T3 l) s.get s.x.c P K (iz.filter fun p=> !(Wb p.1)) (iz.filter fun p=>Wb p.1) [] (fun j=>avX (T3 l) (iz.filter fun p=>Wb p.1) j) (T.mk 3) ⟨s.x.h,s.x.c+l.length⟩ with
  | some (R,x)=>match fin iz R s.b with
    |some b=>some ⟨s.t,b,s.n,s.ds,x⟩
    |none=>none
  |none=>none
noncomputable def evD(K:Kit)(P:Program)(n:Nat)(ops:Array Oper)(s:S):Option S:=S.rec (motive:=fun _=>Option S) (fun t b n' ds x0=>
  bif !(Nat.beq n' n&&(T7 (T3 ops.toList) ops.toList 0&&ops.toList.zipIdx.all (ZbS ops.toList n))) then none else
  match stgX ops.toList (T3 ops.toList) (Xd t b) x0.c P K (ops.toList.zipIdx.filter fun p=> !(Wb p.1)) (ops.toList.zipIdx.filter fun p=>Wb p.1) [] (fun j=>avX (T3 ops.toList) (ops.toList.zipIdx.filter fun p=>Wb p.1) j) (T.mk 3) (x0.bump ops.toList.length) with
  | some (R,x)=>match fin ops.toList.zipIdx R b with
    |some b=>some ⟨t,b,n',ds,x⟩
    |none=>none
  |none=>none) s
theorem Zgs(K:Kit)(P:Program)(n:Nat)(ops:Array Oper)(s:S):evD K P n ops s=Zlj K P n ops s:=by
 cases s;rfl
section
variable {P:Program} {K:Kit} {β:Env} {w:World} {w0:Base} {rr:Option Nat} {a:Act} {s s':S} {ops:Array Oper} {Q:Exit->Act->World->Prop}
theorem Xi{l:List Oper}{p:Oper×Nat}:p∈l.zipIdx↔l[p.2]? =some p.1:=by
 obtain⟨o,i⟩:=p
 rw [List.mem_zipIdx_iff_getElem?]
theorem Zli {n:Nat} (hK:KOk P K) (hm:P.follows .mixedOrders=true) {id:Nat} (hF:FR w0 β s a w) (he:evD K P n ops s=some s') (hx:∀β' a' w',FR w0 β' s' a' w'->NX s.x.c β β'->s.x.c<=s'.x.c->Q .normal a' w'):(Code.region id ops true).wpIn (FZ rr) 0 P Q a w:=by
 obtain⟨l⟩:=ops
 rw [Zgs] at he
 unfold Zlj at he
 dsimp only at he
 cases hc:(Nat.beq s.n n&&(T7 (T3 l) l 0&&l.zipIdx.all (ZbS l n))) with
 |false=>rw [hc] at he;cases he
 | true=>
   rw [hc] at he
   simp only [Bool.not_true,cond_false] at he
   rw [Bool.and_eq_true,ZI] at hc
   obtain⟨hsn,hc⟩:=hc
   subst hsn
   rw [Bool.and_eq_true] at hc
   split at he
   · rename_i R x hst
     split at he
     · rename_i t qs
       injection he with he;subst he
       have hG:Good ⟨l,T3 l,s.get,s.x.c⟩ s.n:=⟨hc.1,fun i o d ho hd=>by
         have h1:=List.all_eq_true.1 hc.2 (o,i) (Xi.2 ho)
         unfold ZbS at h1
         rw [hd] at h1
         dsimp only at h1
         rw [Bool.and_eq_true] at h1
         obtain⟨h2,h3⟩:=h1
         split at h2
         · rename_i j hj
           rw [ZI] at h2;subst h2
           exact⟨hj,by simpa [Nat.blt_eq] using h3⟩
         · cases h2⟩
       refine wpIn_region_any hm ?_
       have xa:(Array.replicate l.toArray.size false).size=l.length:=by simp
       have hun:∀i,i<l.length->(Array.replicate l.toArray.size false).getD i true=false:=fun i hi=>by simp [Array.getD,hi]
       have aV:∀k,s.x.c<=k->β k=none:=fun k hk=>by
         cases hq:β k with
         |none=>rfl
         |some p=>obtain⟨b,c⟩:=p;have:=(hF.hr.lt hq).1;omega
       have gI:Inv ⟨l,T3 l,s.get,s.x.c⟩ s.n s.ds (l.zipIdx.filter fun p=>Wb p.1) [] (T.mk 3) ⟨s.x.h,s.x.c+l.length⟩ w0 β (Array.replicate l.toArray.size false) β a {w with drawn:=w.drawn+1}:=
         ⟨Closed.start,(hF.hr.drew).bump Oa,fun i hi _=>aV _ (by show s.x.c<=s.x.c+i;omega),Nat.le_refl _,NX.refl _ _,fun e he=>hun _ (List.getElem?_eq_some_iff.1 (Xi.1 (List.mem_filter.1 he).1)).1,fun e he=>(by cases he),
           fun t v _ hg=>hF.ta t v hg,fun j o d v _ hl=>(by
             rw [getD_replicate_false] at hl;cases hl),hF.sz,hF.ds⟩
       have yz:∀m,m<=l.length->left m (Array.replicate l.toArray.size false)=m:=by
         intro m
         induction m with
         |zero=>intro _;simp [left]
         | succ m ih=>
           intro hm
           have ih:=ih Oa
           unfold left at*
           rw [List.range_succ,List.filter_append,List.length_append,ih]
           have:=hun m Oa
           simp only [List.filter,this];rfl
       have:=Zkp (Q:=Q) (r:=rr) hK hG (ne:=l.zipIdx.filter fun p=> !(Wb p.1)) ⟨fun i o ho hk=>List.mem_filter.2 ⟨Xi.2 ho,by simp [hk]⟩,fun p hp=>⟨Xi.1 (List.mem_filter.1 hp).1,by have:=(List.mem_filter.1 hp).2;simpa using this⟩⟩
         (Rf :=R) (xf:=x) (w0:=w0) (β0:=β) (marks:=s.ds) (fun done listed β' a' w' h hl=>by
           refine hx β' a' w' ⟨fun q v hq=> ?_,h.sz,h.ds,h.hr⟩ h.nx (Nat.le_trans (Nat.le_add_right _ _) h.c)
           rcases Zab qs s.t q v hq with⟨p,hp,h1,h2⟩|⟨h1,h2⟩
           · have hp':=Xi.1 hp
             exact h.got p.2 p.1 q v hp' (hl _ (List.getElem?_eq_some_iff.1 hp').1) h1 h2
           · refine h.old q v (fun j hd=> ?_) h2
             obtain⟨_,o,h3,h4⟩:=Va hd
             exact absurd h4 (h1 (o,j) (Xi.2 (by simpa using h3)))) _ _ _ _ _ hst ⟨fun i o ho hk=> .inl (List.mem_filter.2 ⟨Xi.2 ho,by simp [hk]⟩),fun p hp=>⟨Xi.1 (List.mem_filter.1 hp).1,by have:=(List.mem_filter.1 hp).2;simpa using this⟩⟩ l.length _ β a _ gI
           (fun p hp _=>hun _ (List.getElem?_eq_some_iff.1 (Xi.1 (List.mem_filter.1 hp).1)).1) (yz _ (Nat.le_refl _))
       simpa using this
     · cases he
   · cases he
theorem ZbP {n:Nat} (he:evD K P n ops s=some s'):s'.t=s.t/\s'.n=s.n/\∀q,look s'.b q≠none->look s.b q≠none\/∃o∈ops.toList,o.dst=some q:=by
 rw [Zgs] at he
 unfold Zlj at he
 dsimp only at he
 cases hc:(Nat.beq s.n n&&(T7 (T3 ops.toList) ops.toList 0&&ops.toList.zipIdx.all (ZbS ops.toList n))) with
 |false=>rw [hc] at he;cases he
 | true=>
   rw [hc] at he
   simp only [Bool.not_true,cond_false] at he
   split at he
   · split at he
     · rename_i b qs
       injection he with he;subst he
       refine⟨rfl,rfl,fun q hq=> ?_⟩
       rcases TD qs q hq with h1|⟨p,hp,h1⟩
       · exact .inl h1
       · exact .inr ⟨p.1,(List.getElem?_eq_some_iff.1 (Xi.1 hp)).2▸List.getElem_mem _,h1⟩
     · cases he
   · cases he
theorem Za9{d:Option Nat}{v:V}{x:X}(hp:s.put d v x=some s'):s'.t=s.t/\s'.n=s.n/\∀q,look s'.b q≠none->look s.b q≠none\/d=some q:=by
 rw [S.put_eq] at hp
 cases d with
 |none=>injection hp with hp;subst hp;exact⟨rfl,rfl,fun q h=> .inl h⟩
 | some d=>
   dsimp only at hp
   cases hd:Nat.blt d s.n with
   |false=>rw [hd] at hp;cases hp
   | true=>
     rw [hd] at hp;injection hp with hp;subst hp
     refine⟨rfl,rfl,fun q h=> ?_⟩
     rcases RJ h with e|h
     · exact .inr (by rw [e])
     · exact .inl h
theorem ZfC{o:Oper}(he:opS K P ops s o=some s'):s'.t=s.t/\s'.n=s.n/\∀q,look s'.b q≠none->look s.b q≠none\/o.dst=some q:=by
 rw [ZfD] at he
 unfold Zio at he
 split at he
 · cases he
 · exact Za9 he
 · split at he<;>split at he<;>first|exact Za9 he|cases he
theorem Ug:∀{l:List Oper} {s s':S},TZ K P ops l s=some s'->s'.t=s.t/\s'.n=s.n/\∀q,look s'.b q≠none->look s.b q≠none\/∃o∈l,o.dst=some q
 | [],s,s',he=>by rw [Zbk] at he;injection he with he;subst he;exact⟨rfl,rfl,fun q h=> .inl h⟩
 | o ::l,s,s',he=>by
   rw [Rz] at he
   split at he
   · rename_i s1 h1
     obtain⟨a1,a2,a3⟩:=ZfC h1
     obtain⟨b1,b2,b3⟩:=Ug he
     refine⟨b1.trans a1,b2.trans a2,fun q hq=> ?_⟩
     rcases b3 q hq with h|⟨o',ho',h⟩
     · rcases a3 q h with h|h
       · exact .inl h
       · exact .inr ⟨o,by simp,h⟩
     · exact .inr ⟨o',by simp [ho'],h⟩
   · cases he
end
noncomputable def ZiC(ops:Array Oper)(g:Nat):List Nat:=ops.toList.filterMap fun o=>match o.dst with
  |some d=>bif Nat.testBit g d then some d else none
  |none=>none
noncomputable def Ws(ks:List Nat)(b:List (Nat×V))(t:T V):T V:=List.rec t (fun k _ ih=>Option.rec ih (fun v=>T.set ih k v) (look b k)) ks
noncomputable def S.flush(s:S)(g:Nat)(ops:Array Oper):S:=S.rec (motive:=fun _=>S) (fun t b n ds x=>⟨Ws (ZiC ops g) b t, [],n,ds,x⟩) s
theorem Vu {b:List (Nat×V)} {t:T V}:∀{ks:List Nat} {i:Nat} {v:V},(Ws ks b t).get i=some v->(i∈ks/\look b i=some v)\/((i∈ks->look b i=none)/\t.get i=some v)
 | [],i,v,h=> .inr ⟨fun h=>(by cases h),h⟩
 | k ::ks,i,v,h=>by
   have e:Ws (k::ks) b t=match look b k with
     |none=>Ws ks b t
     |some v=>T.set (Ws ks b t) k v:=by
     show(Option.rec (Ws ks b t) (fun v=>T.set (Ws ks b t) k v) (look b k):T V)=_
     cases look b k<;>rfl
   rw [e] at h
   have next:(Ws ks b t).get i=some v->(k=i->look b i=none)->(i∈k::ks/\look b i=some v)\/((i∈k::ks->look b i=none)/\t.get i=some v):=fun h hk=>by
     rcases Vu h with⟨h1,h2⟩|⟨h1,h2⟩
     · exact .inl ⟨by simp [h1],h2⟩
     · refine .inr ⟨fun hm=> ?_,h2⟩
       rcases List.mem_cons.1 hm with e|hm
       · exact hk e.symm
       · exact h1 hm
   cases hl:look b k with
   |none=>rw [hl] at h;exact next h (fun e=>by rw [<-e];exact hl)
   | some u=>
     rw [hl] at h
     dsimp only at h
     rw [T.get_set] at h
     by_cases e:k=i
     · subst e
       rw [if_pos rfl] at h
       exact .inl ⟨by simp,by rw [hl];exact h⟩
     · rw [if_neg e] at h
       exact next h (fun e'=>absurd e' e)
theorem ZfK{ops:Array Oper}{g i:Nat}:i∈ZiC ops g↔Nat.testBit g i=true/\∃o∈ops.toList,o.dst=some i:=by
 unfold ZiC
 rw [List.mem_filterMap]
 constructor
 · rintro⟨o,ho,h⟩
   split at h
   · rename_i d hd
     cases hb:Nat.testBit g d with
     |false=>rw [hb] at h;cases h
     |true=>rw [hb] at h;injection h with h;subst h;exact⟨hb,o,ho,hd⟩
   · cases h
 · rintro⟨hb,o,ho,h⟩
   exact⟨o,ho,by rw [h];simp [hb]⟩
def Cl(g:Nat)(s:S):Prop:=s.b= []/\Gi g s.t
theorem RU {s:S} {g:Nat} {ops:Array Oper} (hg:Gi g s.t) (hk:∀q,look s.b q≠none->∃o∈ops.toList,o.dst=some q):(∀i v,(s.flush g ops).get i=some v->s.get i=some v)/\Cl g (s.flush g ops):=by
 refine⟨fun i v h=> ?_,rfl,fun i v h=> ?_⟩
 · have h':(Ws (ZiC ops g) s.b s.t).get i=some v:=h
   show Xd s.t s.b i=some v
   rcases Vu h' with⟨_,h2⟩|⟨h1,h2⟩
   · unfold Xd;rw [h2]
   · have:look s.b i=none:=by
       cases hl:look s.b i with
       |none=>rfl
       | some u=>
         rw [<-hl]
         exact h1 (ZfK.2 ⟨hg i v h2,hk i (by rw [hl];simp)⟩)
     unfold Xd;rw [this];exact h2
 · rcases Vu h with⟨h1,_⟩|⟨_,h2⟩
   · exact(ZfK.1 h1).1
   · exact hg i v h2
inductive Ex where
  |nm
  |ex (id:Nat)
  |rt
noncomputable def Ex.to:Ex->Exit
  | .nm=> .normal
  | .ex id=> .exit id
  | .rt=> .ret
noncomputable def Zex(f:S->Option (Ex×S))(n:Nat)(s:S):Option (Ex×S):=Nat.rec (motive:=fun _=>S->Option (Ex×S)) (fun _=>none) (fun _ ih s=>match f s with
  |some (.nm,s')=>ih s'
  |r=>r) n s
theorem RM(f:S->Option (Ex×S))(n:Nat)(s:S):Zex f (n+1) s=match f s with
 |some (.nm,s')=>Zex f n s'
 |r=>r:=rfl
noncomputable def evR (K:Kit) (P:Program) (g:Nat) (r:Option Nat) (f:Operand) (ps:Array Tmp) (asg body:Code) (s:S):Option (Ex×S):=match rho s.get f with
    | some (.fn gf cap)=>bif !(Zc P gf) then none else
      match (match r with
        |none=>some (s.x.c,(⟨s.x.h,s.x.c+2⟩:X).set s.x.c (.dfr false),s.x.c::s.ds)
        | some l=>match s.x.get l with
          |some (.loop _ _ _ _ _ _ _ _ d)=>some (d,(⟨s.x.h,s.x.c+2⟩:X),s.ds)
          |_=>none) with
      | some (d,x1,ds)=>match K.call gf (.yl (s.x.c+1)::cap) (x1.set (s.x.c+1) (.loop .ready none g s.t s.n ps.toList asg body d)) with
        | some (_,x3)=>match x3.get (s.x.c+1) with
          | some (.loop st pd g' t n ps' asg' body' d')=>match st with
            | .busy=>none
            | _=>match pd with
              |none=>some (.nm,⟨s.t, [],s.n,ds,x3.set (s.x.c+1) (.loop .exhausted pd g' t n ps' asg' body' d')⟩)
              |some .ret=>some (.rt,⟨s.t, [],s.n,ds,x3.set (s.x.c+1) (.loop .exhausted pd g' t n ps' asg' body' d')⟩)
              |some (.exit id)=>some (.ex id,⟨s.t, [],s.n,ds,x3.set (s.x.c+1) (.loop .exhausted pd g' t n ps' asg' body' d')⟩)
              |_=>none
          |_=>none
        |none=>none
      |none=>none
    |_=>none
noncomputable def Zgr(K:Kit)(P:Program)(g nn:Nat)(ops:Array Oper)(d:Bool)(s:S):Option (Ex×S):=Option.rec none (fun s'=>some (.nm,s'.flush g ops)) (Bool.rec (TZ K P ops ops.toList s) (evD K P nn ops s) d)
noncomputable def Zo2(f:S->Option (Ex×S))(o:Option (Ex×S)):Option (Ex×S):=match o with
  |some (.nm,s')=>f s'
  |o=>o
noncomputable def Zn7(x y:S->Option (Ex×S))(s:S)(v:Option V):Option (Ex×S):=match v with
  |some (.bool true)=>x s
  |some (.bool false)=>y s
  |_=>none
noncomputable def Zpk(id:Nat)(o:Option (Ex×S)):Option (Ex×S):=match o with
  |some (.ex j,s')=>if j=id then some (.nm,s') else some (.ex j,s')
  |o=>o
noncomputable def evC(K:Kit)(P:Program)(g nn:Nat)(r:Option Nat)(c:Code):S->Option (Ex×S):=Code.rec (motive:=fun _=>S->Option (Ex×S))
  (fun s=>some (.nm,s)) (fun _ ops d s=>Zgr K P g nn ops d s) (fun _ _ x y s=>Zo2 y (x s)) (fun c _ _ x y s=>Zn7 x y s (rho s.get c)) (fun id _ x s=>Zpk id (x s)) (fun _ x s=>Zex x K.fuel s)
  (fun f ps asg body _ _ s=>evR K P g r f ps asg body s) (fun id s=>some (.ex id,s)) (fun _ x s=>x s) (fun _ s=>some (.nm,s)) (fun _ _=>none) (fun s=>some (.rt,s)) (fun _ _=>none) c
theorem evC_eq(K:Kit)(P:Program)(g nn:Nat)(r:Option Nat)(c:Code)(s:S):evC K P g nn r c s=match c with
 | .skip=>some (.nm,s)
 | .region _ ops d=>match (bif d then evD K P nn ops s else TZ K P ops ops.toList s) with
   |some s'=>some (.nm,s'.flush g ops)
   |none=>none
 | .seq a b=>match evC K P g nn r a s with
   |some (.nm,s')=>evC K P g nn r b s'
   |o=>o
 | .cond c a b=>match rho s.get c with
   |some (.bool true)=>evC K P g nn r a s
   |some (.bool false)=>evC K P g nn r b s
   |_=>none
 | .block id b=>match evC K P g nn r b s with
   |some (.ex j,s')=>if j=id then some (.nm,s') else some (.ex j,s')
   |o=>o
 | .loop b=>Zex (evC K P g nn r b) K.fuel s
 | .exit id=>some (.ex id,s)
 | .ret=>some (.rt,s)
 | .scope b=>evC K P g nn r b s
 | .label _=>some (.nm,s)
 | .rangeFunc f ps asg body=>evR K P g r f ps asg body s
 |_=>none:=by
 cases c<;>try rfl
 case region id ops d=>
   show Zgr K P g nn ops d s=_
   unfold Zgr
   cases d
   · show(Option.rec none (fun s'=>some (Ex.nm,s'.flush g ops)) (TZ K P ops ops.toList s):Option (Ex×S))=_
     dsimp only [cond_false]
     cases TZ K P ops ops.toList s<;>rfl
   · show(Option.rec none (fun s'=>some (Ex.nm,s'.flush g ops)) (evD K P nn ops s):Option (Ex×S))=_
     dsimp only [cond_true]
     cases evD K P nn ops s<;>rfl
section
variable {P:Program} {K:Kit} {β:Env} {w:World} {w0:Base} {rr r:Option Nat} {a:Act} {s s':S}
noncomputable def RO(β:Env)(r rr:Option Nat):Prop:=(r=none/\rr=none)\/∃l b c,r=some l/\rr=some b/\β l=some (b,c)
theorem RO.mono{β β':Env}(h:RO β r rr)(e:Ext β β'):RO β' r rr:=by
 rcases h with h|⟨l,b,c,h1,h2,h3⟩
 · exact .inl h
 · exact .inr ⟨l,b,c,h1,h2,e _ _ h3⟩
theorem iter_inv{f:S->Option (Ex×S)}{I:S->Prop}(h:∀s e s',f s=some (e,s')->I s->I s'):∀n s e s',Zex f n s=some (e,s')->I s->I s'
 |0,s,e,s',hi,_=>by cases hi
 | n +1,s,e,s',hi,hs=>by
   rw [RM] at hi
   split at hi
   · rename_i s1 h1
     exact iter_inv h n s1 e s' hi (h _ _ _ h1 hs)
   · exact h _ _ _ hi hs
theorem YH{P:Program}{b:Frame}{a:Act}{k:List Item}{cs:List Frame}{w:World}{c:Code}:step P (lone (b.atR a (.code (.scope c)::k)) cs w)= .next (lone (b.atR a (.code c:: .inScope c::k)) cs w):=
 step_lone_go (by simp [stepG,stepG.exec,Frame.atR])
theorem TV{P:Program}{b:Frame}{a:Act}{k:List Item}{cs:List Frame}{w:World}{c:Code}:step P (lone (b.atR a (.inScope c::k)) cs w)= .next (lone (b.atR a k) cs w):=
 step_lone_go (by simp [stepG,stepG.exec,Frame.atR])
noncomputable def Zo5(Q:Exit->Act->World->Prop):Exit->Act->World->Prop:=fun e a w=>match e with
  | .goto _=>False
  |e=>Q e a w
theorem wpIn_scope{F:Fence}{n:Nat}{P:Program}{Q:Exit->Act->World->Prop}{a:Act}{w:World}{c:Code}(h:c.wpIn F n P (Zo5 Q) a w):(Code.scope c).wpIn F n P Q a w:=by
 intro b k cs hro hb hr
 have h0:(lone (b.atR a (.code (.scope c)::k)) cs w).fenced P F:=fenced_calm hb hr rfl
 obtain⟨e,a₁,w₁,hq,qF⟩:=h b (.inScope c::k) cs hro hb hr
 cases e with
 |normal=>exact⟨.normal,a₁,w₁,hq,.head h0 YH (StepsIn.trans qF (.one (fenced_calm hb hr rfl) TV))⟩
 | exit id=>
   have hx:exitTo id (.inScope c::k)=exitTo id k:=by simp [exitTo]
   exact⟨_,a₁,w₁,hq,fun k' hk=> .head h0 YH (qF.1 k' (by rw [hx];exact hk)),
     fun hr' hk=>let ⟨k₁,h1,h2⟩:=qF.2 hr' (by rw [hx];exact hk);⟨k₁,h1,.head h0 YH h2⟩⟩
 |goto l=>exact hq.elim
 |ret=>exact⟨_,a₁,w₁,hq,.of_steps (.one h0 YH) qF⟩
 |panic ch=>exact⟨_,a₁,w₁,hq,.of_steps (.one h0 YH) qF⟩
 |outgrown=>exact⟨_,a₁,w₁,hq,.of_steps (.one h0 YH) qF⟩
theorem Zai {g nn:Nat}:∀(c:Code) {s:S} {e:Ex} {s':S},evC K P g nn r c s=some (e,s')->Cl g s->Cl g s'/\s'.n=s.n:=by
 intro c
 induction c with
 |skip=>intro s e s' he hs;rw [evC_eq] at he;dsimp only at he;injection he with he;injection he with e1 e2;subst e2;exact⟨hs,rfl⟩
 |exit id=>intro s e s' he hs;rw [evC_eq] at he;dsimp only at he;injection he with he;injection he with e1 e2;subst e2;exact⟨hs,rfl⟩
 |ret=>intro s e s' he hs;rw [evC_eq] at he;dsimp only at he;injection he with he;injection he with e1 e2;subst e2;exact⟨hs,rfl⟩
 |label l=>intro s e s' he hs;rw [evC_eq] at he;dsimp only at he;injection he with he;injection he with e1 e2;subst e2;exact⟨hs,rfl⟩
 |scope x ih=>intro s e s' he hs;rw [evC_eq] at he;dsimp only at he;exact ih he hs
 | region id ops d=>
   intro s e s' he hs
   rw [evC_eq] at he
   dsimp only at he
   split at he
   · rename_i s1 h1
     injection he with he;injection he with e1 e2;subst e2
     have hk:s1.t=s.t/\s1.n=s.n/\∀q,look s1.b q≠none->look s.b q≠none\/∃o∈ops.toList,o.dst=some q:=by
       cases d with
       |true=>exact ZbP h1
       |false=>exact Ug h1
     refine⟨(RU (by rw [hk.1];exact hs.2) fun q hq=> ?_).2,hk.2.1⟩
     rcases hk.2.2 q hq with h|h
     · rw [hs.1] at h;exact absurd rfl h
     · exact h
   · cases he
 | seq x y ihx ihy=>
   intro s e s' he hs
   rw [evC_eq] at he
   dsimp only at he
   split at he
   · rename_i s1 h1
     obtain⟨a1,a2⟩:=ihx h1 hs
     obtain⟨b1,b2⟩:=ihy he a1
     exact⟨b1,b2.trans a2⟩
   · exact ihx he hs
 | cond c x y ihx ihy=>
   intro s e s' he hs
   rw [evC_eq] at he
   dsimp only at he
   split at he
   · exact ihx he hs
   · exact ihy he hs
   · cases he
 | block id x ih=>
   intro s e s' he hs
   rw [evC_eq] at he
   dsimp only at he
   split at he
   · rename_i j s1 h1
     split at he
     · injection he with he;injection he with e1 e2;subst e2;exact ih h1 hs
     · injection he with he;injection he with e1 e2;subst e2;exact ih h1 hs
   · exact ih he hs
 | loop x ih=>
   intro s e s' he hs
   rw [evC_eq] at he
   dsimp only at he
   exact iter_inv (I:=fun s1=>Cl g s1/\s1.n=s.n) (fun s1 e1 s2 h1 h2=>by
     obtain⟨a1,a2⟩:=ih h1 h2.1
     exact⟨a1,a2.trans h2.2⟩) _ _ _ _ he ⟨hs,rfl⟩
 | rangeFunc f ps asg body _ _=>
   intro s e s' he hs
   rw [evC_eq] at he
   dsimp only at he
   unfold evR at he
   have key:∀{x:X} {ds:List Nat},Cl g ⟨s.t, [],s.n,ds,x⟩:=fun {x ds}=>⟨rfl,hs.2⟩
   split at he
   · rename_i gf cap hgf
     cases ht:Zc P gf with
     |false=>rw [ht] at he;cases he
     | true=>
       rw [ht] at he
       simp only [Bool.not_true,cond_false] at he
       split at he
       · split at he
         · split at he
           · split at he
             · cases he
             · split at he<;>first|(injection he with he;injection he with e1 e2;subst e2;exact⟨key,rfl⟩)|cases he
           · cases he
         · cases he
       · cases he
   · cases he
 |_=>intro s e s' he;rw [evC_eq] at he;cases he
theorem evC_ok (hK:KOk P K) (hm:P.follows .mixedOrders=true) {g nn:Nat}:∀(c:Code) {s:S} {e:Ex} {s':S},evC K P g nn r c s=some (e,s')->Cl g s->∀{β:Env} {a:Act} {w:World},FR w0 β s a w->RO β r rr->
   ∀{Q:Exit->Act->World->Prop},(∀β' a' w',FR w0 β' s' a' w'->NX s.x.c β β'->s.x.c<=s'.x.c->Q e.to a' w')->c.wpIn (FZ rr) 0 P Q a w:=by
 intro c
 induction c with
 | skip=>
   intro s e s' he hs β a w hF hr Q hx
   rw [evC_eq] at he;dsimp only at he;injection he with he;injection he with e1 e2;subst e1;subst e2
   exact wpIn_skip (hx β a w hF (NX.refl _ _) (Nat.le_refl _))
 | exit id=>
   intro s e s' he hs β a w hF hr Q hx
   rw [evC_eq] at he;dsimp only at he;injection he with he;injection he with e1 e2;subst e1;subst e2
   exact wpIn_exit (hx β a w hF (NX.refl _ _) (Nat.le_refl _))
 | ret=>
   intro s e s' he hs β a w hF hr Q hx
   rw [evC_eq] at he;dsimp only at he;injection he with he;injection he with e1 e2;subst e1;subst e2
   exact wpIn_ret (hx β a w hF (NX.refl _ _) (Nat.le_refl _))
 | label l=>
   intro s e s' he hs β a w hF hr Q hx
   rw [evC_eq] at he;dsimp only at he;injection he with he;injection he with e1 e2;subst e1;subst e2
   exact wpIn_label (hx β a w hF (NX.refl _ _) (Nat.le_refl _))
 | scope x ih=>
   intro s e s' he hs β a w hF hr Q hx
   rw [evC_eq] at he;dsimp only at he
   exact wpIn_scope (ih he hs hF hr fun β1 a1 w1 hF1 hn1 hc1=>by
     have:=hx β1 a1 w1 hF1 hn1 hc1
     cases e<;>exact this)
 | region id ops d=>
   intro s e s' he hs β a w hF hr Q hx
   rw [evC_eq] at he
   dsimp only at he
   split at he
   · rename_i s1 h1
     injection he with he;injection he with e1 e2;subst e1;subst e2
     have hk:s1.t=s.t/\s1.n=s.n/\∀q,look s1.b q≠none->look s.b q≠none\/∃o∈ops.toList,o.dst=some q:=by
       cases d with
       |true=>exact ZbP h1
       |false=>exact Ug h1
     have hfl:=(RU (s:=s1) (g:=g) (ops:=ops) (by rw [hk.1];exact hs.2) fun q hq=>(by
       rcases hk.2.2 q hq with h|h
       · rw [hs.1] at h;exact absurd rfl h
       · exact h)).1
     have hx':∀β' a' w',FR w0 β' s1 a' w'->NX s.x.c β β'->s.x.c<=s1.x.c->Q .normal a' w':=fun β' a' w' hF' hn' hc'=>hx β' a' w' ⟨hF'.ta.sub hfl,hF'.sz,hF'.ds,hF'.hr⟩ hn' hc'
     cases d with
     |true=>exact Zli hK hm hF h1 hx'
     |false=>exact wpIn_region_list (Zdl hK ops.toList hF h1 hx')
   · cases he
 | seq x y ihx ihy=>
   intro s e s' he hs β a w hF hr Q hx
   rw [evC_eq] at he
   dsimp only at he
   refine wpIn_seq ?_
   split at he
   · rename_i s1 h1
     refine ihx h1 hs hF hr fun β1 a1 w1 hF1 hn1 hc1=> ?_
     exact ihy he (Zai x h1 hs).1 hF1 (hr.mono (hF.hr.ext hn1)) fun β2 a2 w2 hF2 hn2 hc2=>hx β2 a2 w2 hF2 (hn1.trans hn2 hc1) (Nat.le_trans hc1 hc2)
   · rename_i hne
     refine ihx he hs hF hr fun β1 a1 w1 hF1 hn1 hc1=> ?_
     have:=hx β1 a1 w1 hF1 hn1 hc1
     cases e with
     |nm=>exact absurd he (hne s')
     |ex id=>exact this
     |rt=>exact this
 | cond c x y ihx ihy=>
   intro s e s' he hs β a w hF hr Q hx
   rw [evC_eq] at he
   dsimp only at he
   have hρ:=KD hF.ta
   split at he
   · rename_i hc
     have hv:=hρ _ _ hc
     generalize hu:a.eval c=u at hv
     cases hv
     exact wpIn_cond_true hu (ihx he hs hF hr hx)
   · rename_i hc
     have hv:=hρ _ _ hc
     generalize hu:a.eval c=u at hv
     cases hv
     exact wpIn_cond_false hu (ihy he hs hF hr hx)
   · cases he
 | block id x ih=>
   intro s e s' he hs β a w hF hr Q hx
   rw [evC_eq] at he
   dsimp only at he
   refine wpIn_block ?_
   split at he
   · rename_i j s1 h1
     refine ih h1 hs hF hr fun β1 a1 w1 hF1 hn1 hc1=> ?_
     split at he
     · rename_i hj
       injection he with he;injection he with e1 e2;subst e1;subst e2
       have:=hx β1 a1 w1 hF1 hn1 hc1
       simpa [Exit.inBlock,Ex.to,hj] using this
     · rename_i hj
       injection he with he;injection he with e1 e2;subst e1;subst e2
       have:=hx β1 a1 w1 hF1 hn1 hc1
       simpa [Exit.inBlock,Ex.to,hj] using this
   · rename_i hne
     refine ih he hs hF hr fun β1 a1 w1 hF1 hn1 hc1=> ?_
     have:=hx β1 a1 w1 hF1 hn1 hc1
     cases e with
     |nm=>exact this
     |ex id=>exact absurd he (hne id s')
     |rt=>exact this
 | loop x ih=>
   intro s e s' he hs β a w hF hr Q hx
   rw [evC_eq] at he
   dsimp only at he
   refine wpIn_loopJ (fun m a w=>∃β1 s1,FR w0 β1 s1 a w/\NX s.x.c β β1/\s.x.c<=s1.x.c/\Cl g s1/\Zex (evC K P g nn r x) m s1=some (e,s')) ⟨β,s,hF,NX.refl _ _,Nat.le_refl _,hs,he⟩ ?_
   intro m a1 w1 ⟨β1,s1,hF1,hn1,hc1,hs1,hit⟩
   cases m with
   |zero=>cases hit
   | succ m=>
     rw [RM] at hit
     have hr1:=hr.mono (hF.hr.ext hn1)
     split at hit
     · rename_i s2 h2
       refine ih h2 hs1 hF1 hr1 fun β2 a2 w2 hF2 hn2 hc2=>⟨m,Nat.lt_succ_self _,β2,s2,hF2,hn1.trans hn2 hc1,Nat.le_trans hc1 hc2,(Zai x h2 hs1).1,hit⟩
     · rename_i hne
       refine ih hit hs1 hF1 hr1 fun β2 a2 w2 hF2 hn2 hc2=> ?_
       have:=hx β2 a2 w2 hF2 (hn1.trans hn2 hc1) (Nat.le_trans hc1 hc2)
       cases e with
       |nm=>exact absurd hit (hne s')
       |ex id=>exact this
       |rt=>exact this
 | rangeFunc f ps asg body _ _=>
   intro s e s' he hs β a w hF hr Q hx
   rw [evC_eq] at he
   dsimp only at he
   unfold evR at he
   have hρ:=KD hF.ta
   split at he
   case h_2=>cases he
   rename_i gf cap hg
   cases ht:Zc P gf with
   |false=>rw [ht] at he;cases he
   |true=>
   rw [ht] at he
   simp only [Bool.not_true,cond_false] at he
   have hv:=hρ _ _ hg
   generalize hu:a.eval f=u at hv
   cases hv with
   | @fn _ _ vs yP=>
   have hta:TA β s.t.get a.tmps:=hF.ta.sub fun i v h=>(by show Xd s.t s.b i=some v;rw [hs.1];exact h)
   have qP:∀(lw:Nat) (w1:World),(resolve a.eval (rangeCall f lw) 0).run P w1= .ok {target:= .fn (.func gf) vs.toArray,args:= #[.func (.yield lw) #[] #[]]} w1/\
       (invoke (.fn (.func gf) vs.toArray) #[.func (.yield lw) #[] #[]]).run P w1= .ok (.enter gf (Value.func (.yield lw) #[] #[]::vs).toArray) w1:=fun lw w1=>by
     have hev:a.eval (.const (.func (.yield lw) #[] #[]))= .func (.yield lw) #[] #[]:=rfl
     refine⟨by simp [resolve,hu,Deferred.ofValue,hev],?_⟩
     unfold Zc at ht
     cases hfn:P.funcs[gf]? with
     |none=>simp [hfn] at ht
     | some fn=>
       simp only [hfn,Bool.and_eq_true,Bool.not_eq_true'] at ht
       obtain⟨hb,hnm⟩:=ht
       have hb':fn.body≠none:=by intro e;rw [e] at hb;simp at hb
       have hn':fn.name≠ "runtime.NumGoroutine" :=by simpa using hnm
       simp [invoke,callFunc,hfn,hn',hb']
   have key : ∀(dn:Nat) (x1:X) (ds:List Nat) (β2:Env) (w1:World) (lw:Nat) (mark:List Deferred),HR w0 β2 (x1.set (s.x.c+1) (.loop .ready none g s.t s.n ps.toList asg body dn)) w1->β2 (s.x.c+1)=some (lw,0)->NX s.x.c β β2->x1.c=s.x.c+2->DR β2 ds (mark++a.defers)->
       (match K.call gf (.yl (s.x.c+1)::cap) (x1.set (s.x.c+1) (.loop .ready none g s.t s.n ps.toList asg body dn)) with
       | some (_,x3)=>match x3.get (s.x.c+1) with
         | some (.loop st pd g' t n ps' asg' body' d')=>match st with
           | .busy=>none
           | _=>match pd with
             |none=>some (.nm,⟨s.t, [],s.n,ds,x3.set (s.x.c+1) (.loop .exhausted pd g' t n ps' asg' body' d')⟩)
             |some .ret=>some (.rt,⟨s.t, [],s.n,ds,x3.set (s.x.c+1) (.loop .exhausted pd g' t n ps' asg' body' d')⟩)
             |some (.exit id)=>some (.ex id,⟨s.t, [],s.n,ds,x3.set (s.x.c+1) (.loop .exhausted pd g' t n ps' asg' body' d')⟩)
             |_=>none
         |_=>none
       |none=>none)=some (e,s')->
       CallsIn (FZ rr) (0-1) P gf (Value.func (.yield lw) #[] #[]::vs).toArray w1 (rangePost (FZ rr) 0 P lw Q {a with defers:=mark++a.defers}):=by
     intro dn x1 ds β2 w1 lw mark h2 hl hnx hc2 hds he
     split at he
     · rename_i v3 x3 hk
       have ba:=hF.hr.ext hnx
       refine Wh ((hK.call hk h2 (.cons (.yl hl) (yP.mono ba))).mono fun e3 w3 hE=> ?_)
       obtain⟨u3,β3,rfl,_,h3,hc3,hn3⟩:=hE
       have kQ:s.x.c+2<=x3.c:=by have:x1.c<=x3.c:=hc3;omega
       have cZ:NX (s.x.c+2) β2 β3:=fun k hk=>hn3 k (by show k<x1.c;omega)
       have hl3:β3 (s.x.c+1)=some (lw,0):=by rw [cZ _ Oa];exact hl
       have bx:NX s.x.c β β3:=hnx.trans cZ Oa
       have ff:=hF.hr.ext bx
       have gS:DR β3 ds (mark++a.defers):=hds.mono fun k p hk=>by
         obtain⟨b,c⟩:=p
         have:=(h2.lt hk).1
         have h5:(x1.set (s.x.c+1) (.loop .ready none g s.t s.n ps.toList asg body dn)).c=s.x.c+2:=hc2
         rw [cZ k Oa];exact hk
       split at he
       · rename_i st pd g' t n ps' asg' body' d' yn
         obtain⟨hb0,ob,h4,fn',tm,db,dx,h5,h6,h7,h8,h9⟩:=h3.obj hl3 yn
         subst h5
         have hFR:FR w0 β3 ⟨s.t, [],s.n,ds,x3.set (s.x.c+1) (.loop .exhausted pd g' t n ps' asg' body' d')⟩ {a with defers:=mark++a.defers} (w3.putObj lw (.loop {state:= .exhausted,pending:=pd,fn:=fn',tmps:=tm,params:=ps'.toArray,assign:=asg',body:=body',defers:=db})):=
           ⟨(hta.mono ff).sub (fun _ _ h=>h),hF.sz,gS,h3.turn hl3 yn (YP _ _ _) (X4 h4) ⟨fn',tm,db,dx,rfl,h6,h7,h8,h9⟩⟩
         have hnb:st≠ .busy:=fun e=>by subst e;cases he
         refine⟨pd,_,run_endLoop h4 hnb,?_⟩
         have hle:s.x.c<=x3.c:=Oa
         cases st<;>first
         |exact absurd rfl hnb
         | (dsimp only at he
            split at he
            · injection he with he;injection he with e1 e2;subst e1;subst e2
              exact hx β3 _ _ hFR bx hle
            · injection he with he;injection he with e1 e2;subst e1;subst e2
              exact wpIn_ret (hx β3 _ _ hFR bx hle)
            · injection he with he;injection he with e1 e2;subst e1;subst e2
              exact wpIn_exit (hx β3 _ _ hFR bx hle)
            · cases he)
       · cases he
     · cases he
   have aV:∀k,s.x.c<=k->β k=none:=fun k hk=>by
     cases hq:β k with
     |none=>rfl
     |some p=>obtain⟨b,c⟩:=p;have:=(hF.hr.lt hq).1;omega
   have hb2:HR w0 β ⟨s.x.h,s.x.c+2⟩ w:=hF.hr.bump Oa
   refine wpIn_rangeFunc fun fn _=> ?_
   rcases hr with⟨rfl,rfl⟩|⟨l,b,c,rfl,rfl,hl⟩
   · dsimp only at he
     have hn1:=aV s.x.c (Nat.le_refl _)
     have h1:=(hb2.pre hn1 (.dfr false)).alloc (ob:= .dfr false) (rb:= .deferred (some [])) (c:=0) hn1 (by show s.x.c<s.x.c+2;omega) (by rw [X.get_set];simp) rfl
     have hn2:up β s.x.c (w.heap.size,0) (s.x.c+1)=none:=by rw [Y2 Oa];exact aV _ Oa
     have hx1:=Wi (p:=(w.heap.size,0)) hn1
     have hx2:=Wi (p:=((w.alloc (.deferred (some []))).heap.size,0)) hn2
     have h2:=(h1.pre hn2 (.loop .ready none g s.t s.n ps.toList asg body s.x.c)).alloc (ob:= .loop .ready none g s.t s.n ps.toList asg body s.x.c)
       (rb:= .loop {state:= .ready,pending:=none,fn:=fn,tmps:=a.tmps,params:=ps,assign:=asg,body:=body,defers:=w.heap.size}) (c:=0) hn2 (by show s.x.c+1<s.x.c+2;omega) (by rw [X.get_set];simp)
       ⟨fn,a.tmps,w.heap.size,0,by simp,(hta.mono hx1).mono hx2,hF.sz,by rw [Y2 Oa];exact XC,hs.2⟩
     have hnx:NX s.x.c β (up (up β s.x.c (w.heap.size,0)) (s.x.c+1) ((w.alloc (.deferred (some []))).heap.size,0)):=fun k hk=>by rw [Y2 Oa,Y2 Oa]
     have hk:=key s.x.c _ _ _ _ _ [{target:= .collected w.heap.size,args:= #[]}] h2 XC hnx rfl (.cons (c:=0) (by rw [Y2 Oa];exact XC) ((hF.ds.mono hx1).mono hx2)) he
     exact⟨_,_,_,_,_,gf,_,_,run_enterLoop_outer _ _ _ _ _,(qP _ _).1,fun _ _=>trivial,(qP _ _).2,fun h=>(by cases h),by simpa using hk⟩
   · dsimp only at he
     cases yn:s.x.get l with
     |none=>rw [yn] at he;cases he
     | some ob=>cases ob with
       |cells l0 E0 o0=>rw [yn] at he;cases he
       |dfr t0=>rw [yn] at he;cases he
       |map l0=>rw [yn] at he;cases he
       | loop st0 pd0 g0 t0 n0 ps0 asg0 body0 d0=>
         rw [yn] at he
         dsimp only at he
         obtain⟨hb0,ob,h4,fn',tm,db,dx,h5,h6,h7,h8,_⟩:=hF.hr.obj hl yn
         subst h5
         have hn2:β (s.x.c+1)=none:=aV _ Oa
         have hx2:=Wi (p:=(w.heap.size,0)) hn2
         have h2:=(hb2.pre hn2 (.loop .ready none g s.t s.n ps.toList asg body d0)).alloc (ob:= .loop .ready none g s.t s.n ps.toList asg body d0)
           (rb:= .loop {state:= .ready,pending:=none,fn:=fn,tmps:=a.tmps,params:=ps,assign:=asg,body:=body,defers:=db}) (c:=0) hn2 (by show s.x.c+1<s.x.c+2;omega) (by rw [X.get_set];simp)
           ⟨fn,a.tmps,db,dx,by simp,hta.mono hx2,hF.sz,hx2 _ _ h8,hs.2⟩
         have hnx:NX s.x.c β (up β (s.x.c+1) (w.heap.size,0)):=fun k hk=>by rw [Y2 Oa]
         have hk:=key d0 _ _ _ _ _ [] h2 XC hnx rfl (hF.ds.mono hx2) he
         exact⟨_,_,_,_,_,gf,_,_,run_enterLoop_inner h4 _ _ _ _ _,(qP _ _).1,fun _ _=>trivial,(qP _ _).2,fun h=>(by cases h),hk⟩
 |_=>intro s e s' he;rw [evC_eq] at he;cases he
end
end Go.Proofs.Ev
namespace Go.Proofs.Ev
open Go Go.RowKit Go.Proofs.Gw
noncomputable def putAll(g n:Nat):List Nat->List V->T V->Option (T V)
  | [], [],t=>some t
  |p::ps,v::vs,t=>bif Nat.blt p n then putAll g n ps vs (bif Nat.testBit g p then t.set p v else t) else none
  |_,_,_=>none
noncomputable def TR(g:Nat):List V->Nat->T V->T V
  | [],_,t=>t
  |v::vs,i,t=>TR g vs (i+1) (bif Nat.testBit g i then t.set i v else t)
noncomputable def KP:List Nat->X->Option X
  | [],x=>some x
  | d::ds,x=>match x.get d with
    |some (.dfr false)=>KP ds (x.set d (.dfr true))
    |_=>none
noncomputable def Zku(P:Program)(t:Nat->Option V)(x:X):ResultVar->Option V
  | .tmp a=>t a
  | .cell a T=>exL P (rho t) x (.load T (.tmp a))
noncomputable def Tj(P:Program)(t:Nat->Option V)(x:X):List ResultVar->Option (List V)
  | []=>some []
  | r::l=>match Zku P t x r,Tj P t x l with
    |some v,some vs=>some (v::vs)
    |_,_=>none
noncomputable def Zkv(P:Program)(t:Nat->Option V)(x:X)(l:List ResultVar):Option V:=match Tj P t x l with
  |some [v]=>some v
  |some vs=>some (.tup vs)
  |none=>none
noncomputable def evF(K:Kit)(P:Program)(kp:Nat->Nat)(f:Nat)(xs:List V)(x:X):Option (V×X):=match P.funcs[f]? with
  | some fn=>match fn.body with
    | some c=>bif !Nat.ble xs.length fn.ntmps then none else
      match evC K P (kp f) fn.ntmps none c ⟨TR (kp f) xs 0 (T.mk 4), [],fn.ntmps, [],x⟩ with
      |some (.ex _,_)=>none
      | some (_,⟨t,b,_,ds,x1⟩)=>match KP ds x1 with
        | some x'=>match Zkv P (Xd t b) x' fn.results.toList with
          |some v=>some (v,x')
          |none=>none
        |none=>none
      |none=>none
    |none=>none
  |none=>none
noncomputable def evY (K:Kit) (P:Program) (l:Nat) (xs:List V) (x:X):Option (V×X):=match x.get l with
  | some (.loop .ready _ g t n ps asg body d)=>match putAll g n ps xs t with
    | some t1 =>match evC K P g n (some l) asg ⟨t1, [],n, [],x⟩ with
      | some (.nm,s1)=>match s1.x.get l with
        | some (.loop .ready pd2 g2 t2 n2 ps2 bF zW d2)=>match evC K P g n (some l) body ⟨s1.t,s1.b,s1.n,s1.ds,s1.x.set l (.loop .busy pd2 g2 t2 n2 ps2 bF zW d2)⟩ with
          | some (e,s2)=>match s2.x.get l with
            | some (.loop _ _ g3 t3 n3 ps3 bp zb d3)=>match e with
              | .nm=>some (.bool true,s2.x.set l (.loop .ready none g3 t3 n3 ps3 bp zb d3))
              | .ex id=>some (.bool false,s2.x.set l (.loop .done (some (.exit id)) g3 t3 n3 ps3 bp zb d3))
              | .rt=>some (.bool false,s2.x.set l (.loop .done (some .ret) g3 t3 n3 ps3 bp zb d3))
            |_=>none
          |none=>none
        |_=>none
      |_=>none
    |none=>none
  |_=>none
noncomputable def kit(P:Program)(kp:Nat->Nat)(m:Nat):Nat->Kit
  |0=>⟨0,fun _ _ _=>none,fun _ _ _=>none⟩
  |n+1=>⟨m,evF (kit P kp m n) P kp,evY (kit P kp m n) P⟩
section
variable {P:Program} {K:Kit} {β:Env} {w:World} {w0:Base} {x x':X}
theorem Ut {g:Nat}:∀(xs:List V) (i:Nat) (t:T V) (j:Nat) (v:V),(TR g xs i t).get j=some v->(i<=j/\xs[j-i]? =some v/\Nat.testBit g j=true)\/t.get j=some v
 | [],i,t,j,v,h=> .inr h
 | u ::vs,i,t,j,v,h=>by
   unfold TR at h
   rcases Ut vs (i+1) _ j v h with⟨h1,h2,h3⟩|h
   · exact .inl ⟨by omega,by rw [show j-i=(j-(i+1))+1 by omega,List.getElem?_cons_succ];exact h2,h3⟩
   · cases hb:Nat.testBit g i with
     |false=>rw [hb] at h;exact .inr h
     | true=>
       rw [hb] at h
       dsimp only [cond_true] at h
       rw [T.get_set] at h
       by_cases e:i=j
       · subst e;rw [if_pos rfl] at h;exact .inl ⟨Nat.le_refl _,by simpa using h,hb⟩
       · rw [if_neg e] at h;exact .inr h
theorem Ue {g n:Nat}:∀{ps:List Nat} {xs:List V} {t t':T V} {us:List Value} {tm:Array Value},putAll g n ps xs t=some t'->TA β t.get tm->Gi g t->tm.size=n->VRs β xs us->
   TA β t'.get ((ps.zip us).foldl (fun tm p=>tm.setIfInBounds p.1 p.2) tm)/\Gi g t'/\((ps.zip us).foldl (fun tm p=>tm.setIfInBounds p.1 p.2) tm).size=n/\us.length=ps.length
 | [], [],t,t',us,tm,h,ht,hg,hs,hv=>by
   injection h with h;subst h
   cases hv
   exact⟨ht,hg,hs,rfl⟩
 | p ::ps,v::vs,t,t',us,tm,h,ht,hg,hs,hv=>by
   unfold putAll at h
   cases hp:Nat.blt p n with
   |false=>rw [hp] at h;cases h
   | true=>
     rw [hp] at h
     cases hv with
     | @cons _ u _ us h1 h2=>
       have hlt:p<tm.size:=by rw [hs];simpa [Nat.blt_eq] using hp
       dsimp only [cond_true] at h
       cases hb:Nat.testBit g p with
       | true=>
         rw [hb] at h
         obtain⟨g1,g0,g2,g3⟩:=Ue (tm:=tm.setIfInBounds p u) h (ht.put hlt h1 (fun i=>T.get_set v t p i)) (fun i v' hi=>by
           rw [cond_true,T.get_set] at hi
           by_cases e:p=i
           · subst e;exact hb
           · rw [if_neg e] at hi;exact hg i v' hi) (by simpa using hs) h2
         exact⟨g1,g0,g2,by simp [g3]⟩
       | false=>
         rw [hb] at h
         obtain⟨g1,g0,g2,g3⟩:=Ue (tm:=tm.setIfInBounds p u) h (fun i v' hi=>by
           have hi':t.get i=some v':=hi
           have hpi:p≠i:=fun e=>by subst e;rw [hg p v' hi'] at hb;cases hb
           obtain⟨u',h3,h4⟩:=ht i v' hi'
           exact⟨u',by rw [Array.getElem?_setIfInBounds_ne hpi];exact h3,h4⟩) hg (by simpa using hs) h2
         exact⟨g1,g0,g2,by simp [g3]⟩
 | [],_::_,t,t',us,tm,h,ht,hg,hs,hv=>by cases h
 |_::_, [],t,t',us,tm,h,ht,hg,hs,hv=>by cases h
noncomputable def resS(tm:Array Value):ResultVar->Sem Value
  | .tmp t=>pure (tm.getD t undef)
  | .cell a t=>do loadVar t (<-asAddr (tm.getD a undef))
theorem Zcp(fn:Func)(tm:Array Value):results fn tm=(do let vs<-fn.results.mapM (resS tm);pure (if h:vs.size=1 then vs[0] else .tuple vs)):=by
 unfold results
 congr 1
theorem Zie {t:Nat->Option V} {tm:Array Value} {r:ResultVar} {v:V} (hr:HR w0 β x w) (ht:TA β t tm) (h:Zku P t x r=some v):∃u,(resS tm r).run P w= .ok u w/\VR β v u:=by
 cases r with
 | tmp a=>
   obtain⟨u,h1,h2⟩:=ht a v h
   exact⟨u,by simp [resS,h1],h2⟩
 | cell a T=>
   have hρ:Ve β (rho t) (Act.eval {tmps:=tm,defers:= []}):=KD ht
   obtain⟨u,h1,h2⟩:=ZcF (P:=P) hr hρ (o:={dst:=none,op:= .load T (.tmp a),type:=0,pos:= "",after:= #[],guard:=none}) h
   refine⟨u,?_,h2⟩
   unfold Zku exL at h
   dsimp only at h
   split at h
   · rename_i k off hk
     have hv:=hρ _ _ hk
     have he:(Act.eval {tmps:=tm,defers:= []} (.tmp a))=tm.getD a undef:=rfl
     rw [he] at hv
     generalize hu:tm.getD a undef=ua at hv
     cases hv with
     | p hb=>
       simp only [execOp,he,hu,Instr.loadAt,Instr.sureAddr] at h1
       simp only [resS,hu,asAddr]
       rw [Sem.run_bind,Sem.run_bind] at h1
       rw [Sem.run_bind]
       simp only [Sem.run_pure,Result.andThen_ok] at h1⊢
       generalize (loadVar T _).run P w=q at h1⊢
       cases q with
       |ok a w'=>simp [Result.andThen] at h1;obtain⟨rfl,rfl⟩:=h1;rfl
       |halt e w'=>simp [Result.andThen] at h1
   · cases h
theorem Rp{t:Nat->Option V}{tm:Array Value}(hr:HR w0 β x w)(ht:TA β t tm):∀{l:List ResultVar} {vs:List V},Tj P t x l=some vs->∃us,(l.mapM (resS tm)).run P w= .ok us w/\VRs β vs us
 | [],vs,h=>by injection h with h;subst h;exact⟨[],by simp,.nil⟩
 | r ::l,vs,h=>by
   unfold Tj at h
   split at h
   · rename_i v vs' h1 h2
     injection h with h;subst h
     obtain⟨u,h3,h4⟩:=Zie hr ht h1
     obtain⟨us,h5,h6⟩:=Rp hr ht h2
     exact⟨u::us,by simp [List.mapM_cons,h3,h5],.cons h4 h6⟩
   · cases h
theorem Zif {fn:Func} {t:Nat->Option V} {tm:Array Value} {v:V} (hr:HR w0 β x w) (ht:TA β t tm) (h:Zkv P t x fn.results.toList=some v):∃u,(results fn tm).run P w= .ok u w/\VR β v u:=by
 unfold Zkv at h
 cases ha:Tj P t x fn.results.toList with
 |none=>rw [ha] at h;cases h
 | some vs=>
   rw [ha] at h
   obtain⟨us,h1,h2⟩:=Rp hr ht ha
   have hm:(fn.results.mapM (resS tm)).run P w= .ok us.toArray w:=by
     rw [Array.mapM_eq_mapM_toList];simp [h1]
   rw [Zcp,Sem.run_bind,hm,Result.andThen_ok]
   split at h
   · rename_i v0 heq
     injection heq with heq;subst heq
     injection h with h;subst h
     cases h2 with
     | @cons _ u _ _ h3 h4=>cases h4;exact⟨u,rfl,h3⟩
   · rename_i vs' hne heq
     injection h with h;subst h
     injection heq with heq;subst heq
     have hl:us.length≠1:=fun e=>by
       have:=h2.len
       rw [e] at this
       cases vs with
       |nil=>simp at this
       | cons v l=>
         cases l with
         |nil=>exact hne v rfl
         |cons v' l=>simp at this
     refine⟨.tuple us.toArray,?_,.tup h2⟩
     rw [dif_neg (by simpa using hl)];rfl
   · cases h
theorem Zbo{fn:Func}{tm:Array Value}{R:Ending->World->Prop}:∀{ks:List Nat} {ds:List Deferred} {x x':X} {w:World},KP ks x=some x'->DR β ks ds->HR w0 β x w->
   (∀w',HR w0 β x' w'->x'.c=x.c->∃v,(results fn tm).run P w'= .ok v w'/\R (.returned v) w')->LeavesInM (FZ none) 0 P fn tm R ds .returning w
 | [],_,x,x',w,h,.nil,hr,hx=>by
   injection h with h;subst h
   obtain⟨v,h1,h2⟩:=hx w hr rfl
   exact⟨v,h1,h2⟩
 | k ::ks,_,x,x',w,h,.cons hb hd,hr,hx=>by
   unfold KP at h
   split at h
   · rename_i hk
     obtain⟨_,ob,h1,h2⟩:=hr.obj hb hk
     have h2':ob= .deferred (some []):=h2
     subst h2'
     have h3:=hr.turn hb hk (YP _ _ _) (X4 (o:= .deferred none) h1) (ob:= .dfr true) rfl
     exact⟨by simp,.inl ⟨_,_,rfl,run_takeDeferred h1,Zbo h hd h3 hx⟩⟩
   · cases h
theorem ZcG {kp :Nat->Nat} (hK:KOk P K) (hm:P.follows .mixedOrders=true) {f:Nat} {xs:List V} {v:V} (he:evF K P kp f xs x=some (v,x')) {us:List Value} (h:HR w0 β x w) (hv:VRs β xs us):Calls P f us.toArray w (ZaK w0 β x.c v x'):=by
 unfold evF at he
 split at he
 · rename_i fn hf
   split at he
   · rename_i c hb
     cases hl:Nat.ble xs.length fn.ntmps with
     |false=>rw [hl] at he;cases he
     | true=>
       rw [hl] at he
       simp only [Bool.not_true,cond_false] at he
       rw [ZT] at hl
       have xa:=hv.len
       refine Ux (r:=none) (n:=0) (callsIn_of_wp_marks hf hb trivial ?_)
       have hcl:Cl (kp f) ⟨TR (kp f) xs 0 (T.mk 4), [],fn.ntmps, [],x⟩:=⟨rfl,fun j v hj=>(by
         rcases Ut _ _ _ _ _ hj with⟨_,_,h3⟩|h3
         · exact h3
         · rw [T.get_mk] at h3;cases h3)⟩
       have hF:FR w0 β ⟨TR (kp f) xs 0 (T.mk 4), [],fn.ntmps, [],x⟩ {tmps:=us.toArray++Array.replicate (fn.ntmps-us.toArray.size) undef,defers:= []} w:=
         ⟨fun j v hj=>(by
           have hj':(TR (kp f) xs 0 (T.mk 4)).get j=some v:=hj
           rcases Ut _ _ _ _ _ hj' with⟨_,h2,_⟩|h3
           · obtain⟨u,h1,h2⟩:=hv.get h2
             refine⟨u,?_,h2⟩
             rw [Nat.sub_zero] at h1
             have hlt:=(List.getElem?_eq_some_iff.1 h1).1
             rw [Array.getElem?_append_left (by simpa using hlt)]
             simpa using h1
           · rw [T.get_mk] at h3;cases h3),(by simp;omega),.nil,h⟩
       split at he
       · cases he
       · rename_i e t1 b1 n1 ds1 x2 hne hc
         split at he
         · rename_i x1 hmk
           split at he
           case h_2=>cases he
           rename_i v1 gh
           injection he with he;injection he with e1 e2;subst e1;subst e2
           refine evC_ok hK hm c hc hcl hF (.inl ⟨rfl,rfl⟩) fun β' a' w' hF' hn' hc'=> ?_
           have eF:LeavesInM (FZ none) 0 P fn a'.tmps (ZaK w0 β x.c v1 x1) a'.defers .returning w':=
             Zbo hmk hF'.ds hF'.hr fun w'' hr'' hcc=>by
               obtain⟨u,h1,h2⟩:=Zif (P:=P) hr'' hF'.ta gh
               exact⟨u,h1,u,β',rfl,h2,hr'',by rw [hcc];exact hc',fun k hk=>hn' k hk⟩
           cases e with
           |nm=>exact eF
           |ex id=>exact absurd rfl (hne id)
           |rt=>exact eF
         · cases he
       · cases he
   · cases he
 · cases he
theorem Zgq (hK : KOk P K) (hm:P.follows .mixedOrders=true) {l:Nat} {xs:List V} {v:V} (he:evY K P l xs x=some (v,x')) {us:List Value} {b c:Nat} (h:HR w0 β x w) (hv:VRs β xs us) (hl:β l=some (b,c)):
   ∃fn tmps assign body,(Instr.yield b us.toArray).run P w= .ok (.round b fn tmps assign body) w/\RoundIn (FZ none) 0 P b fn tmps assign body w (ZaK w0 β x.c v x'):=by
 unfold evY at he
 split at he
 · rename_i pd g t n ps asg body d yn
   obtain⟨_,ob,h1,fn,tm,db,dx,h2,h3,h4,h5,h6⟩:=h.obj hl yn
   subst h2
   split at he
   · rename_i t1 hp
     obtain⟨g1,g0,g2,g3⟩:=Ue hp h3 h6 h4 hv
     refine⟨_,_,_,_,run_yield h1 (by simp [g3]),roundIn_of_wpIn trivial ?_⟩
     have e0:(Array.zip ps.toArray us.toArray).foldl (fun tmps (x:Nat×Value)=>tmps.setIfInBounds x.1 x.2) tm=(ps.zip us).foldl (fun tm p=>tm.setIfInBounds p.1 p.2) tm:=by
       rw [<-Array.foldl_toList];simp
     have hcl:Cl g ⟨t1, [],n, [],x⟩:=⟨rfl,g0⟩
     have hF:FR w0 β ⟨t1, [],n, [],x⟩ {tmps:=(Array.zip ps.toArray us.toArray).foldl (fun tmps (x:Nat×Value)=>tmps.setIfInBounds x.1 x.2) tm,defers:= []} w:=by
       rw [e0];exact⟨g1,g2,.nil,h⟩
     split at he
     · rename_i s1 hc1
       refine evC_ok (rr:=some b) hK hm asg hc1 hcl hF (.inr ⟨l,b,c,rfl,rfl,hl⟩) fun β1 a1 w1 hF1 hn1 fi=> ?_
       have hl1:=(h.ext hn1) _ _ hl
       split at he
       · rename_i pd2 gg2 t2 n2 ps2 bF zW d2 b8
         obtain⟨_,ob,k1,fn2,tm2,db2,dx2,k2,k3,k4,k5,k6⟩:=hF1.hr.obj hl1 b8
         subst k2
         refine⟨_,run_beginRound k1 rfl,?_⟩
         have hr2:=hF1.hr.turn hl1 b8 (YP _ _ _) (X4 (o:= .loop {state:= .busy,pending:=pd2,fn:=fn2,tmps:=tm2,params:=ps2.toArray,assign:=bF,body:=zW,defers:=db2}) k1) (ob:= .loop .busy pd2 gg2 t2 n2 ps2 bF zW d2) ⟨fn2,tm2,db2,dx2,rfl,k3,k4,k5,k6⟩
         split at he
         · rename_i e s2 hc2
           refine evC_ok (rr:=some b) hK hm body hc2 (Zai asg hc1 hcl).1 ⟨hF1.ta,hF1.sz,hF1.ds,hr2⟩ (.inr ⟨l,b,c,rfl,rfl,hl1⟩) fun β2 a2 w2 hF2 hn2 gX=> ?_
           have hl2:=(hF1.hr.ext hn2) _ _ hl1
           have hnn:NX x.c β β2:=hn1.trans hn2 fi
           have hle:x.c<=s2.x.c:=Nat.le_trans fi gX
           split at he
           · rename_i st3 pd3 gg3 t3 n3 ps3 bp zb d3 bZ
             obtain⟨_,ob,j1,fn3,tm3,db3,dx3,j2,j3,j4,j5,j6⟩:=hF2.hr.obj hl2 bZ
             subst j2
             have fin:∀(jump:Option Code) (st:LoopState),st=(if jump.isNone then .ready else .done)->∃v' w',(Instr.endRound b jump).run P w2= .ok v' w'/\ZaK w0 β x.c (.bool jump.isNone) (s2.x.set l (.loop st jump gg3 t3 n3 ps3 bp zb d3)) (.returned v') w':=fun jump st hst=>
               ⟨_,_,run_endRound jump j1,_,β2,rfl,.bool _,by
                 subst hst
                 exact hF2.hr.turn hl2 bZ (YP _ _ _) (X4 j1) ⟨fn3,tm3,db3,dx3,rfl,j3,j4,j5,j6⟩,hle,fun k hk=>hnn k hk⟩
             cases e with
             |nm=>injection he with he;injection he with e1 e2;subst e1;subst e2;exact fin none .ready rfl
             |ex id=>injection he with he;injection he with e1 e2;subst e1;subst e2;exact fin (some (.exit id)) .done rfl
             |rt=>injection he with he;injection he with e1 e2;subst e1;subst e2;exact fin (some .ret) .done rfl
           · cases he
         · cases he
       · cases he
     · cases he
   · cases he
 · cases he
theorem Zcz(hm:P.follows .mixedOrders=true)(kp:Nat->Nat)(m:Nat):∀n,KOk P (kit P kp m n)
 |0=>⟨fun h=>(by cases h),fun h=>(by cases h)⟩
 |n+1=>⟨fun h=>fun {w0 β w us} hr hv=>ZcG (Zcz hm kp m n) hm h hr hv,fun h=>fun {w0 β w us b c} hr hv hl=>Zgq (Zcz hm kp m n) hm h hr hv hl⟩
end
end Go.Proofs.Ev
namespace Go.Proofs.Ev
open Go Go.RowKit Go.Proofs.Gw
mutual
noncomputable def nmV:V->List Nat
  | .p k _=> [k]
  | .s k _ _ _=> [k]
  | .su k _=> [k]
  | .so k _ _=> [k]
  | .yl k=> [k]
  | .mp k=> [k]
  | .fn _ l=>Y1 l
  | .agg l=>Y1 l
  | .tup l=>Y1 l
  |_=> []
noncomputable def Y1:List V->List Nat
  | []=> []
  |v::l=>nmV v++Y1 l
end
mutual
noncomputable def rnV(σ:Nat->Nat):V->V
  | .p k o=> .p (σ k) o
  | .s k o n c=> .s (σ k) o n c
  | .su k n=> .su (σ k) n
  | .so k o n=> .so (σ k) o n
  | .yl k=> .yl (σ k)
  | .mp k=> .mp (σ k)
  | .fn f l=> .fn f (Vc σ l)
  | .agg l=> .agg (Vc σ l)
  | .tup l=> .tup (Vc σ l)
  | .bool b=> .bool b
  | .int k n=> .int k n
  | .pn=> .pn
  | .sn=> .sn
  | .nf=> .nf
  | .str s=> .str s
noncomputable def Vc(σ:Nat->Nat):List V->List V
  | []=> []
  |v::l=>rnV σ v::Vc σ l
end
mutual
theorem ZjT{β β':Env}{σ:Nat->Nat}:∀{v:V} {u:Value},(∀k∈nmV v,∀p,β k=some p->β' (σ k)=some p)->VR β v u->VR β' (rnV σ v) u
 | .bool b,_,h,e=>by cases e;simp only [rnV];constructor
 | .int k n,_,h,e=>by cases e;simp only [rnV];constructor
 | .pn,_,h,e=>by cases e;simp only [rnV];constructor
 | .p k o,_,h,e=>by cases e with|p e=>simp only [rnV];exact .p (h _ (by simp [nmV]) _ e)
 | .sn,_,h,e=>by cases e;simp only [rnV];constructor
 | .s k o n c,_,h,e=>by cases e with|s e=>simp only [rnV];exact .s (h _ (by simp [nmV]) _ e)
 | .su k n,_,h,e=>by cases e with|su e l=>simp only [rnV];exact .su (h _ (by simp [nmV]) _ e) l
 | .so k o n,_,h,e=>by cases e with|so e l o=>simp only [rnV];exact .so (h _ (by simp [nmV]) _ e) l o
 | .fn f l,_,h,e=>by cases e with|fn e=>simp only [rnV];exact .fn (Ti (by simpa [nmV] using h) e)
 | .yl k,_,h,e=>by cases e with|yl e=>simp only [rnV];exact .yl (h _ (by simp [nmV]) _ e)
 | .mp k,_,h,e=>by cases e with|mp e=>simp only [rnV];exact .mp (h _ (by simp [nmV]) _ e)
 | .nf,_,h,e=>by cases e;simp only [rnV];constructor
 | .str s,_,h,e=>by cases e;simp only [rnV];constructor
 | .agg l,_,h,e=>by cases e with|agg e=>simp only [rnV];exact .agg (Ti (by simpa [nmV] using h) e)
 | .tup l,_,h,e=>by cases e with|tup e=>simp only [rnV];exact .tup (Ti (by simpa [nmV] using h) e)
theorem Ti{β β':Env}{σ:Nat->Nat}:∀{l:List V} {us:List Value},(∀k∈Y1 l,∀p,β k=some p->β' (σ k)=some p)->VRs β l us->VRs β' (Vc σ l) us
 | [],_,h,e=>by cases e;simp only [Vc];exact .nil
 | v::l,_,h,e=>by
   cases e with
   |cons a b=>simp only [Vc];exact .cons (ZjT (fun k hk=>h k (by simp [Y1,hk])) a) (Ti (fun k hk=>h k (by simp [Y1,hk])) b)
end
mutual
theorem Zkt{β β':Env}{σ:Nat->Nat}:∀{v:V} {u:Value},(∀k∈nmV v,∀p,β (σ k)=some p->β' k=some p)->VR β (rnV σ v) u->VR β' v u
 | .bool b,_,h,e=>by simp only [rnV] at e;cases e;constructor
 | .int k n,_,h,e=>by simp only [rnV] at e;cases e;constructor
 | .pn,_,h,e=>by simp only [rnV] at e;cases e;constructor
 | .p k o,_,h,e=>by simp only [rnV] at e;cases e with|p e=>exact .p (h _ (by simp [nmV]) _ e)
 | .sn,_,h,e=>by simp only [rnV] at e;cases e;constructor
 | .s k o n c,_,h,e=>by simp only [rnV] at e;cases e with|s e=>exact .s (h _ (by simp [nmV]) _ e)
 | .su k n,_,h,e=>by simp only [rnV] at e;cases e with|su e l=>exact .su (h _ (by simp [nmV]) _ e) l
 | .so k o n,_,h,e=>by simp only [rnV] at e;cases e with|so e l o=>exact .so (h _ (by simp [nmV]) _ e) l o
 | .fn f l,_,h,e=>by simp only [rnV] at e;cases e with|fn e=>exact .fn (VG (by simpa [nmV] using h) e)
 | .yl k,_,h,e=>by simp only [rnV] at e;cases e with|yl e=>exact .yl (h _ (by simp [nmV]) _ e)
 | .mp k,_,h,e=>by simp only [rnV] at e;cases e with|mp e=>exact .mp (h _ (by simp [nmV]) _ e)
 | .nf,_,h,e=>by simp only [rnV] at e;cases e;constructor
 | .str s,_,h,e=>by simp only [rnV] at e;cases e;constructor
 | .agg l,_,h,e=>by simp only [rnV] at e;cases e with|agg e=>exact .agg (VG (by simpa [nmV] using h) e)
 | .tup l,_,h,e=>by simp only [rnV] at e;cases e with|tup e=>exact .tup (VG (by simpa [nmV] using h) e)
theorem VG{β β':Env}{σ:Nat->Nat}:∀{l:List V} {us:List Value},(∀k∈Y1 l,∀p,β (σ k)=some p->β' k=some p)->VRs β (Vc σ l) us->VRs β' l us
 | [],_,h,e=>by simp only [Vc] at e;cases e;exact .nil
 | v::l,_,h,e=>by
   simp only [Vc] at e
   cases e with
   |cons a b=>exact .cons (Zkt (fun k hk=>h k (by simp [Y1,hk])) a) (VG (fun k hk=>h k (by simp [Y1,hk])) b)
end
mutual
theorem VR.plain{β β':Env}:∀{v:V} {u:Value},nmV v= []->VR β v u->VR β' v u
 | .bool b,_,h,e=>by cases e;constructor
 | .int k n,_,h,e=>by cases e;constructor
 | .pn,_,h,e=>by cases e;constructor
 | .p k o,_,h,e=>by simp [nmV] at h
 | .sn,_,h,e=>by cases e;constructor
 | .s k o n c,_,h,e=>by simp [nmV] at h
 | .su k n,_,h,e=>by simp [nmV] at h
 | .so k o n,_,h,e=>by simp [nmV] at h
 | .fn f l,_,h,e=>by cases e with|fn e=>exact .fn (VRs.plain (by simpa [nmV] using h) e)
 | .yl k,_,h,e=>by simp [nmV] at h
 | .mp k,_,h,e=>by simp [nmV] at h
 | .nf,_,h,e=>by cases e;constructor
 | .str s,_,h,e=>by cases e;constructor
 | .agg l,_,h,e=>by cases e with|agg e=>exact .agg (VRs.plain (by simpa [nmV] using h) e)
 | .tup l,_,h,e=>by cases e with|tup e=>exact .tup (VRs.plain (by simpa [nmV] using h) e)
theorem VRs.plain{β β':Env}:∀{l:List V} {us:List Value},Y1 l= []->VRs β l us->VRs β' l us
 | [],_,h,e=>by cases e;exact .nil
 | v ::l,_,h,e=>by
   cases e with
   | cons a b=>
     simp only [Y1,List.append_eq_nil_iff] at h
     exact .cons (VR.plain h.1 a) (VRs.plain h.2 b)
end
structure Memo where
  xs:List V
  k:Nat
  x0:X
  v:V
  rs:List (Nat×List V×Nat×Option Nat)
  c:Nat
noncomputable def nd:List Nat->Bool
  | []=>true
  |a::l=> !l.any (Nat.beq a)&&nd l
theorem ZfI:∀{l:List Nat},nd l=true->∀{i j a:Nat},l[i]? =some a->l[j]? =some a->i=j
 | [],_,i,j,a,hi,_=>by simp at hi
 | b ::l,h,i,j,a,hi,hj=>by
   simp only [nd,Bool.and_eq_true,Bool.not_eq_true'] at h
   have no:∀{n:Nat},l[n]? =some b->False:=fun hn=>by
     have h1:=List.mem_of_getElem? hn
     rw [List.any_eq_false] at h
     exact h.1 b h1 (Nat.beq_refl b)
   cases i with
   | zero=>
     cases j with
     |zero=>rfl
     |succ j=>simp at hi hj;subst hi;exact(no hj).elim
   | succ i=>
     cases j with
     |zero=>simp at hi hj;subst hj;exact(no hi).elim
     |succ j=>simp at hi hj;rw [ZfI h.2 hi hj]
noncomputable def eqN:Option Nat->Option Nat->Bool
  |none,none=>true
  |some a,some b=>Nat.beq a b
  |_,_=>false
theorem Zgt:∀{a b:Option Nat},eqN a b=true->a=b
 |none,none,_=>rfl
 |some a,some b,h=>by rw [show a=b from ZI.1 h]
 |none,some _,h=>by cases h
 |some _,none,h=>by cases h
noncomputable def Zo6:List Nat->Bool
  | []=>true
  |_=>false
noncomputable def K7(x:X)(j:Nat)(x0:X)(i:Nat):Bool:=match x.get j,x0.get i with
  |some (.cells l E o),some (.cells l' E' o')=>Um l l'&&Nat.beq E E'&&eqN o o'&&Zo6 (Y1 l')
  |_,_=>false
theorem RV{x x0:X}{j i:Nat}(h:K7 x j x0 i=true):∃l E o,x.get j=some (.cells l E o)/\x0.get i=some (.cells l E o)/\Y1 l= []:=by
 unfold K7 at h
 split at h
 · rename_i l E o l' E' o' h1 h2
   simp only [Bool.and_eq_true] at h
   obtain⟨⟨⟨a,b⟩,c⟩,d⟩:=h
   have:=XV a;subst this
   rw [ZI] at b;subst b
   have:=Zgt c;subst this
   refine⟨_,_,_,h1,h2,?_⟩
   cases hn:Y1 l with
   |nil=>rfl
   |cons a r=>rw [hn] at d;cases d
 · cases h
noncomputable def Ze3(x:X)(x0:X):List Nat->Nat->Bool
  | [],_=>true
  |j::l,i=>K7 x j x0 i&&Ze3 x x0 l (i+1)
theorem ZaD{x x0:X}:∀{l:List Nat} {i:Nat},Ze3 x x0 l i=true->∀{n j:Nat},l[n]? =some j->K7 x j x0 (i+n)=true
 | [],i,h,n,j,hj=>by simp at hj
 | a::l,i,h,n,j,hj=>by
   simp only [Ze3,Bool.and_eq_true] at h
   cases n with
   |zero=>simp at hj;subst hj;exact h.1
   |succ n=>simp at hj;have:=ZaD h.2 hj;rwa [show i+(n+1)=i+1+n by omega]
noncomputable def ren(L:List Nat)(k C:Nat)(j:Nat):Nat:=bif Nat.blt j k then L.getD j 0 else C+(j-k)
noncomputable def UL(ρ:Nat->Nat):List (Nat×List V×Nat×Option Nat)->X->X
  | [],x=>x
  |(j,l,E,o)::r,x=>(UL ρ r x).set (ρ j) (.cells (Vc ρ l) E o)
theorem Tg{ρ:Nat->Nat}{x:X}{i:Nat}:∀{rs:List (Nat×List V×Nat×Option Nat)},(∃j l E o,(j,l,E,o)∈rs/\ρ j=i/\(UL ρ rs x).get i=some (.cells (Vc ρ l) E o))\/((∀q∈rs,ρ q.1≠i)/\(UL ρ rs x).get i=x.get i)
 | []=> .inr ⟨by simp,rfl⟩
 | (j,l,E,o)::r=>by
   have e:(UL ρ ((j,l,E,o)::r) x).get i=if ρ j=i then some (.cells (Vc ρ l) E o) else(UL ρ r x).get i:=by
     simp only [UL,X.get_set]
   by_cases h:ρ j=i
   · exact .inl ⟨j,l,E,o,by simp,h,by rw [e,if_pos h]⟩
   · rw [if_neg h] at e
     rcases Tg (ρ:=ρ) (x:=x) (i:=i) (rs:=r) with⟨j',l',E',o',h1,h2,h3⟩|⟨h1,h2⟩
     · exact .inl ⟨j',l',E',o',by simp [h1],h2,by rw [e,h3]⟩
     · exact .inr ⟨fun q hq=>by
         rcases List.mem_cons.1 hq with rfl|hq
         · exact h
         · exact h1 q hq,by rw [e,h2]⟩
theorem Zfp{ρ:Nat->Nat}{x:X}:∀{rs:List (Nat×List V×Nat×Option Nat)},(UL ρ rs x).c=x.c
 | []=>rfl
 | (j,l,E,o)::r=>by
   have:(UL ρ ((j,l,E,o)::r) x).c=(UL ρ r x).c:=by
     simp only [UL];generalize UL ρ r x=y;cases y;rfl
   rw [this,Zfp]
noncomputable def Zkn(M:Memo)(xs:List V)(x:X):Option (V×X):=
  bif Nat.beq (Y1 xs).length M.k&&(nd (Y1 xs)&&(Um (Vc (ren (Y1 xs) M.k x.c) M.xs) xs&&Ze3 x M.x0 (Y1 xs) 0)) then
    some (rnV (ren (Y1 xs) M.k x.c) M.v,UL (ren (Y1 xs) M.k x.c) M.rs (x.bump (M.c-M.k)))
  else none
noncomputable def MOk(P:Program)(f:Nat)(M:Memo):Prop:=∀{w0:Base} {β:Env} {x:X} {w:World} {xs:List V} {us:List Value} {v:V} {x':X},Zkn M xs x=some (v,x')->HR w0 β x w->VRs β xs us->Calls P f us.toArray w (ZaK w0 β x.c v x')
noncomputable def Zcg:Nat->List Nat
  |0=> []
  |n+1=>Zcg n++ [n]
theorem Vz:∀n,(Zcg n).length=n
 |0=>rfl
 |n+1=>by simp [Zcg,Vz n]
theorem ZaP:∀{n i:Nat},i<n->(Zcg n)[i]? =some i
 | n +1,i,h=>by
   by_cases e:i=n
   · subst e
     simp only [Zcg]
     rw [List.getElem?_append_right (by rw [Vz];exact Nat.le_refl _),Vz];simp
   · simp only [Zcg]
     rw [List.getElem?_append_left (by rw [Vz];omega)]
     exact ZaP Oa
noncomputable def inM(M:Memo)(n:Nat):Bool:=Nat.blt n M.k||M.rs.any (fun q=>Nat.beq q.1 n)
noncomputable def Zib(M:Memo)(x1:X):List (Nat×List V×Nat×Option Nat)->Bool
  | []=>true
  | (j,l,E,o)::r=>(match x1.get j with
    |some (.cells l' E' o')=>Nat.ble M.k j&&(Um l' l&&(Nat.beq E' E&&(eqN o' o&&(Y1 l).all (inM M))))
    |_=>false)&&Zib M x1 r
theorem Zde {M:Memo} {x1:X}:∀{rs:List (Nat×List V×Nat×Option Nat)},Zib M x1 rs=true->∀{j l E o},(j,l,E,o)∈rs->x1.get j=some (.cells l E o)/\M.k<=j/\∀n∈Y1 l,inM M n=true
 | [],h,j,l,E,o,hm=>by cases hm
 | (j',l',E',o')::r,h,j,l,E,o,hm=>by
   simp only [Zib,Bool.and_eq_true] at h
   rcases List.mem_cons.1 hm with he|hm
   · cases he
     have h1:=h.1
     split at h1
     · rename_i l2 E2 o2 hx
       simp only [Bool.and_eq_true] at h1
       obtain⟨a,b,c,d,e⟩:=h1
       have:=XV b;subst this
       rw [ZI] at c;subst c
       have:=Zgt d;subst this
       rw [ZT] at a
       exact⟨hx,a,fun n hn=>List.all_eq_true.1 e n hn⟩
     · cases h1
   · exact Zde h.2 hm
noncomputable def chkM(K:Kit)(f:Nat)(M:Memo):Bool:=match K.call f M.xs M.x0 with
  |some (v,x1)=>Nat.beq M.x0.c M.k&&(eqV v M.v&&(Nat.ble x1.c M.c&&(Zib M x1 M.rs&&(Ze3 x1 M.x0 (Zcg M.k) 0&&((nmV v).all (inM M)&&(Y1 M.xs).all (fun n=>Nat.blt n M.k))))))
  |none=>false
section
variable {P:Program} {K:Kit}
theorem ZkH{M:Memo}{n:Nat}(h:inM M n=true):n<M.k\/∃q∈M.rs,q.1=n:=by
 simp only [inM,Bool.or_eq_true,Nat.blt_eq,List.any_eq_true] at h
 rcases h with h|⟨q,h1,h2⟩
 · exact .inl h
 · exact .inr ⟨q,h1,ZI.1 h2⟩
theorem Zit (hK:KOk P K) {f:Nat} {M:Memo} (hc:chkM K f M=true):MOk P f M:=by
 intro w0 β x w xs us v x' hu h hv
 unfold chkM at hc
 split at hc
 case h_2=>cases hc
 rename_i v1 x1 qP
 simp only [Bool.and_eq_true] at hc
 obtain⟨c0,c1,c2,c3,c4,c5,c6⟩:=hc
 have:=Zak c1;subst this
 rw [ZI] at c0
 rw [ZT] at c2
 unfold Zkn at hu
 generalize hL:Y1 xs=L at hu
 cases hb:(Nat.beq L.length M.k&&(nd L&&(Um (Vc (ren L M.k x.c) M.xs) xs&&Ze3 x M.x0 L 0))) with
 |false=>rw [hb] at hu;cases hu
 |true=>
 rw [hb] at hu
 simp only [cond_true,Option.some.injEq,Prod.mk.injEq] at hu
 simp only [Bool.and_eq_true] at hb
 obtain⟨b1,b2,b3,b4⟩:=hb
 rw [ZI] at b1
 have hxs:=XV b3
 obtain⟨hu1,hu2⟩:=hu
 generalize hρ:ren L M.k x.c=ρ at hu1 hu2 hxs
 have ρlo:∀{i},i<M.k->L[i]? =some (ρ i):=fun {i} hi=>by
   have:i<L.length:=Oa
   have hbl:Nat.blt i M.k=true:=by rw [Nat.blt_eq];exact hi
   rw [<-hρ];simp [ren,hbl,List.getElem?_eq_getElem this]
 have ρhi:∀{j},M.k<=j->ρ j=x.c+(j-M.k):=fun {j} hj=>by
   have:Nat.blt j M.k=false:=by
     cases hq:Nat.blt j M.k with
     |false=>rfl
     |true=>rw [Nat.blt_eq] at hq;omega
   rw [<-hρ];simp [ren,this]
 have hat:∀{i},i<M.k->∃l E o,x.get (ρ i)=some (.cells l E o)/\M.x0.get i=some (.cells l E o)/\Y1 l= []:=fun {i} hi=>by
   have:=RV (ZaD b4 (ρlo hi))
   rwa [Nat.zero_add] at this
 have fk:∀{i},i<M.k->∃l E o,x1.get i=some (.cells l E o)/\M.x0.get i=some (.cells l E o)/\Y1 l= []:=fun {i} hi=>by
   have:=RV (ZaD c4 (ZaP hi))
   rwa [Nat.zero_add] at this
 have ρinj:∀{i j},i<M.k->j<M.k->ρ i=ρ j->i=j:=fun {i j} hi hj e=>ZfI b2 (ρlo hi) (by rw [e];exact ρlo hj)
 let β0:Env:=fun i=>if i<M.k then β (ρ i) else none
 let B:Base:=⟨w,fun b=>∃i c,i<M.k/\β (ρ i)=some (b,c)⟩
 have h0 :HR B β0 M.x0 w:=by
   refine⟨⟨rfl,rfl,rfl,Nat.le_refl _,fun _ _ _=>rfl⟩,fun {i b c o} hb hk=> ?_,fun {i j b c c' o o'} a1 a2 a3 a4=> ?_,fun {i b c} hb=> ?_⟩
   · by_cases hi:i<M.k
     · have hb':β (ρ i)=some (b,c):=by simpa [β0,hi] using hb
       obtain⟨l,E,oo,g1,g2,g3⟩:=hat hi
       rw [g2] at hk;cases hk
       obtain⟨_,ob,k1,l1,l2,k2,k3,k4⟩:=h.obj hb' g1
       exact⟨.inr ⟨i,c,hi,hb'⟩,ob,k1,l1,l2,k2,k3.plain g3,k4⟩
     · simp [β0,hi] at hb
   · by_cases hi:i<M.k
     · by_cases hj:j<M.k
       · have e1:β (ρ i)=some (b,c):=by simpa [β0,hi] using a1
         have e2:β (ρ j)=some (b,c'):=by simpa [β0,hj] using a2
         obtain⟨_,_,_,g1,_,_⟩:=hat hi
         obtain⟨_,_,_,g2,_,_⟩:=hat hj
         exact ρinj hi hj (h.inj e1 e2 g1 g2)
       · simp [β0,hj] at a2
     · simp [β0,hi] at a1
   · by_cases hi:i<M.k
     · have e1:β (ρ i)=some (b,c):=by simpa [β0,hi] using hb
       exact⟨by rw [c0];exact hi,(h.lt e1).2⟩
     · simp [β0,hi] at hb
 have hv0:VRs β0 M.xs us:=by
   rw [<-hxs] at hv
   refine VG (fun n hn p hp=> ?_) hv
   have:n<M.k:=by
     have:=List.all_eq_true.1 c6 n hn
     simpa [Nat.blt_eq] using this
   simpa [β0,this] using hp
 refine(hK.call qP h0 hv0).mono fun e w' hE=> ?_
 obtain⟨u,β',rfl,h1,h2,h3,h4⟩:=hE
 rw [c0] at h3 h4
 have old:∀{i p},i<M.k->(β' i=some p↔β (ρ i)=some p):=fun {i p} hi=>by rw [h4 i hi];simp [β0,hi]
 let β2:Env:=fun j=>if j<x.c then β j else if M.rs.any (fun q=>Nat.beq (ρ q.1) j) then β' (j-x.c+M.k) else none
 have lo:∀{j},j<x.c->β2 j=β j:=fun {j} hj=>by simp [β2,hj]
 have hrs:∀{j l E o},(j,l,E,o)∈M.rs->x1.get j=some (.cells l E o)/\M.k<=j/\∀n∈Y1 l,inM M n=true:=fun hm=>Zde c3 hm
 have hi2:∀{q},q∈M.rs->β2 (ρ q.1)=β' q.1:=fun {q} hq=>by
   obtain⟨j,l,E,o⟩:=q
   have hj:=(hrs hq).2.1
   have e:=ρhi hj
   have hn:¬ρ j<x.c:=Oa
   have ha:M.rs.any (fun q=>Nat.beq (ρ q.1) (ρ j))=true:=List.any_eq_true.2 ⟨_,hq,Nat.beq_refl _⟩
   simp only [β2,hn,if_false,ha,if_true]
   rw [e];congr 1;omega
 have back:∀{j p},¬j<x.c->β2 j=some p->∃q∈M.rs,ρ q.1=j/\β' q.1=some p:=fun {j p} hj hp=>by
   cases ha:M.rs.any (fun q=>Nat.beq (ρ q.1) j) with
   |false=>simp [β2,hj,ha] at hp
   | true=>
     obtain⟨q,hq,e⟩:=List.any_eq_true.1 ha
     rw [ZI] at e
     refine⟨q,hq,e,?_⟩
     rw [<-hi2 hq,e];exact hp
 have fw:∀{n p},inM M n=true->β' n=some p->β2 (ρ n)=some p:=fun {n p} hn hp=>by
   rcases ZkH hn with hn|⟨q,hq,rfl⟩
   · have hb:=(old hn).1 hp
     obtain⟨b,c⟩:=p
     rw [lo (h.lt hb).1];exact hb
   · rw [hi2 hq];exact hp
 have ext:Ext β β2:=fun j p hp=>by
   obtain⟨b,c⟩:=p
   rw [lo (h.lt hp).1];exact hp
 have own:∀{b},B.own b->w0.own b:=fun {b} hb=>by
   rcases hb with hb|⟨i,c,hi,hb⟩
   · exact .inl (Nat.le_trans h.below.size hb)
   · obtain⟨_,_,_,g1,_,_⟩:=hat hi
     exact(h.obj hb g1).1
 have gx:∀{j o},j<x.c->x'.get j=some o->x.get j=some o:=fun {j o} hj ho=>by
   rw [<-hu2] at ho
   rcases Tg (ρ:=ρ) (x:=x.bump (M.c-M.k)) (i:=j) (rs:=M.rs) with⟨j',l',E',o',g1,g2,g3⟩|⟨g1,g2⟩
   · have:=ρhi (hrs g1).2.1;omega
   · rw [g2] at ho
     cases x;exact ho
 have gn:∀{q j o},q∈M.rs->ρ q.1=j->x'.get j=some o->∃l E oo,(q.1,l,E,oo)∈M.rs/\o= .cells (Vc ρ l) E oo:=fun {q j o} hq e ho=>by
   rw [<-hu2] at ho
   rcases Tg (ρ:=ρ) (x:=x.bump (M.c-M.k)) (i:=j) (rs:=M.rs) with⟨j',l',E',o',g1,g2,g3⟩|⟨g1,g2⟩
   · obtain⟨j,l,E,oo⟩:=q
     have e1:=ρhi (hrs g1).2.1
     have e2:=ρhi (hrs hq).2.1
     have e3:=(hrs g1).2.1
     have e4:=(hrs hq).2.1
     have:j'=j:=by
       have:ρ j=ρ j':=by rw [g2];exact e
       omega
     subst this
     rw [g3] at ho;cases ho
     exact⟨_,_,_,g1,rfl⟩
   · exact absurd e (g1 q hq)
 have hsz:w.heap.size<=w'.heap.size:=h2.below.size
 have hcx:x'.c=x.c+(M.c-M.k):=by rw [<-hu2,Zfp];cases x;rfl
 refine⟨u,β2,rfl,?_,⟨?_,fun {j b c o} hb hk=> ?_,fun {j j' b c c' o o'} a1 a2 a3 a4=> ?_,fun {j b c} hb=> ?_⟩,Oa,fun j hj=>lo hj⟩
 · rw [<-hu1]
   exact ZjT (fun n hn p hp=>fw (List.all_eq_true.1 c5 n hn) hp) h1
 · have hb:=h2.below
   refine⟨hb.os.trans h.below.os,hb.tape.trans h.below.tape,hb.output.trans h.below.output,Nat.le_trans h.below.size hb.size,fun j hj hU=> ?_⟩
   rw [<-h.below.block j hj hU]
   refine hb.block j (Nat.lt_of_lt_of_le hj h.below.size) fun⟨i,c,hi,hbi⟩=> ?_
   rcases own (.inr ⟨i,c,hi,hbi⟩) with g|g
   · omega
   · exact hU g
 · by_cases hj:j<x.c
   · rw [lo hj] at hb
     have hk':=gx hj hk
     obtain⟨g1,ob,g2,g3⟩:=h.obj hb hk'
     by_cases hU:B.U b
     · obtain⟨i,c',hi,hbi⟩:=hU
       obtain⟨l,E,oo,k1,k2,k3⟩:=hat hi
       obtain⟨l',E',oo',m1,m2,m3⟩:=fk hi
       have e:=h.inj hb hbi hk' k1
       subst e
       rw [k2] at m2;cases m2
       rw [k1] at hk';cases hk'
       rw [hb] at hbi;cases hbi
       obtain⟨_,ob',n1,l1,l2,n2,n3,n4⟩:=h2.obj ((old hi).2 hb) m1
       exact⟨g1,ob',n1,l1,l2,n2,n3.plain k3,n4⟩
     · refine⟨g1,ob,?_,g3.mono ext⟩
       rw [h2.below.block b (h.lt hb).2 hU];exact g2
   · obtain⟨q,hq,e,hp⟩:=back hj hb
     obtain⟨l,E,oo,hm,rfl⟩:=gn hq e hk
     obtain⟨g1,ob,g2,l1,l2,g3,g4,g5⟩:=h2.obj hp (hrs hm).1
     exact⟨own g1,ob,g2,l1,l2,g3,Ti (fun n hn p hp=>fw ((hrs hm).2.2 n hn) hp) g4,g5⟩
 · have mix:∀{j j' b c c' o o'},j<x.c->¬j'<x.c->β2 j=some (b,c)->β2 j'=some (b,c')->x'.get j=some o->x'.get j'=some o'->False:=fun {j j' b c c' o o'} hj hj' a1 a2 a3 a4=>by
     rw [lo hj] at a1
     obtain⟨q,hq,e,hp⟩:=back hj' a2
     obtain⟨l,E,oo,hm,_⟩:=gn hq e a4
     rcases(h2.obj hp (hrs hm).1).1 with g|⟨i,c2,hi,hbi⟩
     · have g':w.heap.size<=b:=g
       have:=(h.lt a1).2;omega
     · obtain⟨_,_,_,m1,_,_⟩:=fk hi
       have:=h2.inj ((old hi).2 hbi) hp m1 (hrs hm).1
       have:=(hrs hm).2.1
       omega
   by_cases hj:j<x.c
   · by_cases hj':j'<x.c
     · rw [lo hj] at a1;rw [lo hj'] at a2
       exact h.inj a1 a2 (gx hj a3) (gx hj' a4)
     · exact(mix hj hj' a1 a2 a3 a4).elim
   · by_cases hj':j'<x.c
     · exact(mix hj' hj a2 a1 a4 a3).elim
     · obtain⟨q,hq,e,hp⟩:=back hj a1
       obtain⟨q',hq',e',hp'⟩:=back hj' a2
       obtain⟨_,_,_,hm,_⟩:=gn hq e a3
       obtain⟨_,_,_,hm',_⟩:=gn hq' e' a4
       rw [<-e,<-e',h2.inj hp hp' (hrs hm).1 (hrs hm').1]
 · by_cases hj:j<x.c
   · rw [lo hj] at hb
     have:=h.lt hb
     omega
   · obtain⟨q,hq,e,hp⟩:=back hj hb
     have g:=h2.lt hp
     obtain⟨n,l,E,oo⟩:=q
     have e2:M.k<=n:=(hrs hq).2.1
     have e1:ρ n=x.c+(n-M.k):=ρhi e2
     have e':ρ n=j:=e
     have g1:n<x1.c:=g.1
     exact⟨by omega,g.2⟩
noncomputable def ZhV:List Memo->List V->X->Option (V×X)
  | [],_,_=>none
  | M::r,xs,x=>match Zkn M xs x with
    |some p=>some p
    |none=>ZhV r xs x
noncomputable def ZgX(Ms:Nat->List Memo)(go:Nat->List V->X->Option (V×X))(f:Nat)(xs:List V)(x:X):Option (V×X):=match Ms f with
  | []=>go f xs x
  | M::r=>match ZhV (M::r) xs x with
    |some p=>some p
    |none=>go f xs x
noncomputable def ZfT(P:Program)(kp:Nat->Nat)(m:Nat)(Ms:Nat->List Memo):Nat->Kit
  |0=>⟨0,fun _ _ _=>none,fun _ _ _=>none⟩
  |n+1=>⟨m,ZgX Ms (evF (ZfT P kp m Ms n) P kp),evY (ZfT P kp m Ms n) P⟩
theorem Zda{f:Nat}{xs:List V}{x x':X}{v:V}:∀{l:List Memo},(∀M∈l,MOk P f M)->ZhV l xs x=some (v,x')->∀{w0:Base} {β:Env} {w:World} {us:List Value},HR w0 β x w->VRs β xs us->Calls P f us.toArray w (ZaK w0 β x.c v x')
 | [],_,h,_,_,_,_,_,_=>by cases h
 | M ::r,hM,h,w0,β,w,us,hr,hv=>by
   simp only [ZhV] at h
   split at h
   · rename_i p hp
     injection h with h;subst h
     exact hM M (by simp) hp hr hv
   · exact Zda (fun M' hm=>hM M' (by simp [hm])) h hr hv
theorem UV (hm:P.follows .mixedOrders=true) (kp:Nat->Nat) (m:Nat) {Ms:Nat->List Memo} (hM:∀f,∀M∈Ms f,MOk P f M):∀n,KOk P (ZfT P kp m Ms n)
 |0=>⟨fun h=>(by cases h),fun h=>(by cases h)⟩
 | n + 1 =>⟨fun {f xs x v x'} h=>fun {w0 β w us} hr hv=>by
     have h':ZgX Ms (evF (ZfT P kp m Ms n) P kp) f xs x=some (v,x'):=h
     unfold ZgX at h'
     split at h'
     · exact ZcG (UV hm kp m hM n) hm h' hr hv
     · rename_i M r hl
       split at h'
       · rename_i p hp
         injection h' with h';subst h'
         exact Zda (fun M' hm'=>hM f M' (by rw [hl];exact hm')) hp hr hv
       · exact ZcG (UV hm kp m hM n) hm h' hr hv,fun h=>fun {w0 β w us b c} hr hv hl=>Zgq (UV hm kp m hM n) hm h hr hv hl⟩
noncomputable def isB(b:Bool):Option (V×X)->Bool
  |some (.bool c,_)=>c==b
  |_=>false
theorem Zia(hK:KOk P K){f:Nat}{b:Bool}(he:isB b (K.call f [] ⟨T.mk 13,0⟩)=true)(w0:World):Calls P f #[] w0 fun e w=>e= .returned (.bool b)/\Sat w0 w []:=by
 unfold isB at he
 split at he
 · rename_i c x' hc
   have hr:HR ⟨w0,fun _=>False⟩ (fun _=>none) ⟨T.mk 13,0⟩ w0:=⟨⟨rfl,rfl,rfl,Nat.le_refl _,fun _ _ _=>rfl⟩,fun h=>(by cases h),fun h=>(by cases h),fun h=>(by cases h)⟩
   refine(hK.call hc hr (us:= []) .nil).mono fun e w hE=> ?_
   obtain⟨u,β',rfl,h1,h2,_⟩:=hE
   cases h1
   have:c=b:=by simpa using he
   subst this
   exact⟨rfl,⟨h2.below.os,h2.below.tape,h2.below.output,h2.below.size,fun k hk=>h2.below.block k hk (fun h=>h)⟩,by simp,by simp,.nil⟩
 · cases he
end
end Go.Proofs.Ev
namespace Go.Proofs.YtpnamgfdakfccaaGreat
open Go Go.RowKit Go.Proofs.Gw Go.Proofs.Ev
noncomputable def kpT(f:Nat):Nat:=Option.rec 0 (fun v=>v) (Go.Proofs.Ev.look [(6,255),(20,67108895),(21,633825302779092824621803232767),(22,2155618163),(23,8255),(24,27),(25,590300050076570014079),(45,23),(46,8590180735),(47,34359753981),(48,783),(49,19),(50,19),(51,15965),(52,4302962035),(53,31),(54,19),(55,11),(56,2239790331),(57,7),(58,4835703296969896544436733),(59,119),(60,69090643),(98,41904174945551653455341040668835947270620825710919647),(99,455),(100,55),(101,127),(102,66491),(103,134349427),(104,31),(105,21),(106,66483),(107,42535296023574879666274036850519702559),(108,5),(109,277027520455),(110,2269392032235773),(111,7),(112,13),(113,1254522720446663102451),(114,4358870495),(115,127),(116,549755937119),(117,31),(118,31),(119,66483),(120,23),(121,19),(122,1079827),(123,5),(124,1021),(125,19),(126,19),(127,7997),(128,31),(129,19),(130,31),(131,155),(147,66483),(173,62047),(174,223),(175,491823),(176,7897471),(177,66491),(178,15),(179,537399539),(180,11),(181,11),(182,604275),(183,31),(184,31),(185,17389),(186,17179886351),(187,8592039695),(188,35218731966223),(189,1333065575601045263),(190,33551),(191,21268317252094917911888073248812900111),(192,1217485249602318769183),(193,22997644815212700899627017342834150232570911),(194,277),(195,16661),(196,5),(197,7),(198,504373101),(199,1021),(200,23),(201,3),(202,63),(203,31),(204,223),(205,19),(206,19),(207,1967),(208,31),(209,159),(210,1180596265054542884863),(211,37439),(212,127),(213,7),(214,97654233660270262109953253766531127628137471),(215,66483),(216,42090112451430381175343947643),(217,7),(227,17179886351),(247,157),(248,19),(249,70368761188343),(250,19),(251,70368744178639),(252,32775),(253,5),(254,288231475663604767),(255,5),(256,5),(257,271),(258,4159),(259,7),(260,65619),(261,18014433942971335),(262,66483),(263,1484326079),(264,63),(265,31),(266,7),(267,10384593717069656409982772143259615),(268,7),(269,31),(270,7),(271,15),(296,19),(297,15),(298,1439),(299,270191),(300,42535296023574879666274036850519702559),(301,4197407),(302,17179886351),(303,13164839976634628298295110780136696778032692856359452003713154079),(304,1835325),(305,31),(306,83),(307,4119),(315,66483),(316,67108895),(317,8592039695),(318,35218731966223),(319,1333065575601045263),(320,33551),(321,21268317252094917911888073248812900111),(322,1217485249602318769183),(323,22997644815212700899627017342834150232570911),(324,9440287),(335,288231475663604767),(336,271),(337,4159),(338,9247),(342,4197407)] f)
noncomputable def x0T:X:=⟨(T.mk 13).set 0 (some (.cells [.int Oi 0,.int Oi 0,.int Oi 2,.int Oi 0,.int Oi 2,.int Oi 2,.int Oi 0,.int Oi 2] 73 none)),1⟩
noncomputable def mRv:Memo:=⟨[.s 0 0 4 4],1,x0T,.bool true, [],640⟩
noncomputable def MsT(f:Nat):List Memo:=Bool.rec [] [mRv] (Nat.beq f 58)
theorem ZnQ:Tryz.prog.follows .mixedOrders=true:=Oc
theorem Ziv:chkM (kit Om kpT 100000 60) 58 mRv=true:=Oc
theorem Znr(f:Nat)(M:Memo)(h:M∈MsT f):Ev.MOk Om f M:=by
 unfold MsT at h
 cases hb:Nat.beq f 58 with
 |false=>rw [hb] at h;cases h
 | true=>
   rw [hb] at h
   obtain rfl:M=mRv:=by simpa using h
   rw [show f=58 from Nat.eq_of_beq_eq_true hb]
   exact Zit (Zcz ZnQ kpT 100000 60) Ziv
theorem Znn:isB true ((ZfT Om kpT 100000 MsT 60).call 6 [] ⟨T.mk 13,0⟩)=true:=Oc
theorem Zhy(w0:World):Calls Om 6 #[] w0 fun e w=>e= .returned (.bool true)/\Sat w0 w []:=
 Zia (UV ZnQ kpT 100000 Znr 60) Znn w0
end Go.Proofs.YtpnamgfdakfccaaGreat
namespace Go.Proofs.YtpnamgfdakfccaaGreat
open Go Go.RowKit Go.Proofs.Gw
theorem Zkc:Zc Om 10=true:=Oc
theorem Zpi:Zc Om 6=true:=Oc
theorem Zph:Zc Om 7=true:=Oc
theorem Zpg:Zc Om 9=true:=Oc
theorem ZiS:Zs Om 34 0=some 0:=Oc
theorem ZiR:Zs Om 34 2=some 2:=Oc
theorem Znj(w0:World):Calls Om 6 #[] w0 fun e w=>∃v,e= .returned v/\v= .bool true/\Sat w0 w []:=(Zhy w0).mono fun e w h=>⟨_,h.1,rfl,h.2⟩
theorem ZfR{vL vD:Value}{p:Prob}(w0:World)(h:PAt w0 vL vD p):
   Calls Om 3 [.agg #[vL,vD,.int Oi p.stock,.int Oi p.kerf]].toArray w0 fun e w=>∃v,e= .returned v/\v= .bool true/\Sat w0 w []:=by
 obtain⟨hm,hm1,hd,hd1,hs,hk⟩:=h.Oq
 refine zenG Tryz.func3 Tryz.ntmps3 fun w hS=> ?_
 refine zsr<|zla (xbx (cs:= [_,_,_,_]) hS) ?_;rintro _ w ⟨g1,rfl,hS⟩
 refine(zP)<|zx5<|zlc (xc0 Zpi) (Znj w) ?_;rintro _ w ⟨rfl,hS'⟩
 replace hS:=hS.cmp hS';clear hS'
 refine(zP)<|zlt<|zcf<|zsk<|ztn<|zsq<|zsr ?_
 refine(zV (xls 0 Zdd hS))<|zlc (xc0 Zph) (Zju (p:=p) w (h.below hS.below)) ?_;rintro _ w ⟨rfl,hS'⟩
 replace hS:=hS.cmp hS';clear hS'
 refine(On)<|zlb 16 ?_ ?_<;>intro hc
 ·
  iterate 3 refine zlo ?_
  refine(zP)<|zlt<|zct<|zsr ?_
  refine(zP)<|zx14<|Oj ?_
  exact⟨rfl,hS.nl⟩
 refine(zV (xls 0 Zdd hS))<|zlc (xc0 Zog) (TN (p:=p) w (h.below hS.below)) ?_;rintro _ w ⟨rfl,hS'⟩
 replace hS:=hS.cmp hS';clear hS'
 refine(On)<|zlt<|Zf ?_ ?_<;>intro hc
 ·
  refine zsr<|(zP)<|zx14<|Oj ?_
  exact⟨rfl,hS.nl⟩
 refine ZY<|zlv (xls 0 Zdd hS) ?_
 have hok:p.Ok:=Oe
 refine zla (xal (cs:= [_,_,_,_]) Zgy hS) ?_;rintro _ w ⟨g2,rfl,hS⟩
 refine zle (xsw 1 st_27 hS (hd:=(Za h.L.slh.one (Za h.D.slh.one (Za rfl (Za rfl Zh)))))) ?_;clear hS;rintro w hS
 refine zlz<|(zV (xls 1 st_27 hS))<|zlc (xc0 Zpg) (Zg8 (p:=p) w (h.below hS.below)) ?_;rintro _ w ⟨av,yU,fG,jC,jG,jD,jj,je,jA,rfl,yd,aM,eV,eR,ed,hS'⟩
 replace hS:=(hS.comp hS').n5;clear hS'
 have jL:=fun j (j0:0<=j) (j1:j<fG)=>hS.slhIn 4 rfl j0 j1
 have fT:=SolR6.u yd
 refine(Oo)<|zla (xal (cs:= [_,_,_,_,_]) ZjV hS) ?_;rintro _ w ⟨g3,rfl,hS⟩
 refine zle (xsw 5 X2 hS (hd:=(Za rfl (Za ed.one (Za rfl (Za eV.one (Za eR.one Zh))))))) ?_;clear hS;rintro w hS
 refine(zP)<|zx5<|(On)<|zlt<|Zf ?_ ?_<;>intro hc
 ·
  refine zsr<|zlv xmv ?_
  obtain⟨hx1,hx2,hx3⟩:=yd.lim hok Oa
  refine(On)<|zx14<|Oj ?_
  exact⟨(YA Oa).symm,hS.nl⟩
 refine ZY<|zlv (xls 1 st_27 hS) ?_
 have he0:je=0:=Oa
 refine(zV (xfb 0 ZiS))<|(zV (xlb 5 pl_3 hS))<|zlv (xany (v:= .agg #[vL,vD,.int Oi p.stock,.int Oi p.kerf,.int Oi av]) (hr:=by obtain⟨_,_,_,_,rfl,_⟩:=h.L.slh;obtain⟨_,_,_,_,rfl,_⟩:=h.D.slh;kernel_rfl)) ?_
 refine zla (xal (cs:= [_,_,_,_,_]) ZbR hS) ?_;rintro _ w ⟨g4,rfl,hS⟩
 refine zle (xsw 6 Yg hS (hd:=(Za h.L.slh.one (Za h.D.slh.one (Za rfl (Za rfl (Za rfl Zh))))))) ?_;clear hS;rintro w hS
 refine zlz<|(zV (xls 6 Yg hS))<|(zV (xfb 2 ZiR))<|(zV (xlp 5 (ds:= [.int Oi yU.s,yU.vK,yU.vL]) st_32 hS))<|zlc (xc0 Zkc) (Zkf (t:=yU) (p:=p) (b:=av) w (h.below hS.below) (Tr.fr2_at yU aM (hS.holds (.sem (Tr.fr2 32 3 yU)) (by repeat first|exact List.mem_cons_self .. |apply List.mem_cons_of_mem))).1 (Tr.fr2_at yU aM (hS.holds (.sem (Tr.fr2 32 3 yU)) (by repeat first|exact List.mem_cons_self .. |apply List.mem_cons_of_mem))).2) ?_;rintro _ w ⟨rk1,k1,fk1,rfl,eE,e8,hS'⟩
 replace hS:=(hS.comp hS').n8;clear hS'
 refine zs3 ?_
 have hq1:=R6 yd hok he0 (SolR6.valid yd hok he0)
 refine(On)<|zlz<|(zV (xls 6 Yg hS))<|zla (xli (n:=2) (len:=2) (pv:= [(0,.int Oi 1),(1,.int Oi 1)]) (cs:= [.int Oi 1,.int Oi 1]) (c:=ints l11) Zb ZG hS) ?_;rintro v1 w ⟨hS,hv1⟩
 refine zlv (xany (v:= .agg #[.int Oi 0,Oh,v1]) (hr:=by obtain⟨_,_,_,_,rfl,_⟩:=hv1;kernel_rfl)) ?_
 refine zlc (xc0 Zkc) (Zkf (t:=Zdp v1 2 l11) (p:=p) (b:=av) w (h.below hS.below) (show KAt w (Zdp v1 2 l11) from⟨⟨VD _ _ _,by decide⟩,fun i i0 i1=>Oa⟩) (show LvAt w (Zdp v1 2 l11) from⟨⟨(⟨(hS.rowN 8 rfl),(fun k=>by have:=RK k;unfold ZC at this;omega)⟩:IAt _ _ 2 l11),(Ent.holds.roomy (hS.holds _ (List.mem_of_getElem? (i:=8) rfl))),by decide,by decide⟩,fun i i0 i1=>Oa⟩)) ?_;rintro _ w ⟨rk2,k2,fk2,rfl,ky,kO,hS'⟩
 replace hS:=(hS.comp hS').n10;clear hS'
 refine zs3 ?_
 have hq2:=R6 yd hok he0 (Zbu (vL:=v1))
 refine(On)<|zlz<|(Oo)<|zlb 51 ?_ ?_<;>intro hc
 ·
  refine zs4 ?_
  refine zx1<|Oj ?_
  exact⟨(YA Oa).symm,hS.nl⟩
 refine(zO)<|(zO)<|(On)<|zx1<|Oj ?_
 exfalso;first|omega|contradiction
end Go.Proofs.YtpnamgfdakfccaaGreat
namespace Go.Proofs.Gw
open Go Go.RowKit Go.ChangeShapes Go.WideShapes Go.ChangeAt
section
variable {H:Type} {enc:TypeId×Value->H} {P:Program} {w:World} {held:Bool}
def Small{H:Type}(P:Program)(t:TypeId)(d:DataW H):Prop:=(d.weights P t).all (· <=reachBytes)=true
theorem Te{ts:List TypeId}{ds:List (DataW H)}(h:(DataW.weightsEach P ts ds).all (· <=reachBytes)=true){j:Nat}{t:TypeId}{d:DataW H}(ht:ts[j]? =some t)(hd:ds[j]? =some d):Small P t d:=
 List.all_eq_true.2 fun n hn=>List.all_eq_true.1 h n (DataW.weights_mem_each ht hd n hn)
theorem KB{t:TypeId}{fs:Array Field}{parts:List (DataW H)}(h:Small P t (.agg parts))(hu:P.underlying t=some (.struct fs)){j:Nat}{u:TypeId}{d:DataW H}(ht:(fs.toList.map (·.type))[j]? =some u)(hd:parts[j]? =some d):Small P u d:=by
 unfold Small at h
 simp only [DataW.weights,hu] at h
 exact Te h ht hd
theorem Rn{e:TypeId}:∀{ds:List (DataW H)},(DataW.weightsAll P e ds).all (· <=reachBytes)=true->∀d∈ds,Small P e d
 | [],_,d,hd=>by cases hd
 | x::r,h,d,hd=>by
   simp only [DataW.weightsAll,List.all_append,Bool.and_eq_true] at h
   rcases List.mem_cons.1 hd with rfl|hd
   · exact h.1
   · exact Rn h.2 d hd
theorem ZaY{t e:TypeId}{elems spare:List (DataW H)}(h:Small P t (.slice elems spare))(hu:P.underlying t=some (.slice e)):(elems.length+spare.length)*P.bytesOf e<=reachBytes/\∀d∈elems,Small P e d:=by
 unfold Small at h
 simp only [DataW.weights,hu,List.all_cons,List.all_append,Bool.and_eq_true,decide_eq_true_eq] at h
 exact⟨h.1,Rn h.2.1⟩
theorem Zce{n:Int}(h:(Lit.int .i64 n).wf=true): -9223372036854775808<=n/\n<=9223372036854775807:=by
 simp only [Lit.wf,Bool.and_eq_true,decide_eq_true_eq] at h
 have h1:IntKind.i64.min= -9223372036854775808:=by decide
 have h2:IntKind.i64.max=9223372036854775807:=by decide
 omega
theorem Zeb{a:Addr}{v:Value}(h:w.cell? a=some v):a.spot=none:=World.cell?_spot h
end
end Go.Proofs.Gw
namespace Go.Proofs.Gw
open Go Go.RowKit Go.ChangeShapes Go.WideShapes Go.ChangeAt
section
variable {H:Type} {enc:TypeId×Value->H} {P:Program} {w:World} {held:Bool}
def Rd{H:Type}(enc:TypeId×Value->H)(P:Program)(w:World)(held:Bool)(t:TypeId)(cs:List Value):Prop:=∃fuel y,DataW.trod enc P w 0 (fun _=>true) held fuel t cs=some y/\Small P t y.1
theorem Rd.int{k:IntKind}{t:TypeId}{cs:List Value}(h:Rd enc P w held t cs)(ht:P.underlying t=some (.int k)):∃n,cs= [.int k n]/\(Lit.int k n).wf=true:=by
 obtain⟨fuel,y,h,_⟩:=h
 obtain⟨n,h1,_,h2⟩:=DataW.trod_int ht h
 exact⟨n,h1,h2⟩
theorem Rd.intv{k:IntKind}{t:TypeId}{v:Value}(h:Rd enc P w held t [v])(ht:P.underlying t=some (.int k)):∃n,v= .int k n/\(Lit.int k n).wf=true:=by
 obtain⟨n,h1,h2⟩:=h.int ht
 exact⟨n,by simpa using h1,h2⟩
theorem Rd.struct{fs:Array Field}{t:TypeId}{cs:List Value}(h:Rd enc P w held t cs)(ht:P.underlying t=some (.struct fs)):∀(j:Nat) (f:Field),fs[j]? =some f->Rd enc P w held f.type ((cs.drop f.offset).take (P.cellsOf f.type)):=fun j f hf=>by
 obtain⟨fuel,y,h,hs⟩:=h
 obtain⟨xs,n,_,rfl,hl,xa,hx⟩:=DataW.trod_struct ht h
 have hj:j<xs.length:=by rw [xa];exact(Array.getElem?_eq_some_iff.1 hf).1
 have h1:=hx j f hf
 rw [List.getElem?_eq_getElem hj] at h1
 exact⟨n,_,h1,KB (j:=j) hs ht (by simp [hf]) (by simp [hj])⟩
theorem Rd.len{fs:Array Field}{t:TypeId}{cs:List Value}(h:Rd enc P w held t cs)(ht:P.underlying t=some (.struct fs)):cs.length=P.cellsOf t:=by
 obtain⟨fuel,y,h,hs⟩:=h
 obtain⟨xs,n,_,rfl,hl,xa,hx⟩:=DataW.trod_struct ht h
 exact hl
theorem Rd.slice {t e:TypeId} {s b:Nat} {v:Value} (h:Rd enc P w held t [v]) (ht:P.underlying t=some (.slice e)) (ce:P.cellsOf e=s) (be:P.bytesOf e=b) (hs1:1<=s) (hsb:s<=b):
   ∃(n:Int) (c:Int->Value),Row w v s n c/\b*n<=140737488351232/\∀i:Int,0<=i->i<n->Rd enc P w held e ((List.range s).map fun j:Nat=>c (i*s+j)):=by
 obtain⟨fuel,y,h,hs⟩:=h
 rcases Go.Deep.open_slice ht h with⟨hcs,_⟩|⟨a,len,cap,m,n,D,Pl,hcs,_,hl,hm,hmm,hy,hx⟩
 · simp only [List.cons.injEq,and_true] at hcs
   subst hcs
   exact⟨0,fun _=>undef,⟨⟨by omega,Oa,none,0,rfl,.inl rfl⟩,fun k hk=>by rw [Int.zero_mul] at hk;omega⟩,Oa,fun i a0 a1=>Oa⟩
 · simp only [List.cons.injEq,and_true] at hcs
   subst hcs
   simp only [if_true] at hmm
   subst hmm
   rw [hy] at hs
   have hsm:=ZaY hs ht
   have hb1:=hsm.1
   rw [be] at hb1
   simp only [List.length_map,List.length_range] at hb1
   have h2:len*b<=(len+(m-len))*b:=Nat.mul_le_mul_right _ Oa
   have h3:len*b<=140737488351232:=by unfold reachBytes at hb1;omega
   have h4:len*1<=len*b:=Nat.mul_le_mul_left _ Oa
   rw [ce] at hx
   have e0:∀i:Nat,∃cs':List Value,i<len->w.cells? 0 (a.add (i*s)) s=some cs'/\DataW.trod enc P w 0 (fun _=>true) held n e cs'=some (D i,Pl i):=fun i=>by
     by_cases hi:i<len
     · obtain⟨cs',h5,h6⟩:=hx i Oa
       exact⟨cs',fun _=>⟨h5,h6⟩⟩
     · exact⟨[],fun h=>absurd h hi⟩
   obtain⟨C,hC⟩:=Classical.axiomOfChoice e0
   have ev:0<len->a.spot=none:=fun h0=>by
     obtain⟨_,h7,h8⟩:=World.cells?_some (hC 0 h0).1
     have h9:=h8 0 Oa
     rw [List.getElem?_eq_getElem Oa] at h9
     have h10:=Zeb h9
     simpa [Addr.add] using h10
   refine⟨len,fun k=>(C (k/s).toNat).getD (k%s).toNat undef,⟨⟨by omega,Oa,some a,m,by simp,?_⟩,fun j hj=> ?_⟩,?_,fun i i0 i1=> ?_⟩
   · by_cases hl0:len=0
     · left;omega
     · right
       have hsp:=ev Oa
       exact⟨a.block,a.off,by cases a;simp at hsp;simp [hsp]⟩
   · have hjs:j<len*s:=by rw [<-Int.natCast_mul] at hj;omega
     have hi:j/s<len:=(Nat.div_lt_iff_lt_mul Oa).2 hjs
     have eS:0<len:=Nat.lt_of_le_of_lt (Nat.zero_le _) hi
     have hsp:=ev eS
     obtain⟨_,h7,h8⟩:=World.cells?_some (hC (j/s) hi).1
     have hr:j%s<s:=Nat.mod_lt _ Oa
     have h9:=h8 (j%s) hr
     rw [Addr.add_eq a hsp,Addr.add_eq _ rfl] at h9
     have e1:((j:Int)/(s:Int)).toNat=j/s:=by rw [<-Int.natCast_ediv,Int.toNat_natCast]
     have e2:((j:Int)%(s:Int)).toNat=j%s:=by rw [<-Int.natCast_emod,Int.toNat_natCast]
     have e3:a.off+j/s*s+j%s=a.off+j:=by rw [Nat.add_assoc,Nat.mul_comm,Nat.div_add_mod]
     rw [List.getElem?_eq_getElem Oa] at h9
     simp only [e1,e2,List.getD_eq_getElem?_getD]
     rw [List.getElem?_eq_getElem Oa]
     simp only [cad,Int.toNat_natCast,Option.getD_some]
     simp only [e3] at h9
     exact h9
   · have:((len*b:Nat):Int)=b*len:=by rw [Int.natCast_mul,Int.mul_comm]
     omega
   · obtain⟨k,rfl⟩:=Int.eq_ofNat_of_zero_le i0
     have hk:k<len:=Oa
     obtain⟨h5,h6⟩:=hC k hk
     obtain⟨_,h7,h8⟩:=World.cells?_some h5
     have e:((List.range s).map fun j:Nat=>(C (((k:Int)*(s:Int)+(j:Int))/(s:Int)).toNat).getD (((k:Int)*(s:Int)+(j:Int))%(s:Int)).toNat undef)=C k:=by
       apply List.ext_getElem
       · simp [h7]
       · intro j hj1 hj2
         rw [List.getElem_map,List.getElem_range]
         have hjs:j<s:=by simpa using hj1
         have e0:((k:Int)*(s:Int)+(j:Int))=((k*s+j:Nat):Int):=by rw [Int.natCast_add,Int.natCast_mul]
         have e1:(((k*s+j:Nat):Int)/(s:Int)).toNat=k:=by
           rw [<-Int.natCast_ediv,Int.toNat_natCast,Nat.mul_comm,Nat.mul_add_div Oa,Nat.div_eq_of_lt hjs,Nat.add_zero]
         have e2:(((k*s+j:Nat):Int)%(s:Int)).toNat=j:=by
           rw [<-Int.natCast_emod,Int.toNat_natCast,Nat.mul_comm,Nat.mul_add_mod,Nat.mod_eq_of_lt hjs]
         rw [e0,e1,e2,List.getD_eq_getElem?_getD,List.getElem?_eq_getElem hj2,Option.getD_some]
     rw [e]
     exact⟨n,_,h6,hsm.2 (D k) (List.mem_map.2 ⟨k,List.mem_range.2 hk,rfl⟩)⟩
theorem Rd.field{fs:Array Field}{t u:TypeId}{cs ds:List Value}(h:Rd enc P w held t cs)(ht:P.underlying t=some (.struct fs))(j:Nat){f:Field}(hf:fs[j]? =some f){k:Nat}(hu:f.type=u)(hk:P.cellsOf u=k)(hd:(cs.drop f.offset).take k=ds):Rd enc P w held u ds:=by
 subst hu;subst hd;rw [<-hk];exact h.struct ht j f hf
theorem Zck{cs:Array Value}{l:List Value}(h:cs.toList=l):cs=l.toArray:=by subst h;simp
theorem Rd.arg{t:TypeId}{v:Value}{d:DataW H}{p:List MemPlace}(h:DataW.Trod enc P w 0 (fun _=>true) held t v d p)(hs:Small P t d):Rd enc P w held t v.cells.toList:=by
 obtain⟨fuel,hf⟩:=h
 exact⟨fuel,_,hf,hs⟩
theorem ZnR{cs:List Value}(h:cs.length=4):∃a b c d,cs= [a,b,c,d]:=by match cs,h with| [a,b,c,d],_=>exact⟨_,_,_,_,rfl⟩
theorem Rd.nums{k:IntKind}{t e:TypeId}{b:Nat}{v:Value}(h:Rd enc P w held t [v])(ht:P.underlying t=some (.slice e))(he:P.underlying e=some (.int k))(hc:P.cellsOf e=1)(hb:P.bytesOf e=b)(hb1:1<=b):
   ∃(n:Int) (f:Of),Row w v 1 n (fun j=> .int k (f j))/\b*n<=140737488351232/\∀j,(Lit.int k (f j)).wf=true:=by
 obtain⟨n,c,h1,h2,h3⟩:=h.slice ht hc hb Oa hb1
 have h0:(Lit.int k 0).wf=true:=by cases k<;>decide
 have e0:∀i:Int,∃x:Int,(Lit.int k x).wf=true/\(0<=i->i<n->c i= .int k x):=fun i=>by
   by_cases hi:0<=i/\i<n
   · have h4:=h3 i hi.1 hi.2
     simp only [List.range_one,List.map_cons,List.map_nil] at h4
     obtain⟨x,hx,hw⟩:=h4.intv he
     refine⟨x,hw,fun _ _=> ?_⟩
     rw [<-hx];congr 1;omega
   · exact⟨0,h0,fun a0 a1=>absurd ⟨a0,a1⟩ hi⟩
 obtain⟨f,hf⟩:=Classical.axiomOfChoice e0
 exact⟨n,f,h1.congr fun i i0 i1=>(hf i).2 i0 Oa,h2,fun j=>(hf j).1⟩
theorem Rd.ints{t e:TypeId}{v:Value}(h:Rd enc P w held t [v])(ht:P.underlying t=some (.slice e))(he:P.underlying e=some (.int .i64))(hc:P.cellsOf e=1)(hb:P.bytesOf e=8):∃(n:Int) (f:Of),IAt w v n f:=by
 obtain⟨n,f,h1,_,h2⟩:=h.nums ht he hc hb Oa
 exact⟨n,f,h1,fun k=>Zce (h2 k)⟩
end
end Go.Proofs.Gw
