/- Part 3 of the texts that the proof needs. -/
import Derived.Test.YtopmifmfecfaaaaMwB
import Derived.Laws.StructEq
import Derived.ArgAppend
import Derived.RangeFuncBox
import Derived.RangeFuncLeaves
import Derived.OrdersIn
set_option linter.unusedVariables false
set_option linter.unusedSimpArgs false
namespace Go.Proofs.Gw
open Go Go.RowKit
def Ro(v:Value)(q:Nat):Value:=match v with
  | .slice a _ cap=> .slice a q cap
  |u=>u
section
variable {P:Program} {L:List (Nat×Value)} {w w0:World} {o:Oper} {x y z:Operand} {T T':TypeId} {l:List Ent} {E:TypeId}
theorem Ks{v:Value}{n:Int}{q:Nat}(h:Slh v n)(hq:(q:Int)<=n):Slh (Ro v q) q:=by
  obtain⟨h0,h1,a,cap,rfl,hz⟩:=h
  refine⟨by omega,by omega,a,cap,rfl,?_⟩
  rcases hz with hz|hz
  · left;omega
  · exact .inr hz
theorem Kt{v:Value}{n:Int}{q:Nat}{c:Int->Value}(h:Row w v 1 n c)(hq:(q:Int)<=n):Row w (Ro v q) 1 q c:=by
  refine⟨Ks h.slh hq,fun k hk=> ?_⟩
  have h2:=h.2 k (by omega)
  obtain⟨_,_,a,cap,rfl,_⟩:=h.slh
  cases a<;>exact h2
theorem T8{v:Value}{n i:Int}(q:Nat)(ht:Zo P T=some (E,1))(hv:Slh v n)(hq:(q:Int)=i:=by omega)(hn:0<n:=by omega)(h1:i<=n:=by omega)(ho:o.op= .slice T x (some y) none none:=by exact rfl)(hx:evL L x=some v:=by exact rfl)(hy:evL L y=some (.int .i64 i):=by exact rfl):
    Runs P L w o (.value (Xs v q)) w:=fun ρ h=>by
  obtain⟨hu,inf,hin,hsz⟩:=Zu ht
  obtain⟨_,_,a,cap,rfl,hz⟩:=hv
  subst hq
  have hb:(Instr.sliceBounds true n.toNat cap (some (.int .i64 (q:Int))) none none).run P w= .ok (q,n.toNat,cap) w:=by
    simp [Instr.sliceBounds,Instr.sliceBound,asIntOf]
    omega
  have e:(Instr.sliceAt T (.slice a n.toNat cap) (some (.int .i64 (q:Int))) none none).run P w= .ok (Xs (.slice a n.toNat cap) q) w:=by
    unfold Instr.sliceAt
    simp only [Sem.run_bind,run_underlying hu,Result.andThen_ok,Instr.slice,hb]
    simp [sizeOf,typeInfo,hin,hsz,Xs]
    rcases hz with hz|⟨b,off,rfl⟩
    · omega
    · by_cases hc:cap=q
      · simp [hc]
      · simp [hc,Addr.add_eq]
  simp [execOp,ho,h _ _ hx,h _ _ hy,e]
theorem ZaG{v:Value}{n i:Int}(q:Nat)(ht:Zo P T=some (E,1))(hv:Slh v n)(hr:Yn v)(hq:(q:Int)=i:=by omega)(hn:0<n:=by omega)(h1:i<=n:=by omega)(ho:o.op= .slice T x none (some y) none:=by exact rfl)(hx:evL L x=some v:=by exact rfl)(hy:evL L y=some (.int .i64 i):=by exact rfl):
    Runs P L w o (.value (Ro v q)) w:=fun ρ h=>by
  obtain⟨hu,inf,hin,hsz⟩:=Zu ht
  obtain⟨_,_,a,cap,rfl,hz⟩:=hv
  have hc:=hr _ _ _ rfl
  subst hq
  have hb:(Instr.sliceBounds true n.toNat cap none (some (.int .i64 (q:Int))) none).run P w= .ok (0,q,cap) w:=by
    simp [Instr.sliceBounds,Instr.sliceBound,asIntOf]
    omega
  have e:(Instr.sliceAt T (.slice a n.toNat cap) none (some (.int .i64 (q:Int))) none).run P w= .ok (Ro (.slice a n.toNat cap) q) w:=by
    unfold Instr.sliceAt
    simp only [Sem.run_bind,run_underlying hu,Result.andThen_ok,Instr.slice,hb]
    rcases hz with hz|⟨b,off,rfl⟩
    · omega
    · simp [sizeOf,typeInfo,hin,hsz,Ro,Addr.add]
  simp [execOp,ho,h _ _ hx,h _ _ hy,e]
def cpy(q:Nat)(r:Int)(d c:Int->Value):Int->Value:=fun k=>if(q:Int)<=k/\k<q+r then d (k-q) else c k
theorem Wo{v D u:Value}{n m r:Int}{q:Nat}{c d:Int->Value}(i:Nat)(ho:o.op= .call {callee:= .builtin .copy,args:= #[x,y],argTypes:= #[T,T']})(ht:Zo P T=some (E,1))(hx:evL L x=some D)(hy:evL L y=some u)(hS:Sat w0 w l)(hi:l[i]? =some (.own v 1 E n c))(hD:D=Xs v q\/(D=v/\q=0))
    (hR:Row w u 1 m d) (hq:(q:Int)<n) (hm:0<m) (hr:r=min (n-q) m) (h1:∀k,0<=k->k<m->(d k).oneCell'=true):
    ∃rv w',Runs P L w o (.value rv) w'/\rv= .int .i64 r/\Sat w0 w' (l.set i (.own v 1 E n (cpy q r d c))):=by
  obtain⟨hu,inf,hin,hsz⟩:=Zu ht
  have hS':=hS
  rw [ZR hi] at hS'
  rw [Yx hi]
  have hsize:(P.info? E).map (·.size)=some 1:=by rw [hin];simp [hsz]
  have hg:=hS'.get
  obtain⟨_,_,a,cap,rfl,hz⟩:=hR.slh
  rcases hz with hz|⟨b,off,rfl⟩
  · omega
  obtain⟨_,_,⟨rfl,hz⟩|⟨g,cap',cur,rfl,hh,h2,h3,h4,h5⟩⟩:=hg
  · omega
  obtain⟨dCap,rfl⟩:∃dCap,D= .slice (some ⟨g,q,none⟩) (n.toNat-q) dCap:=by
    rcases hD with rfl|⟨rfl,rfl⟩
    · exact⟨cap'-q,by unfold Xs;dsimp only;rw [if_neg (by omega)];simp⟩
    · exact⟨cap',by simp⟩
  have done:∀{w':World} (r:Value),(Builtin.copy_ #[T,T'] 0 #[.slice (some ⟨g,q,none⟩) (n.toNat-q) dCap,.slice (some ⟨b,off,none⟩) m.toNat cap]).run P w= .ok r w'->Runs P L w o (.value r) w':=fun r hr ρ h=>by
    have hr':∀ty,(Builtin.copy_ #[T,T'] ty #[.slice (some ⟨g,q,none⟩) (n.toNat-q) dCap,.slice (some ⟨b,off,none⟩) m.toNat cap])=Builtin.copy_ #[T,T'] 0 #[.slice (some ⟨g,q,none⟩) (n.toNat-q) dCap,.slice (some ⟨b,off,none⟩) m.toNat cap]:=fun _=>rfl
    simp [execOp,ho,resolve,invoke,builtin,h _ _ hx,h _ _ hy,hr',hr]
  have hl:=Zp d r.toNat
  have hr:=run_copy_row (P:=P) w T T' 0 E g q (n.toNat-q) dCap ⟨b,off,none⟩ m.toNat cap cur E (cellsOf d r.toNat) hu hsize hh (by rw [hl];show r.toNat=min m.toNat (n.toNat-q);omega) (fun j t hj=>by
    rw [cellsOf_get] at hj
    split at hj
    · rename_i hlt
      cases hj
      have:=hR.2 j (by omega)
      rw [Addr.add_eq _ rfl]
      simpa [cad] using this
    · cases hj) (by rw [hl,h4];omega) (fun t ht=>by
    obtain⟨j,hj⟩:=List.getElem?_of_mem ht
    rw [cellsOf_get] at hj
    split at hj
    · cases hj;exact h1 _ (by omega) (by omega)
    · cases hj)
  rw [hl] at hr
  refine⟨_,_,done _ hr,by simp [goInt];omega,?_⟩
  refine hS'.turn (fun k _ hk=> ?_) rfl rfl rfl (by simp [World.setRow]) ⟨by omega,by omega,.inr ⟨g,cap',_,rfl,setRow_heap w g cur _ E _ hh,h2,h3,?_,fun k hk=> ?_⟩⟩ (fun _ h=> .inl h)
  · have:k≠g:=fun e=>hk (by rw [e];rfl)
    simp [World.setRow,Array.getElem?_modify,Ne.symm this]
  · simp [hl,h4];omega
  · have hk':k<n.toNat:=by omega
    have h6:=h5 k hk
    have ht:(cur.toList.take q).length=q:=by simp [h4];omega
    show(cur.toList.take q++cellsOf d r.toNat++cur.toList.drop (q+r.toNat)).toArray[k]? =_
    rw [List.getElem?_toArray]
    unfold cpy
    by_cases k1:k<q
    · rw [if_neg (by omega),List.getElem?_append_left (by rw [List.length_append,ht];omega),List.getElem?_append_left (by omega),List.getElem?_take,if_pos k1,Array.getElem?_toList];exact h6
    · by_cases k2:k<q+r.toNat
      · rw [if_pos (by omega),List.getElem?_append_left (by rw [List.length_append,ht,hl];omega),List.getElem?_append_right (by omega),ht,cellsOf_get,if_pos (by omega),show(((k-q:Nat)):Int)=(k:Int)-q by omega]
      · rw [if_neg (by omega),List.getElem?_append_right (by rw [List.length_append,ht,hl];omega),List.length_append,ht,hl,List.getElem?_drop,Array.getElem?_toList,show q+r.toNat+(k-(q+r.toNat))=k by omega];exact h6
end
end Go.Proofs.Gw
namespace Go.Proofs.Ytopmifmfecfaaaa
open Go Go.RowKit Go.Proofs.Gw
theorem Zco:Zd Try.prog 36=true:=by kernel_rfl
theorem Zcn:Zd Try.prog 37=true:=by kernel_rfl
theorem cl_38:Zd Try.prog 38=true:=by kernel_rfl
theorem Zcm:Zd Try.prog 39=true:=by kernel_rfl
theorem Zcl:Zd Try.prog 40=true:=by kernel_rfl
theorem Zck:Zd Try.prog 41=true:=by kernel_rfl
theorem Zcb:Zd Try.prog 73=true:=by kernel_rfl
theorem Ry:Try.prog.underlying 112=some (.int .u64):=by kernel_rfl
theorem ZcM:Try.prog.underlying 3=some (.int .i64):=by kernel_rfl
theorem ZaK:(Try.prog.underlying 112).isSome=true:=by kernel_rfl
theorem ZbU:(Try.prog.underlying 3).isSome=true:=by kernel_rfl
theorem Sat.oldblk{w0 w:World}{l:List Ent}{g:Nat}{cs:List Value}(hS:Sat w0 w l)(h:(Ent.blk g cs).holds w0):(Ent.blk g cs).holds w:=by
  obtain⟨T,h⟩:=h
  exact⟨T,by rw [hS.below.block g (by rw [Array.getElem?_eq_some_iff] at h;exact h.1)];exact h⟩
theorem ZcE{L:List (Nat×Value)}{w0 w:World}{l:List Ent}{o:Oper}{x:Operand}{T:TypeId}{k g:Nat}{cs:List Value}(ht:Zv Try.prog T=some k)(h:(Ent.blk g cs).holds w0)(hS:Sat w0 w l)(ho:o.op= .load T x:=by exact rfl)
    (hx:evL L x=some (.pointer (some ⟨g,0,none⟩)):=by exact rfl) (hk:cs.length=k:=by exact rfl):Runs Try.prog L w o (.value (.agg cs.toArray)) w:=Wn ho (by rw [ht,hk]) hx (Sat.oldblk hS h).cells
set_option maxRecDepth 20000 in
theorem Zac{vL vD:Value}{p:Prob}{gp:Nat}{vA:Value}{n:Int}{f:Int->Int}(w0:World)(hG:(Ent.blk gp [vL,vD,.int .i64 p.stock,.int .i64 p.kerf]).holds w0)(h:PAt w0 vL vD p)(hA:Row w0 vA 1 n (ints f)):
    Calls Try.prog 36 [vA,.pointer (some ⟨gp,0,none⟩)].toArray w0 fun e w=>∃v,e= .returned v/\v=B (¬ZN p n f)/\Sat w0 w []:=by
  refine Zn Try.func36 Try.ntmps36 fun w hS=> ?_
  refine zsr ?_
  refine zlv xas ?_
  refine zlz ?_
  refine zlv (ZcE YX hG hS) ?_
  refine zlv xmv ?_
  refine zlc (xc0 Zcn) (T1 (p:=p) w (h.below hS.below) (hA.below hS.below)) ?_;rintro _ w ⟨rfl,hS'⟩
  replace hS:=hS.cmp hS';clear hS'
  refine zs2 ?_
  refine zx1<|zf1 ⟨_,rfl,?_⟩
  exact⟨rfl,hS⟩
theorem R9{vL vD:Value}{p:Prob}{gp:Nat}{vM:Value}{u:Int}{mv:Int->Value}{ml:Int->Int}{mf:Int->Int->Int}(w0:World)(hG:(Ent.blk gp [vL,vD,.int .i64 p.stock,.int .i64 p.kerf]).holds w0)(h:PAt w0 vL vD p)(hM:MAt w0 vM u mv ml mf):
    Calls Try.prog 69 [vM,.func (.func 36) #[] #[.pointer (some ⟨gp,0,none⟩)]].toArray w0 fun e w=>∃v,e= .returned v/\∃r:Int,v= .int .i64 r/\((r= -1/\∀k,0<=k->k<u->¬(¬ZN p (ml k) (mf k)))\/(0<=r/\r<u/\(¬ZN p (ml r) (mf r))))/\Sat w0 w []:=by
  have hn:=hM.row.slh.n0;have hn1:=hM.row.slh.n1
  refine Zn Try.func69 Try.ntmps69 fun w hS=> ?_
  refine zsr ?_
  refine zlv xas ?_
  refine zx5 ?_
  refine zlv xmv ?_
  refine zlv (xln sl_32 hM.row.slh) ?_
  refine zlv xmv ?_
  refine zx6<|zlp (fun mm M w=>∃(i:Int),mm=((u-i).toNat)/\(0<=i)/\(i<=u)/\(∀k,0<=k->k<i->¬(¬ZN p (ml k) (mf k)))/\M= [(0,vM),(1,.func (.func 36) #[] #[.pointer (some ⟨gp,0,none⟩)]),(7,.int .i64 u),(8,.int .i64 i)]/\Sat w0 w []) ⟨0,rfl,(by omega),(by omega),?_,rfl,hS⟩ ?_
  ·
   intro k h0 h1;omega
  clear hS w
  rintro mm M w ⟨i,rfl,h0,h1,hall,rfl,hS⟩
  refine zsr ?_
  refine zlv Zk ?_
  refine zlt<|zsq ?_
  refine zcif ?_ ?_<;>intro hc
  ·
   refine zx3 ?_
   refine zs2 ?_
   refine zlz ?_
   refine zs3 ?_
   refine zlv (xix (kk:=i) sl_32 hM.row.slh) ?_
   refine zlv (xlr (u:=(mv i)) pl_22 (hM.row.below hS.below)) ?_
   refine zlc (xcc (vs:= [_]) Zco) (Zac (p:=p) w (Sat.oldblk hS hG) (h.below hS.below) ((hM.p i (by omega) (by omega)).below hS.below)) ?_;rintro _ w ⟨rfl,hS'⟩
   replace hS:=hS.cmp hS';clear hS'
   refine zlt ?_
   refine zcif ?_ ?_<;>intro hc
   ·
    refine zsr ?_
    refine zs2 ?_
    refine zx2<|zf1 ⟨_,rfl,?_⟩
    exact⟨i,rfl,.inr ⟨by omega,by omega,‹¬ZN p (ml i) (mf i)›⟩,hS⟩
   refine zx4 ?_
   refine zlv (xadd (r:=i+1)) ?_
   refine zlv xmv ?_
   refine zln<|zlq ⟨i+1,rfl,(by omega),(by omega),?_,rfl,hS⟩
   ·
    intro k h0' h1';rcases Int.lt_or_eq_of_le (show k<=i by omega) with hk|hk;exact hall k h0' hk;rw [hk];assumption
  refine zx8 ?_
  refine zlv xas ?_
  refine zx1<|zf1 ⟨_,rfl,?_⟩
  exact⟨-1,rfl,.inl ⟨rfl,fun k h0 h1=>hall k h0 (by omega)⟩,hS⟩
theorem Ka{vL vD:Value}{p:Prob}{gp:Nat}{vM:Value}{u:Int}{mv:Int->Value}{ml:Int->Int}{mf:Int->Int->Int}(w0:World)(hG:(Ent.blk gp [vL,vD,.int .i64 p.stock,.int .i64 p.kerf]).holds w0)(h:PAt w0 vL vD p)(hM:MAt w0 vM u mv ml mf):
    Calls Try.prog 35 [vM,.func (.func 36) #[] #[.pointer (some ⟨gp,0,none⟩)]].toArray w0 fun e w=>∃v,e= .returned v/\v=B (∃k,0<=k/\k<u/\(¬ZN p (ml k) (mf k)))/\Sat w0 w []:=by
  refine Zn Try.func35 Try.ntmps35 fun w hS=> ?_
  refine zsr ?_
  refine zlv xas ?_
  refine zlz ?_
  refine zs2 ?_
  refine zlc (xc0 RW) (R9 w (Sat.oldblk hS hG) (h.below hS.below) (hM.below hS.below)) ?_;rintro _ w ⟨r1,rfl,hr1,hS'⟩
  replace hS:=hS.cmp hS';clear hS'
  refine zs2 ?_
  refine zx1<|zf1 ⟨_,rfl,?_⟩
  exact⟨Zw (by
   rcases hr1 with⟨h1,h2⟩|⟨h1,h2,h3⟩
   · exact⟨fun h=>by omega,fun⟨k,h4,h5,h6⟩=>absurd h6 (h2 k h4 h5)⟩
   · exact⟨fun _=>⟨_,h1,h2,h3⟩,fun _=>h1⟩),hS⟩
def cpyI(q:Nat)(r:Int)(d c:Int->Int):Int->Int:=fun k=>if(q:Int)<=k/\k<q+r then d (k-q) else c k
theorem Wt(q:Nat)(r:Int)(d c:Int->Int):cpy q r (ints d) (ints c)=ints (cpyI q r d c):=by
  funext k
  by_cases h:(q:Int)<=k/\k<q+r
  · simp only [cpy,ints,cpyI,if_pos h]
  · simp only [cpy,ints,cpyI,if_neg h]
theorem Zcy(n:Int)(h:0<=n/\n<=1000000)(w0:World):Calls Try.prog 73 [.int .u64 1,.int .u64 n].toArray w0 fun e w=>∃v,e= .returned v/\v= .tuple #[.int .u64 0,.int .u64 n]/\Sat w0 w []:=by
  obtain⟨k,rfl⟩:=Int.eq_ofNat_of_zero_le h.1
  have hm:=Try.bits_Mul 1 k (by decide) (by omega) w0
  refine hm.mono fun e w ⟨he,hw⟩=>⟨_,he,?_,by rw [hw];exact Sat.start _⟩
  rw [Nat.one_mul,Nat.div_eq_of_lt (by omega),Nat.mod_eq_of_lt (by omega)];rfl
set_option maxRecDepth 20000 in
theorem R7{v:Value}{f:Int->Int}{n:Int}(w0:World)(hR:Row w0 v 1 1 (ints f))(hn:1<=n/\n<=1000):
    Calls Try.prog 40 [v,.int .i64 n].toArray w0 fun e w=>∃v,e= .returned v/\∃r,v=r/\Slh r n/\Sat w0 w [.own r 1 3 n (ints fun _=>f 0)]:=by
  refine Zn Try.func40 Try.ntmps40 fun w hS=> ?_
  refine zsr ?_
  refine zlv xas ?_
  refine zx5 ?_
  refine zlv xmv ?_
  refine zlv (xkf Zk) ?_
  refine zlt<|zcf<|zsk<|ztn<|zsr ?_
  refine zlv xmv ?_
  refine zlv (xln sl_22 hR.slh) ?_
  refine zlv (xcv ZbU Ry) ?_
  refine zlv xmv ?_
  refine zlv (xcv ZbU Ry) ?_
  refine zlc (xc0 Zcb) (Zcy n (by omega) w) ?_;rintro _ w ⟨rfl,hS'⟩
  replace hS:=hS.cmp hS';clear hS'
  refine zs5 ?_
  refine zx5 ?_
  refine zlv xmv ?_
  refine zlv (xkf xgtr) ?_
  refine zs2 ?_
  refine zlv (xkf xgtr) ?_
  refine zlv xpf ?_
  refine zlt<|zcf<|zsk<|ztn<|zsr ?_
  refine zlv xmv ?_
  refine zlv (xcv ZaK ZcM) ?_
  refine zla (xmk sl_22 ZG hS) ?_;rintro v1 w ⟨hS,hv1⟩
  replace hS:=hS.n1
  refine zlv xas ?_
  refine zlz ?_
  refine zs2 ?_
  refine Kk rfl rfl rfl (Wo (q:=0) (r:=1) 0 rfl sl_22 rfl rfl hS rfl (.inr ⟨rfl,rfl⟩) (hR.below hS.below) (by omega) (by omega) (by omega) (fun _ _ _=>rfl)) ?_;rintro _ w ⟨rfl,hS⟩
  replace hS:=hS.n1
  replace hS:=hS.recont 0 rfl (d:=ints (cpyI 0 1 f (fun _=>0))) (fun k k0 k1=>congrFun (Wt 0 1 f (fun _=>0)) k)
  replace hS:=hS.n1
  refine zlv xas ?_
  refine zlt<|zsq<|zbk<|zlp (fun mm M w=>∃(b:Int) (g:Int->Int),mm=((n-b).toNat)/\(1<=b)/\(b<=n)/\(∀k,0<=k->k<b->g k=f 0)/\M= [(4,.slice none 0 0),(7,v1),(8,.int .i64 b)]/\Sat w0 w [.own v1 1 3 n (ints g)]) ⟨1,(cpyI 0 1 f (fun _=>0)),rfl,(by omega),(by omega),?_,rfl,hS⟩ ?_
  ·
   intro k k0 k1;obtain rfl:k=0:=by omega
   rfl
  clear hS w
  rintro mm M w ⟨b,g,rfl,h0,h1,hg,rfl,hS⟩
  refine zsq<|zsr ?_
  refine zs2 ?_
  refine zlv (xln sl_22 hv1) ?_
  refine zlv Zk ?_
  refine zlt ?_
  refine zcif ?_ ?_<;>intro hc
  ·
   refine zsk<|ztn<|zbk ?_
   refine zdst [] [] 1000 mx_ hS ?_;clear hS;intro w hS
   refine zDrv 0 xmv ?_
   obtain⟨q1,hq1⟩:∃q1:Nat,(q1:Int)=b:=⟨b.toNat,by omega⟩
   obtain⟨r1,hr1⟩:∃r1:Int,r1=min (n-b) b:=⟨_,rfl⟩
   refine zDrv 1 xmv ?_
   refine zDrv 2 xmv ?_
   refine zDrv 3 (T8 q1 sl_22 hv1) ?_
   refine zDrv 4 xmv ?_
   refine zDrv 5 xmv ?_
   refine zDrv 6 (ZaG q1 sl_22 hv1 (hS.holds _ (List.mem_of_getElem? (i:=0) rfl)).roomy) ?_
   refine ZcC 7 rfl rfl rfl rfl (by kernel_rfl) (Wo (q:=q1) (r:=r1) 0 rfl sl_22 rfl rfl hS rfl (.inl rfl) (Kt (hS.rowN 0 rfl) (by omega)) (by omega) (by omega) (by omega) (fun _ _ _=>rfl)) ?_;rintro _ w ⟨rfl,hS⟩
   replace hS:=hS.n1
   refine⟨⟨fun _=>hS.nl,hS.nl⟩,?_⟩
   refine zDrv 8 (xadd (r:=b+r1)) ?_
   replace hS:=hS.recont 0 rfl (d:=ints (cpyI q1 r1 g g)) (fun k k0 k1=>congrFun (Wt q1 r1 g g) k)
   replace hS:=hS.n1
   refine zDrv 9 xas ?_
   refine zdd<|zbn<|zlq ⟨b+r1,(cpyI q1 r1 g g),rfl,(by omega),(by omega),?_,rfl,hS⟩
   ·
    intro k k0 k1;unfold cpyI;split
    · exact hg _ (by omega) (by omega)
    · exact hg k k0 (by omega)
  refine zx8 ?_
  refine zs2 ?_
  refine zx1<|zf1 ⟨_,rfl,?_⟩
  obtain rfl:b=n:=by omega
  exact⟨_,rfl,hv1,(hS.recont 0 rfl (d:=ints fun _=>f 0) (fun k k0 k1=>by unfold ints;rw [hg k k0 (by omega)])).pk [0]⟩
theorem Zb1{u i i2 k k2:Int}(k0:0<=k)(k1:k<u)(l0:0<=k2)(l1:k2<u)(e:i2*u+k2=i*u+k):i2=i/\k2=k:=by
  have hi:i2=i:=by
    rcases Int.lt_trichotomy i2 i with h|h|h
    · have:=Int.mul_le_mul_of_nonneg_right (show i2+1<=i by omega) (show 0<=u by omega);rw [Int.add_mul] at this;omega
    · exact h
    · have:=Int.mul_le_mul_of_nonneg_right (show i+1<=i2 by omega) (show 0<=u by omega);rw [Int.add_mul] at this;omega
  subst hi
  exact⟨rfl,by omega⟩
theorem Vl{u n i:Int}(u0:0<=u)(i0:0<=i)(i1:i<n):0<=i*u/\i*u+u<=n*u:=by
  refine⟨Int.mul_nonneg i0 u0,?_⟩
  have:=Int.mul_le_mul_of_nonneg_right (show i+1<=n by omega) u0
  rw [Int.add_mul] at this;omega
set_option maxRecDepth 20000 in
theorem Zaa{vM:Value}{u:Int}{mv:Int->Value}{ml:Int->Int}{mf:Int->Int->Int}{n:Int}(w0:World)(hM:MAt w0 vM u mv ml mf)(hu:1<=u/\u<=60)(hn:1<=n/\n<=20)(hml:∀k,0<=k->k<u->ml k=n):
    Calls Try.prog 41 [vM,.int .i64 n].toArray w0 fun e w=>∃v,e= .returned v/\∃r vv,v=r/\Slh r n/\Sat w0 w [.own r 1 22 n vv,.sem (Frame.rows 3 n vv (fun _=>u) (fun i j=>mf j i))]:=by
  have hnu:=Vl (u:=u) (n:=n+1) (i:=n) (by omega) (by omega) (by omega)
  have hnu2:=YO (a:=n) (b:=u) (A:=20) (B:=60) (by omega) (by omega)
  refine Zn Try.func41 Try.ntmps41 fun w hS=> ?_
  refine zsr ?_
  refine zlv xas ?_
  refine zlz ?_
  refine zs2 ?_
  refine zlv (xln sl_32 hM.row.slh) ?_
  refine zlv (Xp (r:=(n*u)) (e:=rfl)) ?_
  refine zla (xmk sl_22 ZG hS) ?_;rintro v1 w ⟨hS,hv1⟩
  replace hS:=hS.n1
  refine zlv xas ?_
  refine zx5 ?_
  refine zlv xmv ?_
  refine zlv (xln sl_32 hM.row.slh) ?_
  refine zlv xmv ?_
  refine zx6<|zlp (fun mm M w=>∃(k:Int) (g:Int->Int),mm=((u-k).toNat)/\(0<=k)/\(k<=u)/\(∀j,0<=j->j<k->∀i,0<=i->i<n->g (i*u+j)=mf j i)/\M= [(0,vM),(1,.int .i64 n),(4,.slice none 0 0),(5,v1),(17,vM),(18,.int .i64 u),(19,.int .i64 k)]/\Sat w0 w [.own v1 1 3 (n*u) (ints g)]) ⟨0,(fun _=>0),rfl,(by omega),(by omega),?_,rfl,hS⟩ ?_
  ·
   intro j j0 j1;omega
  clear hS w
  rintro mm M w ⟨k,g,rfl,k0,k1,hg,rfl,hS⟩
  refine zsr ?_
  refine zlv Zk ?_
  refine zlt<|zsq ?_
  refine zcif ?_ ?_<;>intro hc
  ·
   refine zx3 ?_
   refine zlv xmv ?_
   have hmlk:=hml k k0 (by omega)
   refine zlv (xix (kk:=k) sl_32 hM.row.slh) ?_
   refine zlv (xlr (u:=(mv k)) pl_22 (hM.row.below hS.below)) ?_
   refine zs2 ?_
   refine zlz ?_
   refine zs2 ?_
   refine zx6<|zlp (fun mm M w=>∃(i:Int) (g:Int->Int),mm=((n-i).toNat)/\(0<=i)/\(i<=n)/\(∀j,0<=j->j<k->∀i,0<=i->i<n->g (i*u+j)=mf j i)/\(∀q,0<=q->q<i->g (q*u+k)=mf k q)/\M= [(0,vM),(1,.int .i64 n),(4,.slice none 0 0),(5,v1),(6,.int .i64 k),(7,(mv k)),(17,vM),(18,.int .i64 u),(19,.int .i64 k),(24,.int .i64 n),(25,.int .i64 i)]/\Sat w0 w [.own v1 1 3 (n*u) (ints g)]) ⟨0,g,rfl,(by omega),(by omega),?_,?_,rfl,hS⟩ ?_
   ·
    exact hg
   ·
    intro q q0 q1;omega
   clear hS w
   rintro mm M w ⟨i,g,rfl,i0,i1,hg2,hg3,rfl,hS⟩
   refine zsr ?_
   refine zlv Zk ?_
   refine zlt<|zsq ?_
   refine zcif ?_ ?_<;>intro hc
   ·
    refine zx3 ?_
    refine zlv xmv ?_
    have hgr:=Vl (u:=u) (n:=n) (by omega) i0 (by omega)
    refine zlv xas ?_
    refine zlt<|zrg ?_
    refine zs3 ?_
    refine zlv (xln sl_32 hM.row.slh) ?_
    refine zlv (Xp (r:=(i*u)) (e:=rfl)) ?_
    refine zlv xmv ?_
    refine zlv (xadd (r:=(i*u)+k)) ?_
    refine zs2 ?_
    refine zlv (xix (kk:=i) sl_22 (hM.p k (by omega) (by omega)).slh) ?_
    refine zlv (xlr (u:= .int .i64 ((mf k) i)) pl_3 ((hM.p k (by omega) (by omega)).below hS.below)) ?_
    refine zlv (xix (kk:=(i*u)+k) sl_22 hv1) ?_
    refine zle (xso 0 pl_3 hS (ZZ _ _ _)) ?_;clear hS;rintro w hS
    replace hS:=hS.n1
    refine zx10 ?_
    refine zlv (xadd (r:=i+1)) ?_
    refine zlv xmv ?_
    refine zln<|zlq ⟨i+1,(upd g ((i*u)+k) ((mf k) i)),rfl,(by omega),(by omega),?_,?_,rfl,hS⟩
    ·
     intro j j0 j1 q q0 q1;rw [upd_ne _ _ (fun e=>by have:=Zb1 k0 (by omega) j0 (by omega) e;omega)];exact hg2 j j0 j1 q q0 q1
    ·
     intro q q0 q1;by_cases e:q=i
     · rw [e,ZY]
     · rw [upd_ne _ _ (fun e9=>e (Zb1 k0 (by omega) k0 (by omega) e9).1)];exact hg3 q q0 (by omega)
   refine zxt<|ztx<|ztx<|zbh<|zbn<|ztn<|zrg ?_
   refine zlv (xadd (r:=k+1)) ?_
   refine zlv xmv ?_
   refine zln<|zlq ⟨k+1,g,rfl,(by omega),(by omega),?_,rfl,hS⟩
   ·
    intro j j0 j1 q q0 q1;by_cases e:j=k
    · rw [e];exact hg3 q q0 (by omega)
    · exact hg2 j j0 (by omega) q q0 q1
  refine zx8 ?_
  refine zlv xas ?_
  refine zx5 ?_
  refine zs2 ?_
  refine zx6 ?_
  replace hS:=hS.addnil 1 22 (fun _=>Value.slice none 0 0)
  replace hS:=hS.n2
  replace hS:=hS.addrows 3 (fun _=>Value.slice none 0 0) (fun _=>u) (fun i j=>mf j i)
  replace hS:=hS.n3
  replace hS:=hS.n3
  have hrs0:=fun k (k0:0<=k) (k1:k<0)=>hS.slhIn 2 rfl k0 k1
  refine zlp (fun mm M w=>∃(nC:Int) (wv:Int->Value) (i:Int) (wC:Value),mm=((n-i).toNat)/\(0<=i)/\(i<=n)/\(nC=i)/\(Slh wC nC)/\M= [(0,vM),(4,.slice none 0 0),(5,v1),(9,wC),(42,.int .i64 n),(43,.int .i64 i)]/\Sat w0 w [.own v1 1 3 (n*u) (ints g),.own wC 1 22 nC wv,.sem (Frame.rows 3 nC wv (fun _=>u) (fun i j=>mf j i))]) ⟨0,(fun _=>Value.slice none 0 0),0,(.slice none 0 0),rfl,(by omega),(by omega),(by omega),?_,rfl,hS⟩ ?_
  ·
   exact slh_nil
  clear hS w
  rintro mm M w ⟨nC,wv,i,wC,rfl,i0,i1,hnC,hwC,rfl,hS⟩
  have hrs1:=fun k (k0:0<=k) (k1:k<nC)=>hS.slhIn 2 rfl k0 k1
  refine zsr ?_
  refine zlv Zk ?_
  refine zlt<|zsq ?_
  refine zcif ?_ ?_<;>intro hc
  ·
   refine zx3 ?_
   refine zlv xmv ?_
   have hgr:=Vl (u:=u) (n:=n) (by omega) i0 (by omega)
   refine zlv xas ?_
   refine zlz ?_
   refine zlv xmv ?_
   refine zlv (xln sl_32 hM.row.slh) ?_
   refine zla (xmk sl_22 ZG hS) ?_;rintro v2 w ⟨hS,hv2⟩
   replace hS:=hS.n4
   refine zlv xas ?_
   refine zlz ?_
   refine zs4 ?_
   obtain⟨q1,hq1⟩:∃q1:Nat,(q1:Int)=i*u:=⟨(i*u).toNat,by omega⟩
   refine zlv (xln sl_32 hM.row.slh) ?_
   refine zlv (Xp (r:=(i*u)) (e:=rfl)) ?_
   refine zlv (T8 q1 sl_22 hv1) ?_
   refine Kk rfl rfl rfl (Wo (q:=0) (r:=u) 3 rfl sl_22 rfl rfl hS rfl (.inr ⟨rfl,rfl⟩) ((Yw (q:=q1) hv1 (hS.holds _ (List.mem_of_getElem? (i:=0) rfl)).roomy (by omega)).row (by omega) (hS.rowN 0 rfl)) (by omega) (by omega) (by omega) (fun _ _ _=>rfl)) ?_;rintro _ w ⟨rfl,hS⟩
   replace hS:=hS.n4
   refine zlt<|zrg ?_
   refine zlv xmv ?_
   replace hS:=hS.recont 3 rfl (d:=ints (cpyI 0 u (fun k=>g (k+(q1:Int))) (fun _=>0))) (fun k k0 k1=>congrFun (Wt 0 u (fun k=>g (k+(q1:Int))) (fun _=>0)) k)
   replace hS:=hS.n4
   refine zlv xmv ?_
   refine zla (xli (n:=1) (len:=1) (pv:= [(0,v2)]) (cs:= [v2]) (c:=(fun _=>v2)) sl_32 YA hS (hf:=by obtain⟨_,_,_,_,rfl,_⟩:=hv2;kernel_rfl)) ?_;rintro v3 w ⟨hS,hv3⟩
   replace hS:=hS.n5
   refine zla (xap 1 (r:=nC+1) sl_32 YA hS (hS.rowN 4 rfl) (X6 _ _ _) (h1:=fun _ _ _=>hv2.one)) ?_;rintro v4 w ⟨hS,hv4⟩
   replace hS:=hS.n5
   replace hS:=Sat.merge (l1:= [_,_]) (l2:= []) (l3:= [_]) hS (by omega)
   have hrs2:=fun k (k0:0<=k) (k1:k<nC+1)=>hS.slhIn 2 rfl k0 k1
   replace hS:=hS.n4
   refine zlv xas ?_
   replace hS:=hS.rerows (vv':=gsn wv nC v2) (ln':=fun _=>u) (f':=fun i j=>mf j i) 2 rfl (fun k k0 k1=>by
     by_cases e:k<i
     · exact⟨rfl,Zx (by omega),fun j _ _=>by rw [Zx (by omega)]⟩
     · have hki:k=i:=by omega
       refine⟨rfl,?_,fun b b0 b1=> ?_⟩
       · rw [ZF (by omega)]
       · rw [ZF (by omega)] at b1
         rw [ZF (by omega),hki];unfold cpyI;rw [if_pos (by omega)];show g (b-(0:Nat)+q1)=_;rw [show b-((0:Nat):Int)+q1=i*u+b by omega];exact hg b b0 (by omega) i i0 (by omega))
   replace hS:=hS.n4
   have hrs2x:=fun k (k0:0<=k) (k1:k<nC+1)=>hS.slhIn 2 rfl k0 k1
   refine zx10 ?_
   refine zlv (xadd (r:=i+1)) ?_
   refine zlv xmv ?_
   refine zln<|zlq ⟨nC+1,gsn wv nC v2,i+1,v4,rfl,(by omega),(by omega),(by omega),?_,rfl,hS.pk [0,1,2]⟩
   ·
    exact hv4
  refine zx8 ?_
  refine zs2 ?_
  refine zx1<|zf1 ⟨_,rfl,?_⟩
  obtain rfl:i=n:=by omega
  subst hnC
  exact⟨_,_,rfl,hwC,hS.pk [1,2]⟩
def TQ(p:Prob)(u:Int)(mf:Int->Int->Int):Lp:=⟨u,p.m,p.d,fun _=>1,fun _=>u,fun i j=>mf j i,p.D⟩
def so0(p:Prob):So:=⟨0,p.m,fun _=>0,fun _=>0,0,1⟩
def XE(p:Prob)(u:Int)(ml:Int->Int)(mf:Int->Int->Int):Prop:=p.Ok/\∀k,0<=k->k<u->ZN p (ml k) (mf k)
def MSolveR (p:Prob) (u:Int) (ml:Int->Int) (mf:Int->Int->Int) (s:So) (e:Int):Prop:=
  (¬XE p u ml mf/\s=So.zero/\e=1)\/(XE p u ml mf/\(16<p.m\/60<u)/\s=So.zero/\e=9)\/
    (XE p u ml mf/\p.m<=16/\u<=60/\u=0/\(∃k,0<=k/\k<p.d/\0<p.D k)/\s=So.zero/\e=19)\/(XE p u ml mf/\p.m<=16/\u<=60/\u=0/\(∀k,0<=k->k<p.d->p.D k<=0)/\s=so0 p/\e=0)\/
    (XE p u ml mf/\p.m<=16/\u<=60/\1<=u/\SolveR (TQ p u mf) s e)
set_option maxRecDepth 20000 in
theorem Uq{vL vD:Value}{p:Prob}{vM:Value}{u:Int}{mv:Int->Value}{ml:Int->Int}{mf:Int->Int->Int}(w0:World)(h:PAt w0 vL vD p)(hM:MAt w0 vM u mv ml mf):
    Calls Try.prog 12 [.agg #[vL,vD,.int .i64 p.stock,.int .i64 p.kerf],vM].toArray w0 fun e w=>∃v,e= .returned v/\∃vX vY s e,v= .tuple #[.agg #[vX,vY,.int .i64 s.val,.int .i64 s.den],.int .i64 e]/\MSolveR p u ml mf s e/\Slh vX s.n/\Slh vY s.m/\Sat w0 w [.own vX 1 3 s.n (ints s.X),.own vY 1 3 s.m (ints s.Y)]:=by
  have hm:=h.L.slh.n0;have hm1:=h.L.slh.n1;have hd:=h.D.slh.n0;have hd1:=h.D.slh.n1;have hs:=h.is;have hk:=h.ik
  have hu:=hM.row.slh.n0;have hu1:=hM.row.slh.n1
  refine Zn Try.func12 Try.ntmps12 fun w hS=> ?_
  refine zsr ?_
  refine zla (xbx (cs:= [_,_,_,_]) hS) ?_;rintro _ w ⟨g1,rfl,hS⟩
  replace hS:=hS.n1
  refine zla (xal (cs:= [_,_,_,_]) Xz hS) ?_;rintro _ w ⟨g2,rfl,hS⟩
  replace hS:=hS.n2
  refine zlv xas ?_
  refine zlt<|zsq<|zbk<|zsr ?_
  refine zlv (xls 0 YX hS) ?_
  refine zlc (xc0 RY) (Wv (p:=p) w (h.below hS.below)) ?_;rintro _ w ⟨rfl,hS'⟩
  replace hS:=hS.cmp hS';clear hS'
  refine zs2 ?_
  refine zlb 10 ?_ ?_<;>intro hc
  ·
   iterate 3 refine zlo ?_
   refine zs2 ?_
   refine zlt<|zct<|zsr ?_
   refine zlv (xany (v:= .agg #[.slice none 0 0,.slice none 0 0,.int .i64 0,.int .i64 0])) ?_
   refine zle (xsw 1 Zt hS) ?_;clear hS;rintro w hS
   replace hS:=hS.n2
   refine zlv xas ?_
   refine zlt<|zrt<|zbr<|ztr<|Ym 1 Zt hS ⟨_,rfl,?_⟩
   exact⟨_,_,So.zero,1,rfl,.inl ⟨fun⟨h1,h2⟩=>by
     first
     |exact absurd h1 ‹¬p.Ok›
     |exact hc (h2 q q0 (by omega))
     |(obtain⟨k,k0,k1,hk⟩:=‹∃k,0<=k/\k<u/\¬ZN p (ml k) (mf k)›;exact hk (h2 k k0 k1)),rfl,rfl⟩,slh_nil,slh_nil,((hS.sub (.cons _ (.cons _ .slnil))).addnil 1 3 (ints So.zero.X)).addnil 1 3 (ints So.zero.Y)⟩
  refine zlv xmv ?_
  refine zlv xmf ?_
  refine zlc (xc0 cl_35) (Ka (p:=p) (u:=u) (ml:=ml) (mf:=mf) w (hS.holds _ (List.mem_of_getElem? (i:=0) rfl)) (h.below hS.below) (hM.below hS.below)) ?_;rintro _ w ⟨rfl,hS'⟩
  replace hS:=hS.cmp hS';clear hS'
  refine zs2 ?_
  refine zlt ?_
  refine zcif ?_ ?_<;>intro hc
  ·
   refine zsr ?_
   refine zlv (xany (v:= .agg #[.slice none 0 0,.slice none 0 0,.int .i64 0,.int .i64 0])) ?_
   refine zle (xsw 1 Zt hS) ?_;clear hS;rintro w hS
   replace hS:=hS.n2
   refine zlv xas ?_
   refine zlt<|zrt<|zbr<|ztr<|Ym 1 Zt hS ⟨_,rfl,?_⟩
   exact⟨_,_,So.zero,1,rfl,.inl ⟨fun⟨h1,h2⟩=>by
     first
     |exact absurd h1 ‹¬p.Ok›
     |exact hc (h2 q q0 (by omega))
     |(obtain⟨k,k0,k1,hk⟩:=‹∃k,0<=k/\k<u/\¬ZN p (ml k) (mf k)›;exact hk (h2 k k0 k1)),rfl,rfl⟩,slh_nil,slh_nil,((hS.sub (.cons _ (.cons _ .slnil))).addnil 1 3 (ints So.zero.X)).addnil 1 3 (ints So.zero.Y)⟩
  refine zsr ?_
  refine zlv (xfb 0 fd_39_0) ?_
  have hok:p.Ok:=by first|assumption|exact Classical.not_not.1 ‹_›
  have hpr:∀k,0<=k->k<u->ZN p (ml k) (mf k):=fun k k0 k1=>Classical.not_not.1 fun hh=>‹¬∃k,0<=k/\k<u/\¬ZN p (ml k) (mf k)› ⟨k,k0,k1,hh⟩
  have hpd:=hok.d;have hpm:=hok.m1;have hpm2:=hok.m2
  refine zlv (xlb 0 pl_22 hS) ?_
  refine zlv (xln sl_22 h.L.slh) ?_
  refine zs2 ?_
  refine zlb 21 ?_ ?_<;>intro hc
  ·
   iterate 3 refine zlo ?_
   refine zs2 ?_
   refine zlt<|zct<|zsr ?_
   refine zlv (xany (v:= .agg #[.slice none 0 0,.slice none 0 0,.int .i64 0,.int .i64 0])) ?_
   refine zle (xsw 1 Zt hS) ?_;clear hS;rintro w hS
   replace hS:=hS.n2
   refine zlv xas ?_
   refine zlt<|zrt<|zbr<|ztr<|Ym 1 Zt hS ⟨_,rfl,?_⟩
   exact⟨_,_,So.zero,9,rfl,.inr (.inl ⟨⟨hok,hpr⟩,by omega,rfl,rfl⟩),slh_nil,slh_nil,((hS.sub (.cons _ (.cons _ .slnil))).addnil 1 3 (ints So.zero.X)).addnil 1 3 (ints So.zero.Y)⟩
  refine zlv xmv ?_
  refine zlv (xln sl_32 hM.row.slh) ?_
  refine zs3 ?_
  refine zlt ?_
  refine zcif ?_ ?_<;>intro hc
  ·
   refine zsr ?_
   refine zlv (xany (v:= .agg #[.slice none 0 0,.slice none 0 0,.int .i64 0,.int .i64 0])) ?_
   refine zle (xsw 1 Zt hS) ?_;clear hS;rintro w hS
   replace hS:=hS.n2
   refine zlv xas ?_
   refine zlt<|zrt<|zbr<|ztr<|Ym 1 Zt hS ⟨_,rfl,?_⟩
   exact⟨_,_,So.zero,9,rfl,.inr (.inl ⟨⟨hok,hpr⟩,by omega,rfl,rfl⟩),slh_nil,slh_nil,((hS.sub (.cons _ (.cons _ .slnil))).addnil 1 3 (ints So.zero.X)).addnil 1 3 (ints So.zero.Y)⟩
  refine zsr ?_
  refine zlv xmv ?_
  refine zlv (xln sl_32 hM.row.slh) ?_
  refine zs2 ?_
  refine zlb 31 ?_ ?_<;>intro hc
  ·
   refine zlv (xfb 1 fd_39_1) ?_
   refine zlv (xlb 0 pl_22 hS) ?_
   refine zlc (xc0 cl_38) (c_max (n:=p.d) (f:=p.D) w (h.D.below hS.below) (by omega)) ?_;rintro _ w ⟨x1,rfl,hex1,hax1,hS'⟩
   replace hS:=hS.cmp hS';clear hS'
   refine zs3 ?_
   refine zlt ?_
   refine zcif ?_ ?_<;>intro hc
   ·
    refine zsr ?_
    refine zlv (xany (v:= .agg #[.slice none 0 0,.slice none 0 0,.int .i64 0,.int .i64 0])) ?_
    refine zle (xsw 1 Zt hS) ?_;clear hS;rintro w hS
    replace hS:=hS.n2
    refine zlv xas ?_
    refine zlt<|zrt<|zbr<|ztr<|Ym 1 Zt hS ⟨_,rfl,?_⟩
    exact⟨_,_,So.zero,19,rfl,.inr (.inr (.inl ⟨⟨hok,hpr⟩,by omega,by omega,by omega,by first|(obtain⟨k,k0,k1,hk⟩:=hex1;exact⟨k,k0,k1,by omega⟩)|exact⟨_,‹0<=j›,‹j<p.d›,‹_›⟩|exact⟨j,by omega,by omega,by omega⟩,rfl,rfl⟩)),slh_nil,slh_nil,((hS.sub (.cons _ (.cons _ .slnil))).addnil 1 3 (ints So.zero.X)).addnil 1 3 (ints So.zero.Y)⟩
   refine zsr ?_
   refine zlv xmv ?_
   refine zlv (xln sl_32 hM.row.slh) ?_
   refine zlv (xkt xeql) ?_
   refine zlv xas ?_
   refine zlt<|zct<|zsr ?_
   refine zlv (xfb 0 fd_39_0) ?_
   refine zlv (xlb 0 pl_22 hS) ?_
   refine zlv (xln sl_22 h.L.slh) ?_
   refine zla (xmk sl_22 ZG hS) ?_;rintro v1 w ⟨hS,hv1⟩
   replace hS:=hS.n3
   refine zlv (xany (v:= .agg #[.slice none 0 0,v1,.int .i64 0,.int .i64 1]) (hr:=by obtain⟨_,_,_,_,rfl,_⟩:=hv1;kernel_rfl)) ?_
   refine zle (xsw 1 Zt hS (hd:=(Za rfl (Za hv1.one (Za rfl (Za rfl Zh)))))) ?_;clear hS;rintro w hS
   replace hS:=hS.n3
   refine zlv xas ?_
   refine zlt<|zrt<|zbr<|ztr<|Ym 1 Zt hS ⟨_,rfl,?_⟩
   exact⟨_,_,so0 p,0,rfl,.inr (.inr (.inr (.inl ⟨⟨hok,hpr⟩,by omega,by omega,by omega,(fun k k0 k1=>by first|(have:=hax1 k k0 k1;omega)|(have:=hall k k0 (by omega);omega)),rfl,rfl⟩))),slh_nil,hv1,(hS.addnil 1 3 (ints fun _=>0)).pk [3,2]⟩
  iterate 4 refine zlo ?_
  refine zs2 ?_
  refine zlt<|zcf<|zsr ?_
  refine zlv xmv ?_
  refine zlv (xln sl_32 hM.row.slh) ?_
  refine zs2 ?_
  refine zlt ?_
  refine zcif ?_ ?_<;>intro hc
  ·
   exfalso;omega
  refine zsk<|zbn<|ztn<|zsq ?_
  refine zdst [0,1] [0] 16 mx_ hS ?_;clear hS;intro w hS
  refine zDrv 1 xmv ?_
  refine zDrv 2 (xln sl_32 hM.row.slh) ?_
  refine zDrv 4 xmv ?_
  refine zDrv 5 (xfb 0 fd_39_0) ?_
  refine zdla 6 (fun w hS=>(xlb 0 pl_22 hS)) ?_
  refine zDrv 7 (xln sl_22 h.L.slh) ?_
  refine zDrv 9 (xfb 1 fd_39_1) ?_
  refine zdla 10 (fun w hS=>(xlb 0 pl_22 hS)) ?_
  refine zda 0 (xli (n:=1) (len:=1) (pv:= [(0,.int .i64 1)]) (cs:= [.int .i64 1]) (c:=ints (fun _=>1)) sl_22 ZG hS) ?_;rintro v2 w ⟨hS,hv2⟩
  replace hS:=hS.n3
  refine⟨⟨fun _=>hS.pk [0,1],hS.pk [0]⟩,?_⟩
  refine zdc 3 (xc0 Zcl) (R7 (n:=u) w (hS.rowN 2 rfl) (by omega)) ?_;rintro vru1 w ⟨_,rfl,hvru1,hS'⟩
  replace hS:Sat w0 w [.blk g1 [vL,vD,.int .i64 p.stock,.int .i64 p.kerf],.blk g2 [.slice none 0 0,.slice none 0 0,.int .i64 0,.int .i64 0],.own v2 1 3 1 (ints (fun _=>1)),.own vru1 1 3 u (ints (fun _=>(fun _=>1) 0))]:=hS.comp hS';clear hS'
  refine⟨⟨fun _=>hS.pk [0,1],hS.pk [0]⟩,?_⟩
  refine zdc 8 (xc0 Zck) (Zaa (n:=p.m) w (hM.below hS.below) (by omega) (by omega) (fun k k0 k1=>(hpr k k0 k1).1.eq)) ?_;rintro vtq1 w ⟨_,tvq1,rfl,hvtq1,hS'⟩
  replace hS:Sat w0 w [.blk g1 [vL,vD,.int .i64 p.stock,.int .i64 p.kerf],.blk g2 [.slice none 0 0,.slice none 0 0,.int .i64 0,.int .i64 0],.own v2 1 3 1 (ints (fun _=>1)),.own vru1 1 3 u (ints (fun _=>(fun _=>1) 0)),.own vtq1 1 22 p.m tvq1,.sem (Frame.rows 3 p.m tvq1 (fun _=>u) (fun i j=>mf j i))]:=hS.comp hS';clear hS'
  have hrtq1:=fun k (k0:0<=k) (k1:k<p.m)=>hS.slhIn 5 rfl k0 k1
  refine⟨⟨fun _=>hS.pk [0,1],hS.pk [0]⟩,?_⟩
  refine zdc 11 (xc0 XA) (Yq (n:=p.d) (f:=p.D) w (h.D.below hS.below) (by omega)) ?_;rintro vq2 w ⟨_,rfl,hslq2,hS'⟩
  replace hS:Sat w0 w [.blk g1 [vL,vD,.int .i64 p.stock,.int .i64 p.kerf],.blk g2 [.slice none 0 0,.slice none 0 0,.int .i64 0,.int .i64 0],.own v2 1 3 1 (ints (fun _=>1)),.own vru1 1 3 u (ints (fun _=>(fun _=>1) 0)),.own vtq1 1 22 p.m tvq1,.sem (Frame.rows 3 p.m tvq1 (fun _=>u) (fun i j=>mf j i)),.own vq2 1 3 p.d (ints p.D)]:=hS.comp hS';clear hS'
  refine⟨⟨fun _=>hS.pk [0,1],hS.pk [0]⟩,?_⟩
  refine zDrv 12 (xany (v:= .agg #[vru1,vtq1,vq2]) (hr:=by obtain⟨_,_,_,_,rfl,_⟩:=hvru1;obtain⟨_,_,_,_,rfl,_⟩:=hvtq1;obtain⟨_,_,_,_,rfl,_⟩:=hslq2;kernel_rfl)) ?_
  refine zdc 13 (xc0 Zcm) (Zad (p:=(⟨u,p.m,p.d,(fun _=>(fun _=>1) 0),(fun _=>u),(fun i j=>mf j i),p.D⟩:Lp)) w (⟨(hS.rowN 3 rfl),(⟨(hS.rowN 4 rfl),fun k k0 k1=>hS.rowIn 5 rfl k0 k1,fun k k0 k1=>hS.roomIn 5 rfl k0 k1⟩:MAt _ vtq1 p.m tvq1 (fun _=>u) (fun i j=>mf j i)),(hS.rowN 6 rfl)⟩:LAt _ vru1 vtq1 vq2 tvq1 (⟨u,p.m,p.d,(fun _=>(fun _=>1) 0),(fun _=>u),(fun i j=>mf j i),p.D⟩:Lp))) ?_;rintro _ w ⟨vXs1,vYs1,ss1,es1,rfl,hsos1,hvXs1,hvYs1,hS'⟩
  replace hS:Sat w0 w [.blk g1 [vL,vD,.int .i64 p.stock,.int .i64 p.kerf],.blk g2 [.slice none 0 0,.slice none 0 0,.int .i64 0,.int .i64 0],.own v2 1 3 1 (ints (fun _=>1)),.own vru1 1 3 u (ints (fun _=>(fun _=>1) 0)),.own vtq1 1 22 p.m tvq1,.sem (Frame.rows 3 p.m tvq1 (fun _=>u) (fun i j=>mf j i)),.own vq2 1 3 p.d (ints p.D),.own vXs1 1 3 ss1.n (ints ss1.X),.own vYs1 1 3 ss1.m (ints ss1.Y)]:=hS.comp hS';clear hS'
  refine⟨⟨fun _=>hS.pk [0,1],hS.pk [0]⟩,?_⟩
  refine zDrv 14 xex ?_
  refine zDrv 15 xex ?_
  refine zde 16 (xsw 1 Zt hS (hd:=(Za hvXs1.one (Za hvYs1.one (Za rfl (Za rfl Zh)))))) ?_;clear hS;rintro w hS
  replace hS:=hS.n9
  refine⟨⟨fun h=>absurd h (by decide),hS.pk [0]⟩,?_⟩
  refine zDrv 17 xas ?_
  refine zdd<|ztn<|zrt<|Ym 1 Zt hS ⟨_,rfl,?_⟩
  exact⟨_,_,ss1,_,rfl,.inr (.inr (.inr (.inr ⟨⟨hok,hpr⟩,by omega,by omega,by omega,hsos1⟩))),hvXs1,hvYs1,hS.pk [7,8]⟩
end Go.Proofs.Ytopmifmfecfaaaa
namespace Go.Proofs.Ytopmifmfecfaaaa
open Go Go.RowKit Go.Proofs.Gw
theorem RX:Zd Try.prog 43=true:=by kernel_rfl
theorem Zci:Zd Try.prog 64=true:=by kernel_rfl
theorem Zch:Zd Try.prog 65=true:=by kernel_rfl
theorem ZaB:Zd Try.prog 66=true:=by kernel_rfl
theorem Zca:Zd Try.prog 74=true:=by kernel_rfl
theorem Zaz:ZV Try.prog 65=some (.agg #[.int .i64 0,.int .i64 0],2,16):=by kernel_rfl
theorem fd_36_2:Zr Try.prog 36 2=some 2:=by kernel_rfl
theorem fd_36_3:Zr Try.prog 36 3=some 3:=by kernel_rfl
theorem st_65:Zv Try.prog 65=some 2:=by kernel_rfl
def Ki(u u2:Int)(ml ml2:Int->Int)(mf mf2:Int->Int->Int):Prop:=u=u2/\∀k,0<=k->k<u->ml k=ml2 k/\∀j,0<=j->j<ml k->mf k j=mf2 k j
theorem RB{x y:Int}(hx:0<=x)(hy:0<y):Int.gcd y (x.tmod y)=Int.gcd x y:=by
  rw [Int.tmod_eq_emod_of_nonneg hx]
  obtain⟨m,rfl⟩:=Int.eq_ofNat_of_zero_le hx
  obtain⟨n,rfl⟩:=Int.eq_ofNat_of_zero_le (show 0<=y by omega)
  show Nat.gcd n (m%n)=Nat.gcd m n
  rw [Nat.gcd_comm,<-Nat.gcd_rec,Nat.gcd_comm]
set_option maxRecDepth 20000 in
theorem Up{va vb:Value}{n m:Int}{f g:Int->Int}(w0:World)(hA:Row w0 va 1 n (ints f))(hB2:Row w0 vb 1 m (ints g)):
    Calls Try.prog 66 [va,vb].toArray w0 fun e w=>∃v,e= .returned v/\v=B (n=m/\∀k,0<=k->k<n->f k=g k)/\Sat w0 w []:=by
  have hn:=hA.slh.n0;have hm1:=hB2.slh.n1;have hn1:=hA.slh.n1
  refine Zn Try.func66 Try.ntmps66 fun w hS=> ?_
  refine zsr ?_
  refine zlv xas ?_
  refine zx5 ?_
  refine zlv xmv ?_
  refine zlv (xln sl_22 hA.slh) ?_
  refine zlv xmv ?_
  refine zlv (xln sl_22 hB2.slh) ?_
  refine zlv Yj ?_
  refine zlt ?_
  refine zcif ?_ ?_<;>intro hc
  ·
   refine zsr ?_
   refine zlv xas ?_
   refine zx14<|zf1 ⟨_,rfl,?_⟩
   exact⟨Zc (by rintro⟨h1,h2⟩;first|omega|exact absurd (h2 i h0 (by omega)) (by omega)),hS⟩
  refine zsk<|ztn<|zsq<|zsr ?_
  refine zlv xas ?_
  refine zx6<|zlp (fun mm M w=>∃(i:Int),mm=((n-i).toNat)/\(0<=i)/\(i<=n)/\(∀k,0<=k->k<i->f k=g k)/\M= [(0,va),(1,vb),(5,.int .i64 i)]/\Sat w0 w []) ⟨0,rfl,(by omega),(by omega),?_,rfl,hS⟩ ?_
  ·
   intro k h0 h1;omega
  clear hS w
  rintro mm M w ⟨i,rfl,h0,h1,hall,rfl,hS⟩
  refine zsq<|zsr ?_
  refine zs2 ?_
  refine zlv (xln sl_22 hA.slh) ?_
  refine zlv Zk ?_
  refine zlt ?_
  refine zcif ?_ ?_<;>intro hc
  ·
   refine zsk<|ztn<|zsq<|zbk<|zsq ?_
   refine zdst [] [] 1000 mx_ hS ?_;clear hS;intro w hS
   refine zDrv 0 xmv ?_
   refine zDrv 1 xmv ?_
   refine zDrv 2 (xix (kk:=i) sl_22 hA.slh) ?_
   refine zdla 3 (fun w hS=>(xlr (u:= .int .i64 (f i)) pl_3 (hA.below hS.below))) ?_
   refine zDrv 4 xmv ?_
   refine zDrv 5 xmv ?_
   refine zDrv 6 (xix (kk:=i) sl_22 hB2.slh) ?_
   refine zdla 7 (fun w hS=>(xlr (u:= .int .i64 (g i)) pl_3 (hB2.below hS.below))) ?_
   refine zDrv 8 Yj ?_
   refine zdd<|ztn ?_
   refine zcif ?_ ?_<;>intro hc
   ·
    refine zsr ?_
    refine zlv xas ?_
    refine zx2<|zf1 ⟨_,rfl,?_⟩
    exact⟨Zc (by rintro⟨h1,h2⟩;first|omega|exact absurd (h2 i h0 (by omega)) (by omega)),hS⟩
   refine zx4 ?_
   refine zlv xmv ?_
   refine zlv (xadd (r:=i+1)) ?_
   refine zlv xas ?_
   refine zln<|zlq ⟨i+1,rfl,(by omega),(by omega),?_,rfl,hS⟩
   ·
    intro k h0' h1';rcases Int.lt_or_eq_of_le (show k<=i by omega) with hk|hk;exact hall k h0' hk;rw [hk];omega
  refine zx8 ?_
  refine zlv xas ?_
  refine zx1<|zf1 ⟨_,rfl,?_⟩
  exact⟨ZW ⟨by omega,fun k k0 k1=>hall k k0 (by omega)⟩,hS⟩
set_option maxRecDepth 20000 in
theorem Zby{vM:Value}{u:Int}{mv:Int->Value}{ml:Int->Int}{mf:Int->Int->Int}{vM2:Value}{u2:Int}{mv2:Int->Value}{ml2:Int->Int}{mf2:Int->Int->Int}(w0:World)(hM:MAt w0 vM u mv ml mf)(hM2:MAt w0 vM2 u2 mv2 ml2 mf2):
    Calls Try.prog 30 [vM,vM2].toArray w0 fun e w=>∃v,e= .returned v/\v=B (Ki u u2 ml ml2 mf mf2)/\Sat w0 w []:=by
  have hu:=hM.row.slh.n0;have hu1:=hM.row.slh.n1;have hv1:=hM2.row.slh.n1
  refine Zn Try.func30 Try.ntmps30 fun w hS=> ?_
  refine zsr ?_
  refine zlv xas ?_
  refine zx5 ?_
  refine zlv xmv ?_
  refine zlv (xln sl_32 hM.row.slh) ?_
  refine zlv xmv ?_
  refine zlv (xln sl_32 hM2.row.slh) ?_
  refine zlv Yj ?_
  refine zlt ?_
  refine zcif ?_ ?_<;>intro hc
  ·
   refine zsr ?_
   refine zlv xas ?_
   refine zx14<|zf1 ⟨_,rfl,?_⟩
   exact⟨Zc (by rintro⟨h1,h2⟩;first|omega|exact hc (h2 i h0 (by omega))|exact absurd (h2 i h0 (by omega)) ‹¬((ml i)=(ml2 i)/\∀k,0<=k->k<(ml i)->(mf i) k=(mf2 i) k)›),hS⟩
  refine zsk<|ztn<|zsq<|zsr ?_
  refine zlv xas ?_
  refine zx6<|zlp (fun mm M w=>∃(i:Int),mm=((u-i).toNat)/\(0<=i)/\(i<=u)/\(∀k,0<=k->k<i->ml k=ml2 k/\∀j,0<=j->j<ml k->mf k j=mf2 k j)/\M= [(0,vM),(1,vM2),(5,.int .i64 i)]/\Sat w0 w []) ⟨0,rfl,(by omega),(by omega),?_,rfl,hS⟩ ?_
  ·
   intro k k0 k1;omega
  clear hS w
  rintro mm M w ⟨i,rfl,h0,h1,hall,rfl,hS⟩
  refine zsq<|zsr ?_
  refine zs2 ?_
  refine zlv (xln sl_32 hM.row.slh) ?_
  refine zlv Zk ?_
  refine zlt ?_
  refine zcif ?_ ?_<;>intro hc
  ·
   refine zsk<|ztn<|zsq<|zbk<|zsq ?_
   refine zdst [] [] 1000 mx_ hS ?_;clear hS;intro w hS
   refine zDrv 0 xmv ?_
   refine zDrv 1 xmv ?_
   refine zDrv 2 (xix (kk:=i) sl_32 hM.row.slh) ?_
   refine zdla 3 (fun w hS=>(xlr (u:=(mv i)) pl_22 (hM.row.below hS.below))) ?_
   refine zDrv 4 xmv ?_
   refine zDrv 5 xmv ?_
   refine zDrv 6 (xix (kk:=i) sl_32 hM2.row.slh) ?_
   refine zdla 7 (fun w hS=>(xlr (u:=(mv2 i)) pl_22 (hM2.row.below hS.below))) ?_
   refine zdc 8 (xc0 ZaB) (Up (n:=(ml i)) (m:=(ml2 i)) (f:=(mf i)) (g:=(mf2 i)) w ((hM.p i (by omega) (by omega)).below hS.below) ((hM2.p i (by omega) (by omega)).below hS.below)) ?_;rintro _ w ⟨rfl,hS'⟩
   replace hS:=hS.cmp hS';clear hS'
   refine⟨⟨fun _=>hS,hS⟩,?_⟩
   refine zDrv 9 ZX ?_
   refine zdd<|ztn ?_
   refine zcif ?_ ?_<;>intro hc
   ·
    refine zsr ?_
    refine zlv xas ?_
    refine zx2<|zf1 ⟨_,rfl,?_⟩
    exact⟨Zc (by rintro⟨h1,h2⟩;first|omega|exact hc (h2 i h0 (by omega))|exact absurd (h2 i h0 (by omega)) ‹¬((ml i)=(ml2 i)/\∀k,0<=k->k<(ml i)->(mf i) k=(mf2 i) k)›),hS⟩
   refine zx4 ?_
   refine zlv xmv ?_
   refine zlv (xadd (r:=i+1)) ?_
   refine zlv xas ?_
   refine zln<|zlq ⟨i+1,rfl,(by omega),(by omega),?_,rfl,hS⟩
   ·
    have hq:(ml i)=(ml2 i)/\∀k,0<=k->k<(ml i)->(mf i) k=(mf2 i) k:=by first|assumption|exact Classical.not_not.1 ‹_›
    intro k k0 k1;rcases Int.lt_or_eq_of_le (show k<=i by omega) with hk|hk
    · exact hall k k0 hk
    · rw [hk];exact hq
  refine zx8 ?_
  refine zlv xas ?_
  refine zx1<|zf1 ⟨_,rfl,?_⟩
  exact⟨ZW ⟨by omega,fun k k0 k1=>hall k k0 (by omega)⟩,hS⟩
set_option maxRecDepth 20000 in
theorem Zcz{x y:Int}(w0:World)(hx0:0<=x/\x<=9223372036854775807)(hy0:0<=y/\y<=9223372036854775807):
    Calls Try.prog 65 [.int .i64 x,.int .i64 y].toArray w0 fun e w=>∃v,e= .returned v/\v= .int .i64 (Int.gcd x y)/\Sat w0 w []:=by
  refine Zn Try.func65 Try.ntmps65 fun w hS=> ?_
  refine zsr ?_
  refine zlv xas ?_
  refine zlt<|zsq<|zbk<|zlp (fun mm M w=>∃(x1:Int) (y1:Int),mm=y1.toNat/\(0<=x1)/\(x1<=9223372036854775807)/\(0<=y1)/\(y1<=9223372036854775807)/\(Int.gcd x1 y1=Int.gcd x y)/\M= [(0,.int .i64 x1),(1,.int .i64 y1),(4,.int .i64 0)]/\Sat w0 w []) ⟨x,y,rfl,(by omega),(by omega),(by omega),?_,?_,rfl,hS⟩ ?_
  ·
   omega
  ·
   rfl
  clear hS w
  rintro mm M w ⟨x1,y1,rfl,hx,hx1,hy,hy1,hgc,rfl,hS⟩
  have htn:=Int.tmod_nonneg y1 hx
  refine zsq<|zsr ?_
  refine zs2 ?_
  refine zlt ?_
  refine zcif ?_ ?_<;>intro hc
  ·
   refine zsk<|ztn<|zbk ?_
   refine zdst [] [] 1000 mx_ hS ?_;clear hS;intro w hS
   refine zDrv 0 xmv ?_
   refine zDrv 1 xmv ?_
   refine zDrv 2 xmv ?_
   refine zDrv 3 (xrem (r:=(Int.tmod x1 y1))) ?_
   refine zDrv 4 xas ?_
   refine zDrv 5 xas ?_
   refine zdd<|zbn<|zlq ⟨y1,(Int.tmod x1 y1),rfl,(by omega),(by omega),(by omega),?_,?_,rfl,hS⟩ (hlt:=(by have:=Int.tmod_lt_of_pos x1 (show 0<y1 by omega);omega))
   ·
    have:=Int.tmod_lt_of_pos x1 (show 0<y1 by omega);omega
   ·
    rw [RB hx (by omega)];exact hgc
  refine zx8 ?_
  refine zs2 ?_
  refine zx1<|zf1 ⟨_,rfl,?_⟩
  obtain rfl:y1=0:=by omega
  exact⟨by rw [<-hgc,Int.gcd_zero_right];congr 1;omega,hS⟩
def ZC(s:So):Prop:=(1<=s.den/\s.den<=1073741824)/\(0<=s.val/\s.val<=1073741824)/\∀k,0<=k->k<s.n->0<=s.X k/\s.X k<=1073741824
def two(x y:Int):Int->Int:=fun k=> [x,y].getD k.toNat 0
theorem K1{n x y:Int}{f:Int->Int}(hn:0<=n):(∀k,0<=k->k<n->cat n f (two x y) k=f k)/\cat n f (two x y) n=x/\cat n f (two x y) (n+1)=y:=by
  refine⟨fun k k0 k1=> ?_,?_,?_⟩
  · unfold cat;rw [if_pos k1]
  · unfold cat;rw [if_neg (by omega),Int.sub_self];rfl
  · unfold cat;rw [if_neg (by omega),show n+1-n=1 by omega];rfl
theorem WF{s:So}{x:Int}(hn:0<=s.n)(he:∃k,0<=k/\k<s.n+2/\cat s.n s.X (two s.val s.den) k=x)(ha:∀k,0<=k->k<s.n+2->cat s.n s.X (two s.val s.den) k<=x)(h1:1<=s.den)(h2:0<=s.val)(h3:¬∃k,0<=k/\k<s.n/\s.X k<0):x<=1073741824↔ZC s:=by
  obtain⟨c1,c2,c3⟩:=K1 (n:=s.n) (x:=s.val) (y:=s.den) (f:=s.X) hn
  constructor
  · intro hx
    have a1:=ha s.n hn (by omega)
    have a2:=ha (s.n+1) (by omega) (by omega)
    exact⟨⟨h1,by omega⟩,⟨h2,by omega⟩,fun k k0 k1=>⟨Int.not_lt.1 fun hh=>h3 ⟨k,k0,k1,hh⟩,by have:=ha k k0 (by omega);rw [c1 k k0 k1] at this;omega⟩⟩
  · rintro⟨b1,b2,b3⟩
    obtain⟨k,k0,k1,hk⟩:=he
    by_cases e:k<s.n
    · rw [c1 k k0 e] at hk;have:=b3 k k0 e;omega
    · by_cases e2:k=s.n
      · rw [e2,c2] at hk;omega
      · rw [show k=s.n+1 by omega,c3] at hk;omega
theorem Zcx{x:Int}(w0:World):
    Calls Try.prog 74 [.int .i64 x].toArray w0 fun e w=>∃v,e= .returned v/\v=B (x<0)/\Sat w0 w []:=by
  refine Zn Try.func74 Try.ntmps74 fun w hS=> ?_
  refine zsr ?_
  refine zlv xas ?_
  refine zlz ?_
  refine zs3 ?_
  refine zx1<|zf1 ⟨_,rfl,?_⟩
  exact⟨Zw (by omega),hS⟩
theorem Zai{v:Value}{n:Int}{f:Int->Int}(w0:World)(hR:Row w0 v 1 n (ints f)):
    Calls Try.prog 78 [v,.func (.func 74) #[] #[]].toArray w0 fun e w=>∃v,e= .returned v/\∃r:Int,v= .int .i64 r/\((r= -1/\∀k,0<=k->k<n->¬(f k<0))\/(0<=r/\r<n/\(f r<0)))/\Sat w0 w []:=by
  have hn:=hR.slh.n0;have hn1:=hR.slh.n1
  refine Zn Try.func78 Try.ntmps78 fun w hS=> ?_
  refine zsr ?_
  refine zlv xas ?_
  refine zx5 ?_
  refine zlv xmv ?_
  refine zlv (xln sl_22 hR.slh) ?_
  refine zlv xmv ?_
  refine zx6<|zlp (fun mm M w=>∃(i:Int),mm=((n-i).toNat)/\(0<=i)/\(i<=n)/\(∀k,0<=k->k<i->¬(f k<0))/\M= [(0,v),(1,.func (.func 74) #[] #[]),(7,.int .i64 n),(8,.int .i64 i)]/\Sat w0 w []) ⟨0,rfl,(by omega),(by omega),?_,rfl,hS⟩ ?_
  ·
   intro k h0 h1;omega
  clear hS w
  rintro mm M w ⟨i,rfl,h0,h1,hall,rfl,hS⟩
  refine zsr ?_
  refine zlv Zk ?_
  refine zlt<|zsq ?_
  refine zcif ?_ ?_<;>intro hc
  ·
   refine zx3 ?_
   refine zs2 ?_
   refine zlz ?_
   refine zs3 ?_
   refine zlv (xix (kk:=i) sl_22 hR.slh) ?_
   refine zlv (xlr (u:= .int .i64 (f i)) pl_3 (hR.below hS.below)) ?_
   refine zlc (xc0 Zca) (Zcx (x:=(f i)) w) ?_;rintro _ w ⟨rfl,hS'⟩
   replace hS:=hS.cmp hS';clear hS'
   refine zlt ?_
   refine zcif ?_ ?_<;>intro hc
   ·
    refine zsr ?_
    refine zs2 ?_
    refine zx2<|zf1 ⟨_,rfl,?_⟩
    exact⟨i,rfl,.inr ⟨by omega,by omega,‹f i<0›⟩,hS⟩
   refine zx4 ?_
   refine zlv (xadd (r:=i+1)) ?_
   refine zlv xmv ?_
   refine zln<|zlq ⟨i+1,rfl,(by omega),(by omega),?_,rfl,hS⟩
   ·
    intro k h0' h1';rcases Int.lt_or_eq_of_le (show k<=i by omega) with hk|hk;exact hall k h0' hk;rw [hk];assumption
  refine zx8 ?_
  refine zlv xas ?_
  refine zx1<|zf1 ⟨_,rfl,?_⟩
  exact⟨-1,rfl,.inl ⟨rfl,fun k h0 h1=>hall k h0 (by omega)⟩,hS⟩
theorem c_coneg{v:Value}{n:Int}{f:Int->Int}(w0:World)(hR:Row w0 v 1 n (ints f)):
    Calls Try.prog 75 [v,.func (.func 74) #[] #[]].toArray w0 fun e w=>∃v,e= .returned v/\v=B (∃k,0<=k/\k<n/\(f k<0))/\Sat w0 w []:=by
  refine Zn Try.func75 Try.ntmps75 fun w hS=> ?_
  refine zsr ?_
  refine zlv xas ?_
  refine zlz ?_
  refine zs2 ?_
  refine zlc (xc0 ZaA) (Zai w (hR.below hS.below)) ?_;rintro _ w ⟨r1,rfl,hr1,hS'⟩
  replace hS:=hS.cmp hS';clear hS'
  refine zs2 ?_
  refine zx1<|zf1 ⟨_,rfl,?_⟩
  exact⟨Zw (by
   rcases hr1 with⟨h1,h2⟩|⟨h1,h2,h3⟩
   · exact⟨fun h=>by omega,fun⟨k,h4,h5,h6⟩=>absurd h6 (h2 k h4 h5)⟩
   · exact⟨fun _=>⟨_,h1,h2,h3⟩,fun _=>h1⟩),hS⟩
set_option maxRecDepth 20000 in
theorem XQ{vX vY:Value}{s:So}(w0:World)(hX:Row w0 vX 1 s.n (ints s.X))(hY:Row w0 vY 1 s.m (ints s.Y))(hn60:s.n<=1000):
    Calls Try.prog 43 [.agg #[vX,vY,.int .i64 s.val,.int .i64 s.den]].toArray w0 fun e w=>∃v,e= .returned v/\v=B (ZC s)/\Sat w0 w []:=by
  have hn:=hX.slh.n0;have hn1:=hX.slh.n1
  refine Zn Try.func43 Try.ntmps43 fun w hS=> ?_
  refine zsr ?_
  refine zla (xbx (cs:= [_,_,_,_]) hS) ?_;rintro _ w ⟨g1,rfl,hS⟩
  replace hS:=hS.n1
  refine zlv xas ?_
  refine zlt<|zsq ?_
  refine zdst [0] [0] 1000 mx_ hS ?_;clear hS;intro w hS
  refine zDrv 0 (xfb 0 fd_36_0) ?_
  refine zdla 1 (fun w hS=>(xlb 0 pl_22 hS)) ?_
  refine zDrv 3 (xfb 2 fd_36_2) ?_
  refine zdla 4 (fun w hS=>(xlb 0 pl_3 hS)) ?_
  refine zDrv 5 (xfb 3 fd_36_3) ?_
  refine zdla 6 (fun w hS=>(xlb 0 pl_3 hS)) ?_
  refine X8 (r:= [2,7]) ((Yu ?_ (Yu ?_ X7)))
  ·
   refine zkc (xc0 XA) (Yq (n:=s.n) (f:=s.X) w (hX.below hS.below) (by omega)) ?_;rintro vq1 w ⟨_,rfl,hslq1,hS'⟩
   replace hS:Sat w0 w [.blk g1 [vX,vY,.int .i64 s.val,.int .i64 s.den],.own vq1 1 3 s.n (ints s.X)]:=hS.comp hS';clear hS'
   refine⟨⟨fun _=>hS.pk [0],hS.pk [0]⟩,?_⟩
   refine zda 7 (xli (n:=2) (len:=2) (pv:= [(0,.int .i64 s.val),(1,.int .i64 s.den)]) (cs:= [.int .i64 s.val,.int .i64 s.den]) (c:=ints (fun k=> [s.val,s.den].getD k.toNat 0)) sl_22 ZG hS) ?_;rintro v1 w ⟨hS,hv1⟩
   replace hS:=hS.n3
   refine⟨⟨fun _=>hS.pk [0],hS.pk [0]⟩,?_⟩
   refine zda 8 (xap 1 (r:=s.n+2) (f:=ints (cat s.n s.X (two s.val s.den))) sl_22 ZG hS (hS.rowN 2 rfl) (by exact Yf _ _ _)) ?_;rintro v2 w ⟨hS,hv2⟩
   replace hS:=hS.n3
   refine⟨⟨fun _=>hS.pk [0],hS.pk [0]⟩,?_⟩
   refine zDrv 9 xas ?_
   refine zdd<|ztn<|zsr ?_
   refine zlv xas ?_
   refine zlz ?_
   refine zlv (xfb 3 fd_36_3) ?_
   refine zlv (xlb 0 pl_3 hS) ?_
   refine zs2 ?_
   refine zlb 17 ?_ ?_<;>intro hc
   ·
    refine zlv (xfb 2 fd_36_2) ?_
    refine zlv (xlb 0 pl_3 hS) ?_
    refine zs3 ?_
    refine zlb 22 ?_ ?_<;>intro hc
    ·
     refine zlv (xfb 0 fd_36_0) ?_
     refine zlv (xlb 0 pl_22 hS) ?_
     refine zlv xmv ?_
     refine zlc (xc0 cl_75) (c_coneg (n:=s.n) (f:=s.X) w (hX.below hS.below)) ?_;rintro _ w ⟨rfl,hS'⟩
     replace hS:=hS.cmp hS';clear hS'
     refine zs3 ?_
     refine zlb 29 ?_ ?_<;>intro hc
     ·
      refine zlv xmv ?_
      refine zlc (xc0 cl_38) (c_max (n:=(s.n+2)) (f:=(cat s.n s.X (two s.val s.den))) w (hS.rowN 1 rfl) (by omega)) ?_;rintro _ w ⟨x1,rfl,hex1,hax1,hS'⟩
      replace hS:=hS.cmp hS';clear hS'
      refine zs3 ?_
      refine zx1<|zf1 ⟨_,rfl,?_⟩
      exact⟨Zw (WF hn hex1 hax1 (by omega) (by omega) (show¬(∃k,0<=k/\k<s.n/\s.X k<0) by first|assumption|exact fun hh=>absurd hh ‹_›)),hS.nl⟩
     iterate 3 refine zlo ?_
     refine zs2 ?_
     refine zx1<|zf1 ⟨_,rfl,?_⟩
     exact⟨Zc (by rintro⟨g1,g2,g3⟩;first|omega|(obtain⟨k,k0,k1,hk⟩:=(show∃k,0<=k/\k<s.n/\s.X k<0 by first|assumption|exact Classical.not_not.1 (by assumption));have:=g3 k k0 k1;omega)),hS.nl⟩
    iterate 5 refine zlo ?_
    refine zs2 ?_
    iterate 3 refine zlo ?_
    refine zs2 ?_
    refine zx1<|zf1 ⟨_,rfl,?_⟩
    exact⟨Zc (by rintro⟨g1,g2,g3⟩;first|omega|(obtain⟨k,k0,k1,hk⟩:=(show∃k,0<=k/\k<s.n/\s.X k<0 by first|assumption|exact Classical.not_not.1 (by assumption));have:=g3 k k0 k1;omega)),hS.nl⟩
   iterate 3 refine zlo ?_
   refine zs2 ?_
   iterate 5 refine zlo ?_
   refine zs2 ?_
   iterate 3 refine zlo ?_
   refine zs2 ?_
   refine zx1<|zf1 ⟨_,rfl,?_⟩
   exact⟨Zc (by rintro⟨g1,g2,g3⟩;first|omega|(obtain⟨k,k0,k1,hk⟩:=(show∃k,0<=k/\k<s.n/\s.X k<0 by first|assumption|exact Classical.not_not.1 (by assumption));have:=g3 k k0 k1;omega)),hS.nl⟩
  refine zka (xli (n:=2) (len:=2) (pv:= [(0,.int .i64 s.val),(1,.int .i64 s.den)]) (cs:= [.int .i64 s.val,.int .i64 s.den]) (c:=ints (fun k=> [s.val,s.den].getD k.toNat 0)) sl_22 ZG hS) ?_;rintro v1 w ⟨hS,hv1⟩
  replace hS:=hS.n2
  refine⟨⟨fun _=>hS.pk [0],hS.pk [0]⟩,?_⟩
  refine zdc 2 (xc0 XA) (Yq (n:=s.n) (f:=s.X) w (hX.below hS.below) (by omega)) ?_;rintro vq1 w ⟨_,rfl,hslq1,hS'⟩
  replace hS:Sat w0 w [.blk g1 [vX,vY,.int .i64 s.val,.int .i64 s.den],.own v1 1 3 2 (ints (fun k=> [s.val,s.den].getD k.toNat 0)),.own vq1 1 3 s.n (ints s.X)]:=hS.comp hS';clear hS'
  refine⟨⟨fun _=>hS.pk [0],hS.pk [0]⟩,?_⟩
  refine zda 8 (xap 2 (r:=s.n+2) (f:=ints (cat s.n s.X (two s.val s.den))) sl_22 ZG hS (hS.rowN 1 rfl) (by exact Yf _ _ _)) ?_;rintro v2 w ⟨hS,hv2⟩
  replace hS:=hS.n3
  refine⟨⟨fun _=>hS.pk [0],hS.pk [0]⟩,?_⟩
  refine zDrv 9 xas ?_
  refine zdd<|ztn<|zsr ?_
  refine zlv xas ?_
  refine zlz ?_
  refine zlv (xfb 3 fd_36_3) ?_
  refine zlv (xlb 0 pl_3 hS) ?_
  refine zs2 ?_
  refine zlb 17 ?_ ?_<;>intro hc
  ·
   refine zlv (xfb 2 fd_36_2) ?_
   refine zlv (xlb 0 pl_3 hS) ?_
   refine zs3 ?_
   refine zlb 22 ?_ ?_<;>intro hc
   ·
    refine zlv (xfb 0 fd_36_0) ?_
    refine zlv (xlb 0 pl_22 hS) ?_
    refine zlv xmv ?_
    refine zlc (xc0 cl_75) (c_coneg (n:=s.n) (f:=s.X) w (hX.below hS.below)) ?_;rintro _ w ⟨rfl,hS'⟩
    replace hS:=hS.cmp hS';clear hS'
    refine zs3 ?_
    refine zlb 29 ?_ ?_<;>intro hc
    ·
     refine zlv xmv ?_
     refine zlc (xc0 cl_38) (c_max (n:=(s.n+2)) (f:=(cat s.n s.X (two s.val s.den))) w (hS.rowN 2 rfl) (by omega)) ?_;rintro _ w ⟨x1,rfl,hex1,hax1,hS'⟩
     replace hS:=hS.cmp hS';clear hS'
     refine zs3 ?_
     refine zx1<|zf1 ⟨_,rfl,?_⟩
     exact⟨Zw (WF hn hex1 hax1 (by omega) (by omega) (show¬(∃k,0<=k/\k<s.n/\s.X k<0) by first|assumption|exact fun hh=>absurd hh ‹_›)),hS.nl⟩
    iterate 3 refine zlo ?_
    refine zs2 ?_
    refine zx1<|zf1 ⟨_,rfl,?_⟩
    exact⟨Zc (by rintro⟨g1,g2,g3⟩;first|omega|(obtain⟨k,k0,k1,hk⟩:=(show∃k,0<=k/\k<s.n/\s.X k<0 by first|assumption|exact Classical.not_not.1 (by assumption));have:=g3 k k0 k1;omega)),hS.nl⟩
   iterate 5 refine zlo ?_
   refine zs2 ?_
   iterate 3 refine zlo ?_
   refine zs2 ?_
   refine zx1<|zf1 ⟨_,rfl,?_⟩
   exact⟨Zc (by rintro⟨g1,g2,g3⟩;first|omega|(obtain⟨k,k0,k1,hk⟩:=(show∃k,0<=k/\k<s.n/\s.X k<0 by first|assumption|exact Classical.not_not.1 (by assumption));have:=g3 k k0 k1;omega)),hS.nl⟩
  iterate 3 refine zlo ?_
  refine zs2 ?_
  iterate 5 refine zlo ?_
  refine zs2 ?_
  iterate 3 refine zlo ?_
  refine zs2 ?_
  refine zx1<|zf1 ⟨_,rfl,?_⟩
  exact⟨Zc (by rintro⟨g1,g2,g3⟩;first|omega|(obtain⟨k,k0,k1,hk⟩:=(show∃k,0<=k/\k<s.n/\s.X k<0 by first|assumption|exact Classical.not_not.1 (by assumption));have:=g3 k k0 k1;omega)),hS.nl⟩
theorem RC{x y:Int}(hx:0<=x)(hy:1<=y):1<=(Int.gcd x y:Int):=by
  have:Int.gcd x y≠0:=fun h=>by have:=(Int.gcd_eq_zero_iff.1 h).2;omega
  omega
def ValR(s:So)(x y e:Int):Prop:=(¬ZC s/\x=0/\y=0/\e=1)\/(ZC s/\x=s.val.tdiv (Int.gcd s.val s.den)/\y=s.den.tdiv (Int.gcd s.val s.den)/\e=0)
theorem ValR.same{s:So}{x y e x2 y2 e2:Int}(h:ValR s x y e)(h':ValR s x2 y2 e2):x=x2/\y=y2/\e=e2:=by
  rcases h with⟨h1,h2,h3,h4⟩|⟨h1,h2,h3,h4⟩<;>rcases h' with⟨g1,g2,g3,g4⟩|⟨g1,g2,g3,g4⟩
  · exact⟨by omega,by omega,by omega⟩
  · exact absurd g1 h1
  · exact absurd h1 g1
  · exact⟨by rw [h2,g2],by rw [h3,g3],by omega⟩
def CeilR(s:So)(x e:Int):Prop:=(¬ZC s/\x=0/\e=1)\/(ZC s/\x=(s.val+s.den-1).tdiv s.den/\e=0)
theorem CeilR.same{s:So}{x e x2 e2:Int}(h:CeilR s x e)(h':CeilR s x2 e2):x=x2/\e=e2:=by
  rcases h with⟨h1,h2,h4⟩|⟨h1,h2,h4⟩<;>rcases h' with⟨g1,g2,g4⟩|⟨g1,g2,g4⟩
  · exact⟨by omega,by omega⟩
  · exact absurd g1 h1
  · exact absurd h1 g1
  · exact⟨by rw [h2,g2],by omega⟩
set_option maxRecDepth 20000 in
theorem T0{vX vY:Value}{s:So}(w0:World)(hX:Row w0 vX 1 s.n (ints s.X))(hY:Row w0 vY 1 s.m (ints s.Y))(hn60:s.n<=1000):
    Calls Try.prog 29 [.agg #[vX,vY,.int .i64 s.val,.int .i64 s.den]].toArray w0 fun e w=>∃v,e= .returned v/\∃(x y e:Int),v= .tuple #[.agg #[.int .i64 x,.int .i64 y],.int .i64 e]/\ValR s x y e/\Sat w0 w []:=by
  have hn:=hX.slh.n0;have hn1:=hX.slh.n1
  refine Zn Try.func29 Try.ntmps29 fun w hS=> ?_
  refine zsr ?_
  refine zla (xbx (cs:= [_,_,_,_]) hS) ?_;rintro _ w ⟨g1,rfl,hS⟩
  replace hS:=hS.n1
  refine zla (xal (cs:= [_,_]) Zaz hS) ?_;rintro _ w ⟨g2,rfl,hS⟩
  replace hS:=hS.n2
  refine zlv xas ?_
  refine zx5 ?_
  refine zlv (xls 0 Zt hS) ?_
  refine zlc (xc0 RX) (XQ (s:=s) w (hX.below hS.below) (hY.below hS.below) (by omega)) ?_;rintro _ w ⟨rfl,hS'⟩
  replace hS:=hS.cmp hS';clear hS'
  refine zlv ZX ?_
  refine zlt ?_
  refine zcif ?_ ?_<;>intro hc
  ·
   refine zsr ?_
   refine zlv (xany (v:= .agg #[.int .i64 0,.int .i64 0])) ?_
   refine zle (xsw 1 st_65 hS) ?_;clear hS;rintro w hS
   replace hS:=hS.n2
   refine zlv xas ?_
   refine zx14<|Ym 1 st_65 hS ⟨_,rfl,?_⟩
   exact⟨0,0,1,rfl,.inl ⟨‹¬ZC s›,rfl,rfl,rfl⟩,hS.nl⟩
  refine zsk<|ztn<|zsr ?_
  refine zlv (xfb 2 fd_36_2) ?_
  have hsd:ZC s:=by first|assumption|exact Classical.not_not.1 ‹_›
  obtain⟨⟨d1,d2⟩,⟨d3,d4⟩,d5⟩:=id hsd
  refine zlv (xlb 0 pl_3 hS) ?_
  refine zlv (xfb 3 fd_36_3) ?_
  refine zlv (xlb 0 pl_3 hS) ?_
  refine zlc (xc0 Zch) (Zcz (x:=s.val) (y:=s.den) w (by omega) (by omega)) ?_;rintro _ w ⟨rfl,hS'⟩
  replace hS:=hS.cmp hS';clear hS'
  refine zlv xas ?_
  have hgp:=RC (x:=s.val) (y:=s.den) (by omega) (by omega)
  have hq1:=Yk (a:=s.val) (d:=(Int.gcd s.val s.den:Int)) (A:=9223372036854775807) hgp (by omega)
  have hq2:=Yk (a:=s.den) (d:=(Int.gcd s.val s.den:Int)) (A:=9223372036854775807) hgp (by omega)
  refine zlt<|zsq ?_
  refine zdst [0,1] [0] 9 mx_ hS ?_;clear hS;intro w hS
  refine zDrv 0 (xfb 2 fd_36_2) ?_
  refine zdla 1 (fun w hS=>(xlb 0 pl_3 hS)) ?_
  refine zDrv 2 xmv ?_
  refine zDrv 3 (UA (r:=(Int.tdiv s.val (Int.gcd s.val s.den:Int)))) ?_
  refine zDrv 4 (xfb 3 fd_36_3) ?_
  refine zdla 5 (fun w hS=>(xlb 0 pl_3 hS)) ?_
  refine zDrv 6 xmv ?_
  refine zDrv 7 (UA (r:=(Int.tdiv s.den (Int.gcd s.val s.den:Int)))) ?_
  refine zDrv 8 (xany (v:= .agg #[.int .i64 (Int.tdiv s.val (Int.gcd s.val s.den:Int)),.int .i64 (Int.tdiv s.den (Int.gcd s.val s.den:Int))])) ?_
  refine zde 9 (xsw 1 st_65 hS) ?_;clear hS;rintro w hS
  replace hS:=hS.n2
  refine⟨⟨fun h=>absurd h (by decide),hS.pk [0]⟩,?_⟩
  refine zDrv 10 xas ?_
  refine zdd<|ztn<|zrt<|Ym 1 st_65 hS ⟨_,rfl,?_⟩
  exact⟨_,_,0,rfl,.inr ⟨hsd,rfl,rfl,rfl⟩,hS.nl⟩
set_option maxRecDepth 20000 in
theorem Kc{vX vY:Value}{s:So}(w0:World)(hX:Row w0 vX 1 s.n (ints s.X))(hY:Row w0 vY 1 s.m (ints s.Y))(hn60:s.n<=1000):
    Calls Try.prog 13 [.agg #[vX,vY,.int .i64 s.val,.int .i64 s.den]].toArray w0 fun e w=>∃v,e= .returned v/\∃(x e:Int),v= .tuple #[.int .i64 x,.int .i64 e]/\CeilR s x e/\Sat w0 w []:=by
  have hn:=hX.slh.n0;have hn1:=hX.slh.n1
  refine Zn Try.func13 Try.ntmps13 fun w hS=> ?_
  refine zsr ?_
  refine zla (xbx (cs:= [_,_,_,_]) hS) ?_;rintro _ w ⟨g1,rfl,hS⟩
  replace hS:=hS.n1
  refine zs2 ?_
  refine zx5 ?_
  refine zlv (xls 0 Zt hS) ?_
  refine zlc (xc0 RX) (XQ (s:=s) w (hX.below hS.below) (hY.below hS.below) (by omega)) ?_;rintro _ w ⟨rfl,hS'⟩
  replace hS:=hS.cmp hS';clear hS'
  refine zlv ZX ?_
  refine zlt ?_
  refine zcif ?_ ?_<;>intro hc
  ·
   refine zsr ?_
   refine zs2 ?_
   refine zx14<|zf2 ⟨_,rfl,?_⟩
   exact⟨0,1,rfl,.inl ⟨‹¬ZC s›,rfl,rfl⟩,hS.nl⟩
  refine zsk<|ztn<|zsr ?_
  refine zlv (xfb 2 fd_36_2) ?_
  have hsd:ZC s:=by first|assumption|exact Classical.not_not.1 ‹_›
  obtain⟨⟨d1,d2⟩,⟨d3,d4⟩,d5⟩:=id hsd
  have hq1:=Yk (a:=s.val+s.den-1) (d:=s.den) (A:=4294967296) d1 (by omega)
  refine zlv (xlb 0 pl_3 hS) ?_
  refine zlv (xfb 3 fd_36_3) ?_
  refine zlv (xlb 0 pl_3 hS) ?_
  refine zlv (xadd (r:=s.val+s.den)) ?_
  refine zlv (xsub (r:=s.val+s.den-1)) ?_
  refine zlv (xfb 3 fd_36_3) ?_
  refine zlv (xlb 0 pl_3 hS) ?_
  refine zlv (UA (r:=(Int.tdiv (s.val+s.den-1) s.den))) ?_
  refine zs2 ?_
  refine zx1<|zf2 ⟨_,rfl,?_⟩
  exact⟨_,0,rfl,.inr ⟨hsd,rfl,rfl⟩,hS.nl⟩
def UK(p:Prob)(i:Int):Int->Int:=fun j=>if j=i then min (p.D i) ((p.stock+p.kerf).tdiv (p.L i+p.kerf)) else 0
theorem Ru(p:Prob)(i:Int):upd (fun _=>0) i (min (p.D i) ((p.stock+p.kerf).tdiv (p.L i+p.kerf)))=UK p i:=by
  funext j;unfold upd UK;rfl
set_option maxRecDepth 20000 in
theorem Zcw{vL vD:Value}{p:Prob}{gp:Nat}{i:Int}(w0:World)(hG:(Ent.blk gp [vL,vD,.int .i64 p.stock,.int .i64 p.kerf]).holds w0)(h:PAt w0 vL vD p)(hok:p.Ok)(i0:0<=i)(i1:i<p.m):
    Calls Try.prog 64 [.int .i64 i,.pointer (some ⟨gp,0,none⟩)].toArray w0 fun e w=>∃v,e= .returned v/\∃r,v=r/\Slh r p.m/\Sat w0 w [.own r 1 3 p.m (ints (UK p i))]:=by
  have hm:=h.L.slh.n0;have hm1:=h.L.slh.n1;have hd:=h.D.slh.n0;have hd1:=h.D.slh.n1;have hs:=h.is;have hk:=h.ik
  have hpd:=hok.d;have hpm:=hok.m1;have hpm2:=hok.m2;have hs1:=hok.s1;have hs2:=hok.s2;have hk1:=hok.k1;have hk2:=hok.k2;have he:=hok.all i i0 i1;unfold Prob.each at he
  have hqd:=Yk (a:=p.stock+p.kerf) (d:=p.L i+p.kerf) (A:=2100) (by omega) (by omega)
  refine Zn Try.func64 Try.ntmps64 fun w hS=> ?_
  refine zsr ?_
  refine zlv xas ?_
  refine zlz ?_
  refine zlv (xfb 0 fd_39_0) ?_
  refine zlv (xlf pl_22 (Ent.holds.cell hG (o:=0) rfl) hS) ?_
  refine zlv (xln sl_22 h.L.slh) ?_
  refine zla (xmk sl_22 ZG hS) ?_;rintro v1 w ⟨hS,hv1⟩
  replace hS:=hS.n1
  refine zlv xas ?_
  refine zlt<|zsq ?_
  refine zdst [0] [] 23 mx_ hS ?_;clear hS;intro w hS
  refine zDrv 0 xmv ?_
  refine zDrv 1 xmv ?_
  refine zDrv 2 (xfb 1 fd_39_1) ?_
  refine zdla 3 (fun w hS=>(xlf pl_22 (Ent.holds.cell hG (o:=1) rfl) hS)) ?_
  refine zDrv 4 xmv ?_
  refine zDrv 5 (xix (kk:=i) sl_22 h.D.slh) ?_
  refine zdla 6 (fun w hS=>(xlr (u:= .int .i64 (p.D i)) pl_3 (h.D.below hS.below))) ?_
  have hbv:=h.iD i
  refine zDrv 7 (xfb 2 fd_39_2) ?_
  refine zdla 8 (fun w hS=>(xlf pl_3 (Ent.holds.cell hG (o:=2) rfl) hS)) ?_
  refine zDrv 9 (xfb 3 fd_39_3) ?_
  refine zdla 10 (fun w hS=>(xlf pl_3 (Ent.holds.cell hG (o:=3) rfl) hS)) ?_
  refine zDrv 11 (xadd (r:=p.stock+p.kerf)) ?_
  refine zDrv 12 (xfb 0 fd_39_0) ?_
  refine zdla 13 (fun w hS=>(xlf pl_22 (Ent.holds.cell hG (o:=0) rfl) hS)) ?_
  refine zDrv 14 xmv ?_
  refine zDrv 15 (xix (kk:=i) sl_22 h.L.slh) ?_
  refine zdla 16 (fun w hS=>(xlr (u:= .int .i64 (p.L i)) pl_3 (h.L.below hS.below))) ?_
  have hbv:=h.iL i
  refine zDrv 17 (xfb 3 fd_39_3) ?_
  refine zdla 18 (fun w hS=>(xlf pl_3 (Ent.holds.cell hG (o:=3) rfl) hS)) ?_
  refine zDrv 19 (xadd (r:=p.L i+p.kerf)) ?_
  refine zDrv 20 (UA (r:=(Int.tdiv (p.stock+p.kerf) (p.L i+p.kerf)))) ?_
  refine zdv 21 (fun _=>(ZaH (r:=(min (p.D i) (Int.tdiv (p.stock+p.kerf) (p.L i+p.kerf)))))) ?_
  refine zDrv 22 (xix (kk:=i) sl_22 hv1) ?_
  refine zde 23 (xso 0 pl_3 hS (ZZ _ _ _)) ?_;clear hS;rintro w hS
  replace hS:=hS.n1
  refine⟨⟨fun h=>absurd h (by decide),hS.nl⟩,?_⟩
  refine zdd<|ztn<|zsr ?_
  refine zs2 ?_
  refine zx1<|zf1 ⟨_,rfl,?_⟩
  rw [Ru] at hS
  exact⟨_,rfl,hv1,hS⟩
def stN(p:Prob):Nat->Int
  |0=>0
  |k+1=>if 0<p.D k then stN p k+1 else stN p k
def stL(p:Prob):Nat->Int->Int
  |0=>fun _=>0
  |k+1=>if 0<p.D k then gsn (stL p k) (stN p k) p.m else stL p k
def stG(p:Prob):Nat->Int->Int->Int
  |0=>fun _ _=>0
  |k+1=>if 0<p.D k then gsn (stG p k) (stN p k) (UK p k) else stG p k
theorem VM(p:Prob){i:Int}(h:0<=i):stN p (i+1).toNat=if 0<p.D i then stN p i.toNat+1 else stN p i.toNat:=by
  obtain⟨k,rfl⟩:=Int.eq_ofNat_of_zero_le h;rw [show((k:Int)+1).toNat=k+1 by omega,Int.toNat_natCast];rfl
theorem VN(p:Prob){i:Int}(h:0<=i):stL p (i+1).toNat=if 0<p.D i then gsn (stL p i.toNat) (stN p i.toNat) p.m else stL p i.toNat:=by
  obtain⟨k,rfl⟩:=Int.eq_ofNat_of_zero_le h;rw [show((k:Int)+1).toNat=k+1 by omega,Int.toNat_natCast];rfl
theorem VO(p:Prob){i:Int}(h:0<=i):stG p (i+1).toNat=if 0<p.D i then gsn (stG p i.toNat) (stN p i.toNat) (UK p i) else stG p i.toNat:=by
  obtain⟨k,rfl⟩:=Int.eq_ofNat_of_zero_le h;rw [show((k:Int)+1).toNat=k+1 by omega,Int.toNat_natCast];rfl
theorem U3(p:Prob):∀k:Nat,0<=stN p k/\stN p k<=k
  |0=>by simp [stN]
  | k+1=>by
    have:=U3 p k
    simp only [stN];split<;>omega
def Zat(p:Prob)(n:Int)(ln:Int->Int)(g:Int->Int->Int)(e:Int):Prop:=(¬p.Ok/\n=0/\e=1)\/(p.Ok/\n=stN p p.m.toNat/\ln=stL p p.m.toNat/\g=stG p p.m.toNat/\e=0)
set_option maxRecDepth 20000 in
theorem R8{vL vD:Value}{p:Prob}(w0:World)(h:PAt w0 vL vD p):
    Calls Try.prog 28 [.agg #[vL,vD,.int .i64 p.stock,.int .i64 p.kerf]].toArray w0 fun e w=>∃v,e= .returned v/\∃r n vv ln g e,v= .tuple #[r,.int .i64 e]/\Zat p n ln g e/\Slh r n/\Sat w0 w [.own r 1 22 n vv,.sem (Frame.rows 3 n vv ln g)]:=by
  have hm:=h.L.slh.n0;have hm1:=h.L.slh.n1;have hd:=h.D.slh.n0;have hd1:=h.D.slh.n1;have hs:=h.is;have hk:=h.ik
  refine Zn Try.func28 Try.ntmps28 fun w hS=> ?_
  refine zsr ?_
  refine zla (xbx (cs:= [_,_,_,_]) hS) ?_;rintro _ w ⟨g1,rfl,hS⟩
  replace hS:=hS.n1
  refine zs2 ?_
  refine zx5 ?_
  refine zlv (xls 0 YX hS) ?_
  refine zlc (xc0 RY) (Wv (p:=p) w (h.below hS.below)) ?_;rintro _ w ⟨rfl,hS'⟩
  replace hS:=hS.cmp hS';clear hS'
  refine zlv ZX ?_
  refine zlt ?_
  refine zcif ?_ ?_<;>intro hc
  ·
   refine zsr ?_
   refine zs2 ?_
   refine zx14<|zf2 ⟨_,rfl,?_⟩
   exact⟨_,0,fun _=>undef,fun _=>0,fun _ _=>0,1,rfl,.inl ⟨‹¬p.Ok›,rfl,rfl⟩,slh_nil,((hS.sub (.cons _ .slnil)).addnil 1 22 (fun _=>undef)).addrows 3 (fun _=>undef) (fun _=>0) (fun _ _=>0)⟩
  refine zsk<|ztn<|zsr ?_
  refine zlv xmf ?_
  refine zlv xas ?_
  refine zlz ?_
  refine zlv xas ?_
  refine zx5 ?_
  refine zlv (xfb 1 fd_39_1) ?_
  refine zlv (xlb 0 pl_22 hS) ?_
  refine zlv (xln sl_22 h.D.slh) ?_
  refine zlv xmv ?_
  refine zx6 ?_
  have hok:p.Ok:=by first|assumption|exact Classical.not_not.1 ‹_›
  have hpd:=hok.d;have hpm:=hok.m1;have hpm2:=hok.m2
  replace hS:=hS.addnil 1 22 (fun _=>Value.slice none 0 0)
  replace hS:=hS.n2
  replace hS:=hS.addrows 3 (fun _=>Value.slice none 0 0) (fun _=>0) (fun _ _=>0)
  replace hS:=hS.n3
  replace hS:=hS.n3
  have hrs0:=fun k (k0:0<=k) (k1:k<0)=>hS.slhIn 2 rfl k0 k1
  refine zlp (fun mm M w=>∃(nC:Int) (wv:Int->Value) (lC:Int->Int) (gC:Int->Int->Int) (i:Int) (wC:Value),mm=((p.d-i).toNat)/\(0<=i)/\(i<=p.d)/\(nC=stN p i.toNat)/\(lC=stL p i.toNat)/\(gC=stG p i.toNat)/\(Slh wC nC)/\M= [(2,.slice none 0 0),(3,.int .i64 0),(4,.func (.func 64) #[] #[.pointer (some ⟨g1,0,none⟩)]),(5,wC),(13,vD),(14,.int .i64 p.d),(15,.int .i64 i)]/\Sat w0 w [.blk g1 [vL,vD,.int .i64 p.stock,.int .i64 p.kerf],.own wC 1 22 nC wv,.sem (Frame.rows 3 nC wv lC gC)]) ⟨0,(fun _=>Value.slice none 0 0),(fun _=>0),(fun _ _=>0),0,(.slice none 0 0),rfl,(by omega),(by omega),?_,?_,?_,?_,rfl,hS⟩ ?_
  ·
   rfl
  ·
   rfl
  ·
   rfl
  ·
   exact slh_nil
  clear hS w
  rintro mm M w ⟨nC,wv,lC,gC,i,wC,rfl,h0,h1,hnC,hlC,hgC,hwC,rfl,hS⟩
  have hrs1:=fun k (k0:0<=k) (k1:k<nC)=>hS.slhIn 2 rfl k0 k1
  have hnr:=U3 p i.toNat
  refine zsr ?_
  refine zlv Zk ?_
  refine zlt<|zsq ?_
  refine zcif ?_ ?_<;>intro hc
  ·
   refine zx3 ?_
   refine zlv xmv ?_
   refine zlv (xix (kk:=i) sl_22 h.D.slh) ?_
   refine zlv (xlr (u:= .int .i64 (p.D i)) pl_3 (h.D.below hS.below)) ?_
   have hbv:=h.iD i
   refine zs2 ?_
   refine zlz ?_
   refine zs2 ?_
   refine zlt ?_
   refine zcif ?_ ?_<;>intro hc
   ·
    refine zrg ?_
    refine zs3 ?_
    refine zlc (xcc (vs:= [_]) Zci) (Zcw (p:=p) (i:=i) w (hS.holds _ (List.mem_of_getElem? (i:=0) rfl)) (h.below hS.below) hok (by omega) (by omega)) ?_;rintro voo1 w ⟨_,rfl,hvoo1,hS'⟩
    replace hS:Sat w0 w [.blk g1 [vL,vD,.int .i64 p.stock,.int .i64 p.kerf],.own wC 1 22 nC wv,.sem (Frame.rows 3 nC wv lC gC),.own voo1 1 3 p.m (ints (UK p i))]:=hS.comp hS';clear hS'
    refine zla (xli (n:=1) (len:=1) (pv:= [(0,voo1)]) (cs:= [voo1]) (c:=(fun _=>voo1)) sl_32 YA hS (hf:=by obtain⟨_,_,_,_,rfl,_⟩:=hvoo1;kernel_rfl)) ?_;rintro v1 w ⟨hS,hv1⟩
    replace hS:=hS.n5
    refine zla (xap 1 (r:=nC+1) sl_32 YA hS (hS.rowN 4 rfl) (X6 _ _ _) (h1:=fun _ _ _=>hvoo1.one)) ?_;rintro v2 w ⟨hS,hv2⟩
    replace hS:=hS.n5
    replace hS:=Sat.merge (l1:= [_,_]) (l2:= []) (l3:= [_]) hS (by omega)
    have hrs2:=fun k (k0:0<=k) (k1:k<nC+1)=>hS.slhIn 2 rfl k0 k1
    replace hS:=hS.n4
    refine zlv xas ?_
    refine zx10 ?_
    refine zlv (xadd (r:=i+1)) ?_
    refine zlv xmv ?_
    refine zln<|zlq ⟨nC+1,gsn wv nC voo1,gsn lC nC p.m,gsn gC nC (UK p i),i+1,v2,rfl,(by omega),(by omega),?_,?_,?_,?_,rfl,hS.pk [0,1,2]⟩
    ·
     rw [VM p h0,<-hnC];first|rw [if_pos (by omega)]|rw [if_neg (by omega)]
    ·
     rw [VN p h0,<-hlC,<-hnC];first|rw [if_pos (by omega)]|rw [if_neg (by omega)]
    ·
     rw [VO p h0,<-hgC,<-hnC];first|rw [if_pos (by omega)]|rw [if_neg (by omega)]
    ·
     exact hv2
   refine zx4 ?_
   refine zlv (xadd (r:=i+1)) ?_
   refine zlv xmv ?_
   refine zln<|zlq ⟨nC,wv,lC,gC,i+1,wC,rfl,(by omega),(by omega),?_,?_,?_,?_,rfl,hS⟩
   ·
    rw [VM p h0,<-hnC];first|rw [if_pos (by omega)]|rw [if_neg (by omega)]
   ·
    rw [VN p h0,<-hlC,<-hnC];first|rw [if_pos (by omega)]|rw [if_neg (by omega)]
   ·
    rw [VO p h0,<-hgC,<-hnC];first|rw [if_pos (by omega)]|rw [if_neg (by omega)]
   ·
    exact hwC
  refine zx8 ?_
  refine zs3 ?_
  refine zx1<|zf2 ⟨_,rfl,?_⟩
  have him:i=p.m:=by omega
  rw [him] at hnC hlC hgC
  exact⟨_,_,_,_,_,0,rfl,.inr ⟨hok,hnC,hlC,hgC,rfl⟩,hwC,hS.pk [1,2]⟩
end Go.Proofs.Ytopmifmfecfaaaa
namespace Go.Proofs.Gw
open Go Go.RowKit
theorem bnd{P:Int->Prop}{n:Int}(h:∀k,k<n.toNat->P (k:Int)):∀i,0<=i->i<n->P i:=fun i i0 i1=>by
  have:=h i.toNat (by omega);rwa [Int.toNat_of_nonneg i0] at this
def VI(t:Tb):Bool:=
  decide (1<=t.nf/\t.nf<=60/\t.nb<=16/\t.vars=t.nf/\1<=t.den/\t.den<=1073741824/\t.nc=t.nb+1)&&
  decide (∀i,i<(t.nf+t.nb).toNat->0<=cat t.nf t.F t.B (i:Nat)/\cat t.nf t.F t.B (i:Nat)<t.nf+t.nb)&&
  decide (∀i,i<(t.nf+t.nb).toNat->∀j,j<(t.nf+t.nb).toNat->cat t.nf t.F t.B (i:Nat)=cat t.nf t.F t.B (j:Nat)->i=j)&&
  decide (∀i,i<t.nc.toNat->t.ln (i:Nat)=t.nf+1/\∀j,j<(t.ln (i:Nat)).toNat-> -1073741824<=t.C (i:Nat) (j:Nat)/\t.C (i:Nat) (j:Nat)<=1073741824)
theorem X2{t:Tb}(h:VI t=true):TPrp t:=by
  simp only [VI,Bool.and_eq_true,decide_eq_true_eq] at h
  obtain⟨⟨⟨⟨a1,a2,a3,a4,a5,a6,a7⟩,a8⟩,a9⟩,a10⟩:=h
  refine⟨a1,a2,a3,a4,a5,a6,a7,⟨bnd a8,fun i j i0 i1 j0 j1 e=> ?_⟩,fun i i0 i1=> ?_⟩
  · have:=a9 i.toNat (by omega) j.toNat (by omega) (by rw [Int.toNat_of_nonneg i0,Int.toNat_of_nonneg j0];exact e)
    omega
  · have:=a10 i.toNat (by omega)
    rw [Int.toNat_of_nonneg i0] at this
    exact⟨this.1,bnd this.2⟩
def Tf(t:Tb):Bool:=VI t&&decide (∀j,j<t.nf.toNat->0<=t.C 0 (j+1:Nat))
theorem Uk{t:Tb}(h:∀j,j<t.nf.toNat->0<=t.C 0 (j+1:Nat)):t.costs:=fun j j0 j1=>by
  have:=h (j-1).toNat (by omega)
  rwa [show(((j-1).toNat+1:Nat):Int)=j by omega] at this
theorem Te{t:Tb}{r c:Int}(h:Tf t=true)(h1:ZM t t.nb.toNat=r)(h2:Zz t r t.nf.toNat=c)(r0:0<=r)(c0:0<=c):NextR t r c false 0:=by
  simp only [Tf,Bool.and_eq_true,decide_eq_true_eq] at h
  subst h1
  exact .inr (.inr (.inr ⟨X2 h.1,Uk h.2,r0,by omega,rfl,h2.symm,rfl,rfl⟩))
theorem Kl{t:Tb}(h:Tf t=true)(h1:ZM t t.nb.toNat<0):NextR t 0 0 true 0:=by
  simp only [Tf,Bool.and_eq_true,decide_eq_true_eq] at h
  exact .inr (.inl ⟨X2 h.1,Uk h.2,h1,rfl,rfl,rfl,rfl⟩)
def ZbW(t:Tb)(row col:Int):Bool:=VI t&&decide (0<=row/\row<t.nb/\0<=col/\col<t.nf/\t.C (row+1) (col+1)≠0)&&VI (piv t row col)&&
  decide (∀i,i<(t.nb+1).toNat->∀j,j<(t.nf+1).toNat->(i:Int)≠row+1->(j:Int)≠col+1->(t.C (row+1) (col+1)*t.C (i:Nat) (j:Nat)-t.C (i:Nat) (col+1)*t.C (row+1) (j:Nat)).tmod t.den=0)
theorem Rr{t:Tb}{row col:Int}(h:ZbW t row col=true):PivR t row col (piv t row col) 0:=by
  simp only [ZbW,Bool.and_eq_true,decide_eq_true_eq] at h
  obtain⟨⟨⟨h1,h2⟩,h3⟩,h4⟩:=h
  refine .inr (.inr (.inr ⟨⟨X2 h1,h2⟩,fun i j i0 i1 j0 j1 hi hj=> ?_,X2 h3,rfl,rfl⟩))
  have:=h4 i.toNat (by omega) j.toNat (by omega)
  rw [Int.toNat_of_nonneg i0,Int.toNat_of_nonneg j0] at this
  exact this hi hj
theorem ZbY{w:World}{v a b:Value}{n m:Int}{f g:Int->Int}(h:Row w v 1 2 (fun k=> [a,b].getD k.toNat undef))(ha:Row w a 1 n (ints f))(hb:Row w b 1 m (ints g))(ra:Yn a)(rb:Yn b):MAt w v 2 (Zq a b) (Zq n m) (Zq f g):=by
  have e:∀k:Int,0<=k->k<2->k=0\/k=1:=fun k k0 k1=>by omega
  refine⟨⟨h.1,fun k hk=> ?_⟩,fun i i0 i1=> ?_,fun i i0 i1=> ?_⟩
  · have:=h.2 k hk
    rcases k with _|_|k
    · exact this
    · exact this
    · simp at hk;omega
  · rcases e i i0 i1 with rfl|rfl
    · exact ha
    · exact hb
  · rcases e i i0 i1 with rfl|rfl
    · exact ra
    · exact rb
end Go.Proofs.Gw
namespace Go.Proofs.Gw
open Go Go.RowKit
theorem Y7(pv:Int->Value)(cnt:Int->Int){k i:Int}(h:k=2*i):∀(j:Nat) u, [pv i,Value.int .i64 (cnt i)][j]? =some u->Zf pv cnt (k+j)=u:=fun j u hu=>by
  rcases j with _|_|j
  · cases hu;exact Yh pv cnt (by omega)
  · cases hu;exact Z0 pv cnt (by omega)
  · simp at hu
theorem ZA{pv:Int->Value}{cnt:Int->Int}(h:∀i,(pv i).oneCell'=true)(k:Int):(Zf pv cnt k).oneCell'=true:=by
  unfold Zf
  split
  · exact h _
  · rfl
theorem Xl(pv:Int->Value)(cnt:Int->Int)(n:Int)(r:Value)(x:Int):cat (n*2) (Zf pv cnt) (Zf (fun _=>r) (fun _=>x))=Zf (gsn pv n r) (Z5 cnt n x):=by
  funext k
  unfold cat Zf gsn Z5
  by_cases h:k<n*2
  · have h2:k/2<n:=by omega
    simp only [if_pos h,if_pos h2]
  · have h2:¬k/2<n:=by omega
    simp only [if_neg h,if_neg h2]
    by_cases e:k%2=0
    · rw [if_pos e,if_pos (by omega)]
    · rw [if_neg e,if_neg (by omega)]
theorem XU(pv:Int->Value)(cnt:Int->Int){k i x:Int}(h:k=2*i+1):upd (Zf pv cnt) k (.int .i64 x)=Zf pv (upd cnt i x):=by
  funext j;unfold upd Zf;dsimp only
  by_cases e:j=k
  · rw [if_pos e,if_neg (by omega),if_pos (by omega)]
  · rw [if_neg e]
    by_cases e0:j%2=0
    · rw [if_pos e0,if_pos e0]
    · rw [if_neg e0,if_neg e0,if_neg (by omega)]
structure VAt (w:World) (v:Value) (n:Int) (pv:Int->Value) (ln:Int->Int) (pt:Int->Int->Int) (cnt:Int->Int):Prop where
  row:Row w v 2 n (Zf pv cnt)
  p:∀i,0<=i->i<n->Row w (pv i) 1 (ln i) (ints (pt i))
  room:∀i,0<=i->i<n->Yn (pv i)
theorem VAt.below{w w':World}{v:Value}{n:Int}{pv:Int->Value}{ln:Int->Int}{pt:Int->Int->Int}{cnt:Int->Int}(h:VAt w v n pv ln pt cnt)(hb:Below w.heap.size w w'):VAt w' v n pv ln pt cnt:=
  ⟨h.row.below hb,fun i h0 h1=>(h.p i h0 h1).below hb,h.room⟩
def ZcB(n n2:Int)(ln ln2:Int->Int)(pt pt2:Int->Int->Int)(cnt cnt2:Int->Int):Prop:=n=n2/\∀k,0<=k->k<n->cnt k=cnt2 k/\ln k=ln2 k/\∀j,0<=j->j<ln k->pt k j=pt2 k j
end Go.Proofs.Gw
namespace Go.Proofs.Ytopmifmfecfaaaa
open Go Go.RowKit Go.Proofs.Gw
theorem ZaE:Zd Try.prog 12=true:=by kernel_rfl
theorem Zcs:Zd Try.prog 28=true:=by kernel_rfl
theorem Zcr:Zd Try.prog 29=true:=by kernel_rfl
theorem Zcq:Zd Try.prog 30=true:=by kernel_rfl
theorem Y0:ZV Try.prog 34=some (.agg #[.slice none 0 0,.int .i64 0],2,32):=by kernel_rfl
theorem Zb3:ZV Try.prog 39=some (.agg #[.slice none 0 0,.slice none 0 0,.int .i64 0,.int .i64 0],4,64):=by kernel_rfl
theorem RQ:ZV Try.prog 50=some (.agg #[.slice none 0 0,.int .i64 0],2,32):=by kernel_rfl
theorem U5:Zo Try.prog 43=some (50,2):=by kernel_rfl
theorem Zaw:Zv Try.prog 50=some 2:=by kernel_rfl
def pMx:Prob:=⟨2,fun k=> [5,3].getD k.toNat 0,2,fun k=> [2,3].getD k.toNat 0,11,1⟩
theorem Kx:pMx.Ok:=⟨by decide,by decide,rfl,by decide,by decide,by decide,by decide,bnd (P:=fun i=>pMx.each i) (by unfold Prob.each;decide)⟩
theorem ZcK:XE pMx (stN pMx 2) (stL pMx 2) (stG pMx 2):=⟨Kx,by
  have h2:stN pMx 2=2:=by decide+kernel
  intro k k0 k1
  have:k=0\/k=1:=by omega
  rcases this with rfl|rfl
  · exact⟨⟨Kx,by decide+kernel,bnd (by decide+kernel),by decide+kernel⟩,bnd (by decide+kernel)⟩
  · exact⟨⟨Kx,by decide+kernel,bnd (by decide+kernel),by decide+kernel⟩,bnd (by decide+kernel)⟩⟩
def lMx:Lp:=TQ pMx (stN pMx 2) (stG pMx 2)
def ZcI:Tb:=piv (Zi lMx) 0 0
def Rc:Tb:=piv ZcI 1 1
theorem ZbX:LOk lMx:=⟨by decide+kernel,by decide+kernel,by decide+kernel,rfl,bnd (by decide+kernel),bnd (by decide+kernel),fun i i0 i1=>by
  have:i=0\/i=1:=by have:lMx.m=2:=rfl;omega
  rcases this with rfl|rfl
  · exact⟨rfl,bnd (by decide+kernel)⟩
  · exact⟨rfl,bnd (by decide+kernel)⟩⟩
theorem ZbV:Run 1000 (Zi lMx) Rc 0:=
  .go (Te (r:=0) (c:=0) (by decide+kernel) (by decide+kernel) (by decide+kernel) (by decide) (by decide)) (Rr (by decide+kernel))
    (.go (Te (r:=1) (c:=1) (by decide+kernel) (by decide+kernel) (by decide+kernel) (by decide) (by decide)) (Rr (by decide+kernel))
      (.stop (Kl (by decide+kernel) (by decide+kernel)) (.inl rfl)))
theorem ZbT{s:So}{e:Int}(h:MSolveR pMx (stN pMx 2) (stL pMx 2) (stG pMx 2) s e):e=0/\s=Yl Rc:=by
  have h2:stN pMx 2=2:=by decide+kernel
  rcases h with⟨h,_⟩|⟨_,h,_⟩|⟨_,_,_,h,_⟩|⟨_,_,_,h,_⟩|⟨_,_,_,_,h⟩
  · exact absurd ZcK h
  · have:pMx.m=2:=rfl;omega
  · omega
  · omega
  · obtain⟨h1,h2⟩:=SolveR.same h (.inr ⟨ZbX,Rc,ZbV,.inr ⟨rfl,rfl⟩⟩)
    exact⟨h2,h1⟩
theorem ZbN{x y e:Int}(h:ValR (Yl Rc) x y e):e=0/\x=2/\y=1:=by
  have hs:ZC (Yl Rc):=⟨by decide+kernel,by decide+kernel,bnd (by decide+kernel)⟩
  rcases h with⟨h,_⟩|⟨_,h1,h2,h3⟩
  · exact absurd hs h
  · exact⟨h3,h1.trans (by decide+kernel),h2.trans (by decide+kernel)⟩
theorem ZaM:Ki (stN pMx 2) 2 (stL pMx 2) (Zq 2 2) (stG pMx 2) (Zq (fun k=> [2,0].getD k.toNat 0) (fun k=> [0,3].getD k.toNat 0)):=⟨by decide+kernel,by
  have h2:stN pMx 2=2:=by decide+kernel
  intro k k0 k1
  have:k=0\/k=1:=by omega
  rcases this with rfl|rfl
  · exact⟨by decide+kernel,bnd (by decide+kernel)⟩
  · exact⟨by decide+kernel,bnd (by decide+kernel)⟩⟩
theorem ZcH:Try.prog.underlying 65=some (.struct (Try.prog.fieldsOf 65)):=by kernel_rfl
theorem ZcJ:Try.prog.stoodInHeld 65=false:=by kernel_rfl
theorem ZcN:Try.prog.eqGuardType Try.prog.depth 65=false:=by kernel_rfl
theorem ZbR:Try.prog.underlying 3=some (.int .i64):=by kernel_rfl
theorem ZcR:((Try.prog.fieldsOf 65).toList.map fun f=>(decide (f.name≠ "_"),f.offset,f.type))= [(true,0,3),(true,1,3)]:=by kernel_rfl
theorem Zb2(w:World)(a b c d:Int)(n:Nat):(Op.eqFields (n+1) #[.int .i64 a,.int .i64 b] #[.int .i64 c,.int .i64 d] (Try.prog.fieldsOf 65).toList).run Try.prog w= .ok (a==c&&b==d) w:=by
  have hf:=ZcR
  generalize (Try.prog.fieldsOf 65).toList=l at hf
  obtain⟨f,g,rfl⟩:∃f g,l= [f,g]:=by
    rcases l with _|⟨f,_|⟨g,_|⟨x,l⟩⟩⟩
    · simp at hf
    · simp at hf
    · exact⟨f,g,rfl⟩
    · simp at hf
  simp only [List.map_cons,List.map_nil,List.cons.injEq,Prod.mk.injEq,decide_eq_true_eq,and_true] at hf
  obtain⟨⟨f1,f2,f3⟩,g1,g2,g3⟩:=hf
  simp [Op.eqFields,f1,f2,f3,g1,g2,g3,part,sizeOf,typeInfo]
  rw [run_equalIn_int w n 3 .i64 .i64 a c ZbR]
  simp only [Result.andThen_ok]
  rw [run_equalIn_int w n 3 .i64 .i64 b d ZbR]
  simp only [Result.andThen_ok]
  by_cases h1:a=c<;>by_cases h2:b=d<;>simp [h1,h2]
theorem ZcF{L:List (Nat×Value)}{w:World}{o:Oper}{x y:Operand}{T':TypeId}{a b c d:Int}(ho:o.op= .binOp .eql 65 x y T':=by exact rfl)(hx:evL L x=some (.agg #[.int .i64 a,.int .i64 b]):=by exact rfl)(hy:evL L y=some (.agg #[.int .i64 c,.int .i64 d]):=by exact rfl):Runs Try.prog L w o (.value (B (a=c/\b=d))) w:=fun ρ h=>by
  have e:(binOp .eql 65 (.agg #[.int .i64 a,.int .i64 b]) (.agg #[.int .i64 c,.int .i64 d])).run Try.prog w= .ok (B (a=c/\b=d)) w:=by
    rw [run_eql_struct,run_equalIn_struct w 9999 65 _ _ ZcH ZcJ,Zb2 w a b c d 9998]
    simp only [Result.andThen_ok]
    by_cases h1:a=c<;>by_cases h2:b=d
    · rw [YB ⟨h1,h2⟩];simp [h1,h2]
    · rw [ZJ (fun hh=>h2 hh.2)];simp [h2]
    · rw [ZJ (fun hh=>h1 hh.1)];simp [h1]
    · rw [ZJ (fun hh=>h1 hh.1)];simp [h1]
  simp [execOp,ho,h _ _ hx,h _ _ hy,run_eqGuard_agg w _ _ _ _ _ _ ZcN,e]
set_option maxRecDepth 20000 in
theorem c_awake30(w0:World):
    Calls Try.prog 7 [].toArray w0 fun e w=>∃v,e= .returned v/\v= .bool true/\Sat w0 w []:=by
  refine Zn Try.func7 Try.ntmps7 fun w hS=> ?_
  refine zsr ?_
  refine zlv xas ?_
  refine zlz ?_
  refine zla (xli (n:=2) (len:=2) (pv:= [(0,.int .i64 5),(1,.int .i64 3)]) (cs:= [.int .i64 5,.int .i64 3]) (c:=ints (fun k=> [5,3].getD k.toNat 0)) sl_22 ZG hS) ?_;rintro v1 w ⟨hS,hv1⟩
  replace hS:=hS.n1
  refine zla (xli (n:=2) (len:=2) (pv:= [(0,.int .i64 2),(1,.int .i64 3)]) (cs:= [.int .i64 2,.int .i64 3]) (c:=ints (fun k=> [2,3].getD k.toNat 0)) sl_22 ZG hS) ?_;rintro v2 w ⟨hS,hv2⟩
  replace hS:=hS.n2
  refine zlv (xany (v:= .agg #[v1,v2,.int .i64 11,.int .i64 1]) (hr:=by obtain⟨_,_,_,_,rfl,_⟩:=hv1;obtain⟨_,_,_,_,rfl,_⟩:=hv2;kernel_rfl)) ?_
  refine zla (xal (cs:= [_,_,_,_]) Zb3 hS) ?_;rintro _ w ⟨g1,rfl,hS⟩
  replace hS:=hS.n3
  refine zle (xsw 2 YX hS (hd:=(Za hv1.one (Za hv2.one (Za rfl (Za rfl Zh)))))) ?_;clear hS;rintro w hS
  replace hS:=hS.n3
  refine zlz ?_
  refine zlv (xls 2 YX hS) ?_
  refine zlc (xc0 Zcs) (R8 (p:=(⟨2,(fun k=> [5,3].getD k.toNat 0),2,(fun k=> [2,3].getD k.toNat 0),11,1⟩:Prob)) w (⟨(hS.rowN 0 rfl),(hS.rowN 1 rfl),(KB _ (by decide)),(KB _ (by decide)),(by(try dsimp only);omega),(by(try dsimp only);omega)⟩:PAt _ _ _ (⟨2,(fun k=> [5,3].getD k.toNat 0),2,(fun k=> [2,3].getD k.toNat 0),11,1⟩:Prob))) ?_;rintro _ w ⟨srm91,snm91,svm91,slm91,sgm91,em91,rfl,hmsm91,hsrm91,hS'⟩
  replace hS:Sat w0 w [.own v1 1 3 2 (ints (fun k=> [5,3].getD k.toNat 0)),.own v2 1 3 2 (ints (fun k=> [2,3].getD k.toNat 0)),.blk g1 [v1,v2,.int .i64 11,.int .i64 1],.own srm91 1 22 snm91 svm91,.sem (Frame.rows 3 snm91 svm91 slm91 sgm91)]:=hS.comp hS';clear hS'
  have hswm91:=fun k (k0:0<=k) (k1:k<snm91)=>hS.slhIn 4 rfl k0 k1
  refine zs5 ?_
  refine zlz ?_
  refine zlv (xls 2 YX hS) ?_
  refine zlv xmv ?_
  refine zlc (xc0 ZaE) (Uq (p:=(⟨2,(fun k=> [5,3].getD k.toNat 0),2,(fun k=> [2,3].getD k.toNat 0),11,1⟩:Prob)) (u:=snm91) (ml:=slm91) (mf:=sgm91) w (⟨(hS.rowN 0 rfl),(hS.rowN 1 rfl),(KB _ (by decide)),(KB _ (by decide)),(by(try dsimp only);omega),(by(try dsimp only);omega)⟩:PAt _ _ _ (⟨2,(fun k=> [5,3].getD k.toNat 0),2,(fun k=> [2,3].getD k.toNat 0),11,1⟩:Prob)) (⟨(hS.rowN 3 rfl),fun k k0 k1=>hS.rowIn 4 rfl k0 k1,fun k k0 k1=>hS.roomIn 4 rfl k0 k1⟩:MAt _ srm91 snm91 svm91 slm91 sgm91)) ?_;rintro _ w ⟨vXm81,vYm81,sm81,em81,rfl,hmom81,hvXm81,hvYm81,hS'⟩
  replace hS:Sat w0 w [.own v1 1 3 2 (ints (fun k=> [5,3].getD k.toNat 0)),.own v2 1 3 2 (ints (fun k=> [2,3].getD k.toNat 0)),.blk g1 [v1,v2,.int .i64 11,.int .i64 1],.own srm91 1 22 snm91 svm91,.sem (Frame.rows 3 snm91 svm91 slm91 sgm91),.own vXm81 1 3 sm81.n (ints sm81.X),.own vYm81 1 3 sm81.m (ints sm81.Y)]:=hS.comp hS';clear hS'
  refine zs3 ?_
  refine zla (xal (cs:= [_,_,_,_]) Xz hS) ?_;rintro _ w ⟨g2,rfl,hS⟩
  replace hS:=hS.n8
  refine zle (xsw 7 Zt hS (hd:=(Za hvXm81.one (Za hvYm81.one (Za rfl (Za rfl Zh)))))) ?_;clear hS;rintro w hS
  replace hS:=hS.n8
  refine zlv xas ?_
  refine zlz ?_
  refine zlv (xls 7 Zt hS) ?_
  rcases hmsm91 with⟨h9,_⟩|⟨_,m1,m2,m3,m4⟩
  · exact absurd Kx h9
  obtain⟨z1,z2⟩:=ZbT (by have h8:=hmom81;rw [m1,m2,m3] at h8;exact h8)
  have hn9:sm81.n<=1000:=by rw [z2];decide+kernel
  refine zlc (xc0 Zcr) (T0 (s:=sm81) w (hS.rowN 5 rfl) (hS.rowN 6 rfl) (by omega)) ?_;rintro _ w ⟨xv91,yv91,ev91,rfl,hvav91,hS'⟩
  replace hS:=hS.cmp hS';clear hS'
  refine zs3 ?_
  refine zla (xal (cs:= [_,_]) Zaz hS) ?_;rintro _ w ⟨g3,rfl,hS⟩
  replace hS:=hS.n9
  refine zle (xsw 8 st_65 hS) ?_;clear hS;rintro w hS
  replace hS:=hS.n9
  refine zlv xas ?_
  refine zlz ?_
  refine zlv xmv ?_
  obtain⟨z3,z4,z5⟩:=ZbN (by have h8:=hvav91;rw [z2] at h8;exact h8)
  have hsm:Ki snm91 2 slm91 (Zq 2 2) sgm91 (Zq (fun k=> [2,0].getD k.toNat 0) (fun k=> [0,3].getD k.toNat 0)):=by rw [m1,m2,m3];exact ZaM
  refine zs2 ?_
  refine zlb 29 ?_ ?_<;>intro hc
  ·
   refine zs4 ?_
   refine zlb 33 ?_ ?_<;>intro hc
   ·
    refine zs4 ?_
    refine zlb 37 ?_ ?_<;>intro hc
    ·
     refine zlv xmv ?_
     refine zla (xli (n:=2) (len:=2) (pv:= [(0,.int .i64 2),(1,.int .i64 0)]) (cs:= [.int .i64 2,.int .i64 0]) (c:=ints (fun k=> [2,0].getD k.toNat 0)) sl_22 ZG hS) ?_;rintro v3 w ⟨hS,hv3⟩
     replace hS:=hS.n10
     refine zla (xli (n:=2) (len:=2) (pv:= [(0,.int .i64 0),(1,.int .i64 3)]) (cs:= [.int .i64 0,.int .i64 3]) (c:=ints (fun k=> [0,3].getD k.toNat 0)) sl_22 ZG hS) ?_;rintro v4 w ⟨hS,hv4⟩
     replace hS:=hS.n11
     refine zla (xli (n:=2) (len:=2) (pv:= [(0,v3),(1,v4)]) (cs:= [v3,v4]) (c:=fun k=>([(v3:Value),(v4:Value)]).getD k.toNat undef) sl_32 YA hS (hf:=by obtain⟨_,_,_,_,rfl,_⟩:=hv3;obtain⟨_,_,_,_,rfl,_⟩:=hv4;kernel_rfl)) ?_;rintro v5 w ⟨hS,hv5⟩
     replace hS:=hS.n12
     refine zlc (xc0 Zcq) (Zby (u:=snm91) (u2:=2) (ml:=slm91) (ml2:=Zq 2 2) (mf:=sgm91) (mf2:=Zq (fun k=> [2,0].getD k.toNat 0) (fun k=> [0,3].getD k.toNat 0)) w (⟨(hS.rowN 3 rfl),fun k k0 k1=>hS.rowIn 4 rfl k0 k1,fun k k0 k1=>hS.roomIn 4 rfl k0 k1⟩:MAt _ srm91 snm91 svm91 slm91 sgm91) (ZbY (hS.rowN 11 rfl) (hS.rowN 9 rfl) (hS.rowN 10 rfl) (Ent.holds.roomy (hS.holds _ (List.mem_of_getElem? (i:=9) rfl))) (Ent.holds.roomy (hS.holds _ (List.mem_of_getElem? (i:=10) rfl))))) ?_;rintro _ w ⟨rfl,hS'⟩
     replace hS:=hS.cmp hS';clear hS'
     refine zs2 ?_
     refine zlb 44 ?_ ?_<;>intro hc
     ·
      refine zlv (xls 8 st_65 hS) ?_
      refine zlv (xany (v:= .agg #[.int .i64 2,.int .i64 1])) ?_
      refine zlv ZcF ?_
      refine zs2 ?_
      refine zx1<|zf1 ⟨_,rfl,?_⟩
      exact⟨(ZW ⟨z4,z5⟩).symm,hS.nl⟩
     iterate 3 refine zlo ?_
     refine zs2 ?_
     refine zx1<|zf1 ⟨_,rfl,?_⟩
     exfalso
     first|omega|exact absurd hsm ‹_›
    iterate 5 refine zlo ?_
    refine zs2 ?_
    iterate 3 refine zlo ?_
    refine zs2 ?_
    refine zx1<|zf1 ⟨_,rfl,?_⟩
    exfalso
    first|omega|exact absurd hsm ‹_›
   iterate 2 refine zlo ?_
   refine zs2 ?_
   iterate 5 refine zlo ?_
   refine zs2 ?_
   iterate 3 refine zlo ?_
   refine zs2 ?_
   refine zx1<|zf1 ⟨_,rfl,?_⟩
   exfalso
   first|omega|exact absurd hsm ‹_›
  iterate 2 refine zlo ?_
  refine zs2 ?_
  iterate 2 refine zlo ?_
  refine zs2 ?_
  iterate 5 refine zlo ?_
  refine zs2 ?_
  iterate 3 refine zlo ?_
  refine zs2 ?_
  refine zx1<|zf1 ⟨_,rfl,?_⟩
  exfalso
  first|omega|exact absurd hsm ‹_›
def flN(s:So):Nat->Int
  |0=>0
  |k+1=>if s.den<=s.X k then flN s k+1 else flN s k
def flL(s:So)(ml:Int->Int):Nat->Int->Int
  |0=>fun _=>0
  |k+1=>if s.den<=s.X k then gsn (flL s ml k) (flN s k) (ml k) else flL s ml k
def flG(s:So)(mf:Int->Int->Int):Nat->Int->Int->Int
  |0=>fun _ _=>0
  |k+1=>if s.den<=s.X k then gsn (flG s mf k) (flN s k) (mf k) else flG s mf k
def flC(s:So):Nat->Int->Int
  |0=>fun _=>0
  |k+1=>if s.den<=s.X k then Z5 (flC s k) (flN s k) ((s.X k).tdiv s.den) else flC s k
theorem V6(s:So){i:Int}(h:0<=i):flN s (i+1).toNat=if s.den<=s.X i then flN s i.toNat+1 else flN s i.toNat:=by
  obtain⟨k,rfl⟩:=Int.eq_ofNat_of_zero_le h;rw [show((k:Int)+1).toNat=k+1 by omega,Int.toNat_natCast];rfl
theorem V7(s:So)(ml:Int->Int){i:Int}(h:0<=i):flL s ml (i+1).toNat=if s.den<=s.X i then gsn (flL s ml i.toNat) (flN s i.toNat) (ml i) else flL s ml i.toNat:=by
  obtain⟨k,rfl⟩:=Int.eq_ofNat_of_zero_le h;rw [show((k:Int)+1).toNat=k+1 by omega,Int.toNat_natCast];rfl
theorem V8(s:So)(mf:Int->Int->Int){i:Int}(h:0<=i):flG s mf (i+1).toNat=if s.den<=s.X i then gsn (flG s mf i.toNat) (flN s i.toNat) (mf i) else flG s mf i.toNat:=by
  obtain⟨k,rfl⟩:=Int.eq_ofNat_of_zero_le h;rw [show((k:Int)+1).toNat=k+1 by omega,Int.toNat_natCast];rfl
theorem V9(s:So){i:Int}(h:0<=i):flC s (i+1).toNat=if s.den<=s.X i then Z5 (flC s i.toNat) (flN s i.toNat) ((s.X i).tdiv s.den) else flC s i.toNat:=by
  obtain⟨k,rfl⟩:=Int.eq_ofNat_of_zero_le h;rw [show((k:Int)+1).toNat=k+1 by omega,Int.toNat_natCast];rfl
theorem Xa(s:So):∀k:Nat,0<=flN s k/\flN s k<=k
  |0=>by simp [flN]
  | k+1=>by
    have:=Xa s k
    simp only [flN];split<;>omega
def FloorR(s:So)(u:Int)(ml:Int->Int)(mf:Int->Int->Int)(n:Int)(ln:Int->Int)(pt:Int->Int->Int)(cnt:Int->Int)(e:Int):Prop:=
  (¬(ZC s/\u=s.n)/\n=0/\e=1)\/(ZC s/\u=s.n/\n=flN s u.toNat/\ln=flL s ml u.toNat/\pt=flG s mf u.toNat/\cnt=flC s u.toNat/\e=0)
theorem FloorR.rng{s:So}{u:Int}{ml:Int->Int}{mf:Int->Int->Int}{n e:Int}{ln cnt:Int->Int}{pt:Int->Int->Int}(hu:0<=u)(h:FloorR s u ml mf n ln pt cnt e):0<=n/\n<=u:=by
  rcases h with⟨_,h,_⟩|⟨_,_,h,_⟩
  · omega
  · have:=Xa s u.toNat;omega
theorem FloorR.same{s:So}{u:Int}{ml:Int->Int}{mf:Int->Int->Int}{n n2 e e2:Int}{ln ln2 cnt cnt2:Int->Int}{pt pt2:Int->Int->Int}(h:FloorR s u ml mf n ln pt cnt e)(h':FloorR s u ml mf n2 ln2 pt2 cnt2 e2):ZcB n n2 ln ln2 pt pt2 cnt cnt2/\e=e2:=by
  rcases h with⟨h1,h2,h3⟩|⟨h1,h2,h3,h4,h5,h6,h7⟩<;>rcases h' with⟨g1,g2,g3⟩|⟨g1,g2,g3,g4,g5,g6,g7⟩
  · exact⟨⟨by omega,fun k k0 k1=>by omega⟩,by omega⟩
  · exact absurd ⟨g1,g2⟩ h1
  · exact absurd ⟨h1,h2⟩ g1
  · rw [h3,h4,h5,h6,h7,g3,g4,g5,g6,g7];exact⟨⟨rfl,fun _ _ _=>⟨rfl,rfl,fun _ _ _=>rfl⟩⟩,rfl⟩
set_option maxRecDepth 20000 in
theorem T2{vM:Value}{u:Int}{mv:Int->Value}{ml:Int->Int}{mf:Int->Int->Int}{vX vY:Value}{s:So}(w0:World)(hM:MAt w0 vM u mv ml mf)(hX:Row w0 vX 1 s.n (ints s.X))(hY:Row w0 vY 1 s.m (ints s.Y))(hn60:s.n<=1000)(hml:∀k,0<=k->k<u->ml k<=100000):
    Calls Try.prog 14 [vM,.agg #[vX,vY,.int .i64 s.val,.int .i64 s.den]].toArray w0 fun e w=>∃v,e= .returned v/\∃r n pv ln pt cnt e,v= .tuple #[r,.int .i64 e]/\FloorR s u ml mf n ln pt cnt e/\Slh r n/\Sat w0 w [.own r 2 50 n (Zf pv cnt),.sem (Frame.rows 3 n pv ln pt)]:=by
  have hn:=hX.slh.n0;have hn1:=hX.slh.n1
  have hu:=hM.row.slh.n0;have hu1:=hM.row.slh.n1
  refine Zn Try.func14 Try.ntmps14 fun w hS=> ?_
  refine zsr ?_
  refine zla (xbx (cs:= [_,_,_,_]) hS) ?_;rintro _ w ⟨g1,rfl,hS⟩
  replace hS:=hS.n1
  refine zs2 ?_
  refine zx5 ?_
  refine zlv (xls 0 Zt hS) ?_
  refine zlc (xc0 RX) (XQ (s:=s) w (hX.below hS.below) (hY.below hS.below) (by omega)) ?_;rintro _ w ⟨rfl,hS'⟩
  replace hS:=hS.cmp hS';clear hS'
  refine zs2 ?_
  refine zlb 12 ?_ ?_<;>intro hc
  ·
   iterate 6 refine zlo ?_
   refine zlv xpt ?_
   refine zlt<|zct<|zsr ?_
   refine zs2 ?_
   refine zx14<|zf2 ⟨_,rfl,?_⟩
   exact⟨_,0,fun _=>undef,fun _=>0,fun _ _=>0,fun _=>0,1,rfl,.inl ⟨by first|exact fun hh=>absurd hh.1 ‹¬ZC s›|(rintro⟨_,hh⟩;omega),rfl,rfl⟩,slh_nil,((hS.sub (.cons _ .slnil)).addnil 2 50 (Zf (fun _=>undef) (fun _=>0))).addrows 3 (fun _=>undef) (fun _=>0) (fun _ _=>0)⟩
  refine zlv xmv ?_
  refine zlv (xln sl_32 hM.row.slh) ?_
  refine zlv (xfb 0 fd_36_0) ?_
  refine zlv (xlb 0 pl_22 hS) ?_
  refine zlv (xln sl_22 hX.slh) ?_
  refine zs2 ?_
  refine zlt ?_
  refine zcif ?_ ?_<;>intro hc
  ·
   refine zsr ?_
   refine zs2 ?_
   refine zx14<|zf2 ⟨_,rfl,?_⟩
   exact⟨_,0,fun _=>undef,fun _=>0,fun _ _=>0,fun _=>0,1,rfl,.inl ⟨by first|exact fun hh=>absurd hh.1 ‹¬ZC s›|(rintro⟨_,hh⟩;omega),rfl,rfl⟩,slh_nil,((hS.sub (.cons _ .slnil)).addnil 2 50 (Zf (fun _=>undef) (fun _=>0))).addrows 3 (fun _=>undef) (fun _=>0) (fun _ _=>0)⟩
  refine zsk<|ztn<|zsr ?_
  refine zlv xas ?_
  refine zx5 ?_
  refine zlv (xfb 0 fd_36_0) ?_
  refine zlv (xlb 0 pl_22 hS) ?_
  refine zlv (xln sl_22 hX.slh) ?_
  refine zlv xmv ?_
  refine zx6 ?_
  have hsd:ZC s:=by first|assumption|exact Classical.not_not.1 ‹_›
  obtain⟨⟨d1,d2⟩,⟨d3,d4⟩,d5⟩:=id hsd
  have hun:u=s.n:=by omega
  replace hS:=hS.addnil 2 50 (Zf (fun _=>Value.slice none 0 0) (fun _=>0))
  replace hS:=hS.n2
  replace hS:=hS.addrows 3 (fun _=>Value.slice none 0 0) (fun _=>0) (fun _ _=>0)
  replace hS:=hS.n3
  replace hS:=hS.n3
  have hrs0:=fun k (k0:0<=k) (k1:k<0)=>hS.slhIn 2 rfl k0 k1
  refine zlp (fun mm M w=>∃(nC:Int) (wv:Int->Value) (lC:Int->Int) (gC:Int->Int->Int) (cC:Int->Int) (i:Int) (wC:Value),mm=((s.n-i).toNat)/\(0<=i)/\(i<=s.n)/\(nC=flN s i.toNat)/\(lC=flL s ml i.toNat)/\(gC=flG s mf i.toNat)/\(cC=flC s i.toNat)/\(Slh wC nC)/\M= [(0,vM),(3,.pointer (some ⟨g1,0,none⟩)),(4,.slice none 0 0),(5,.int .i64 0),(6,wC),(21,vX),(22,.int .i64 s.n),(23,.int .i64 i)]/\Sat w0 w [.blk g1 [vX,vY,.int .i64 s.val,.int .i64 s.den],.own wC 2 50 nC (Zf wv cC),.sem (Frame.rows 3 nC wv lC gC)]) ⟨0,(fun _=>Value.slice none 0 0),(fun _=>0),(fun _ _=>0),(fun _=>0),0,(.slice none 0 0),rfl,(by omega),(by omega),?_,?_,?_,?_,?_,rfl,hS⟩ ?_
  ·
   rfl
  ·
   rfl
  ·
   rfl
  ·
   rfl
  ·
   exact slh_nil
  clear hS w
  rintro mm M w ⟨nC,wv,lC,gC,cC,i,wC,rfl,h0,h1,hnC,hlC,hgC,hcC,hwC,rfl,hS⟩
  have hrs1:=fun k (k0:0<=k) (k1:k<nC)=>hS.slhIn 2 rfl k0 k1
  have hnr:=Xa s i.toNat
  refine zsr ?_
  refine zlv Zk ?_
  refine zlt<|zsq ?_
  refine zcif ?_ ?_<;>intro hc
  ·
   refine zx3 ?_
   refine zlv xmv ?_
   refine zlv (xix (kk:=i) sl_22 hX.slh) ?_
   refine zlv (xlr (u:= .int .i64 (s.X i)) pl_3 (hX.below hS.below)) ?_
   refine zs2 ?_
   refine zlz ?_
   refine zlv xmv ?_
   refine zlv (xfb 3 fd_36_3) ?_
   refine zlv (xlb 0 pl_3 hS) ?_
   refine zlv Yo ?_
   refine zlt ?_
   refine zcif ?_ ?_<;>intro hc
   ·
    refine zdst [0] [0] 1000 mx_ hS ?_;clear hS;intro w hS
    refine zDrv 0 xmv ?_
    refine zDrv 1 xmv ?_
    refine zDrv 2 xmv ?_
    refine zDrv 3 (xix (kk:=i) sl_32 hM.row.slh) ?_
    refine zdla 4 (fun w hS=>(xlr (u:=(mv i)) pl_22 (hM.row.below hS.below))) ?_
    have hmli:=hml i h0 (by omega)
    refine zDrv 6 xmv ?_
    refine zDrv 7 (xfb 3 fd_36_3) ?_
    refine zdla 8 (fun w hS=>(xlb 0 pl_3 hS)) ?_
    have hqd:=Yk (a:=s.X i) (d:=s.den) (A:=1073741824) (by omega) (by have:=d5 i h0 (by omega);omega)
    refine zDrv 9 (UA (r:=(Int.tdiv (s.X i) s.den))) ?_
    refine zdc 5 (xc0 XA) (Yq (n:=(ml i)) (f:=(mf i)) w ((hM.p i (by omega) (by omega)).below hS.below) (by omega)) ?_;rintro vq1 w ⟨_,rfl,hslq1,hS'⟩
    replace hS:Sat w0 w [.blk g1 [vX,vY,.int .i64 s.val,.int .i64 s.den],.own wC 2 50 nC (Zf wv cC),.sem (Frame.rows 3 nC wv lC gC),.own vq1 1 3 (ml i) (ints (mf i))]:=hS.comp hS';clear hS'
    refine⟨⟨fun _=>hS.pk [0],hS.pk [0]⟩,?_⟩
    refine zDrv 10 (xany (v:= .agg #[vq1,.int .i64 (Int.tdiv (s.X i) s.den)]) (hr:=by obtain⟨_,_,_,_,rfl,_⟩:=hslq1;kernel_rfl)) ?_
    refine zda 11 (xli (n:=1) (len:=1) (pv:= [(0,.agg #[vq1,.int .i64 (Int.tdiv (s.X i) s.den)])]) (cs:= [vq1,.int .i64 (Int.tdiv (s.X i) s.den)]) (c:=Zf (fun _=>vq1) (fun _=>(Int.tdiv (s.X i) s.den))) U5 RQ hS (hf:=by obtain⟨_,_,_,_,rfl,_⟩:=hslq1;kernel_rfl)) ?_;rintro v1 w ⟨hS,hv1⟩
    replace hS:=hS.n5
    refine⟨⟨fun _=>hS.pk [0],hS.pk [0]⟩,?_⟩
    refine zda 12 (xap 1 (r:=nC+1) U5 RQ hS (hS.rowN 4 rfl) (Xl _ _ _ _ _) (h1:=fun k _ _=>ZA (fun _=>hslq1.one) k)) ?_;rintro v2 w ⟨hS,hv2⟩
    replace hS:=hS.n5
    replace hS:=Sat.merge (l1:= [_,_]) (l2:= []) (l3:= [_]) hS (by omega)
    have hrs2:=fun k (k0:0<=k) (k1:k<nC+1)=>hS.slhIn 2 rfl k0 k1
    replace hS:=hS.n4
    refine⟨⟨fun _=>hS.pk [0],hS.pk [0]⟩,?_⟩
    refine zDrv 13 xas ?_
    refine zdd<|zbn<|ztn<|zrg ?_
    refine zlv (xadd (r:=i+1)) ?_
    refine zlv xmv ?_
    refine zln<|zlq ⟨nC+1,gsn wv nC vq1,gsn lC nC (ml i),gsn gC nC (mf i),(Z5 cC nC (Int.tdiv (s.X i) s.den)),i+1,v2,rfl,(by omega),(by omega),?_,?_,?_,?_,?_,rfl,hS.pk [0,1,2]⟩
    ·
     rw [V6 s h0,<-hnC];first|rw [if_pos (by omega)]|rw [if_neg (by omega)]
    ·
     rw [V7 s ml h0,<-hlC,<-hnC];first|rw [if_pos (by omega)]|rw [if_neg (by omega)]
    ·
     rw [V8 s mf h0,<-hgC,<-hnC];first|rw [if_pos (by omega)]|rw [if_neg (by omega)]
    ·
     rw [V9 s h0,<-hcC,<-hnC];first|rw [if_pos (by omega)]|rw [if_neg (by omega)]
    ·
     exact hv2
   refine zx4 ?_
   refine zlv (xadd (r:=i+1)) ?_
   refine zlv xmv ?_
   refine zln<|zlq ⟨nC,wv,lC,gC,cC,i+1,wC,rfl,(by omega),(by omega),?_,?_,?_,?_,?_,rfl,hS⟩
   ·
    rw [V6 s h0,<-hnC];first|rw [if_pos (by omega)]|rw [if_neg (by omega)]
   ·
    rw [V7 s ml h0,<-hlC,<-hnC];first|rw [if_pos (by omega)]|rw [if_neg (by omega)]
   ·
    rw [V8 s mf h0,<-hgC,<-hnC];first|rw [if_pos (by omega)]|rw [if_neg (by omega)]
   ·
    rw [V9 s h0,<-hcC,<-hnC];first|rw [if_pos (by omega)]|rw [if_neg (by omega)]
   ·
    exact hwC
  refine zx8 ?_
  refine zs3 ?_
  refine zx1<|zf2 ⟨_,rfl,?_⟩
  have him:i=u:=by omega
  rw [him] at hnC hlC hgC hcC
  exact⟨_,_,_,_,_,_,0,rfl,.inr ⟨hsd,hun,hnC,hlC,hgC,hcC,rfl⟩,hwC,hS.pk [1,2]⟩
def FracR(s:So)(k:Int)(ok:Prop):Prop:=(¬ZC s/\k=0/\¬ok)\/(ZC s/\(∀j,0<=j->j<s.n->(s.X j).tmod s.den=0)/\k=0/\¬ok)\/(ZC s/\0<=k/\k<s.n/\(s.X k).tmod s.den≠0/\(∀j,0<=j->j<k->(s.X j).tmod s.den=0)/\ok)
theorem FracR.same{s:So}{k k2:Int}{ok ok2:Prop}(h:FracR s k ok)(h':FracR s k2 ok2):k=k2/\(ok↔ok2):=by
  rcases h with⟨h1,h2,h3⟩|⟨h1,h2,h3,h4⟩|⟨h1,h2,h3,h4,h5,h6⟩<;>rcases h' with⟨g1,g2,g3⟩|⟨g1,g2,g3,g4⟩|⟨g1,g2,g3,g4,g5,g6⟩<;>
    first
    |exact absurd ‹ZC s› ‹¬ZC s›
    |exact⟨by omega,fun h=>absurd h ‹¬ok›,fun h=>absurd h ‹¬ok2›⟩
    |exact absurd (g2 k (by omega) (by omega)) (by assumption)
    |exact absurd (h2 k2 (by omega) (by omega)) (by assumption)
    | (refine⟨?_,fun _=>g6,fun _=>h6⟩
       rcases Int.lt_trichotomy k k2 with h|h|h
       · exact absurd (g5 k (by omega) h) h4
       · exact h
       · exact absurd (h5 k2 (by omega) h) g4)
end Go.Proofs.Ytopmifmfecfaaaa
namespace Go.Proofs.Gw
def PermOn(lo hi:Int)(a b:Int->Int):Prop:=∃p q:Int->Int,(∀k,p (q k)=k/\q (p k)=k)/\(∀k,¬(lo<=k/\k<hi)->p k=k)/\∀k,b k=a (p k)
theorem PermOn.refl(lo hi:Int)(a:Int->Int):PermOn lo hi a a:=⟨id,id,fun _=>⟨rfl,rfl⟩,fun _ _=>rfl,fun _=>rfl⟩
theorem PermOn.trans{lo hi:Int}{a b c:Int->Int}(h:PermOn lo hi a b)(k:PermOn lo hi b c):PermOn lo hi a c:=by
  obtain⟨p,q,h1,h2,h3⟩:=h
  obtain⟨p',q',k1,k2,k3⟩:=k
  refine⟨fun x=>p (p' x),fun x=>q' (q x),fun x=>⟨?_,?_⟩,fun x hx=> ?_,fun x=> ?_⟩
  · show p (p' (q' (q x)))=x
    rw [(k1 _).1,(h1 _).1]
  · show q' (q (p (p' x)))=x
    rw [(h1 _).2,(k1 _).2]
  · show p (p' x)=x
    rw [k2 x hx,h2 x hx]
  · rw [k3,h3]
theorem PermOn.mono{lo hi lo' hi':Int}{a b:Int->Int}(h:PermOn lo hi a b)(h0:lo'<=lo)(h1:hi<=hi'):PermOn lo' hi' a b:=by
  obtain⟨p,q,h2,h3,h4⟩:=h
  exact⟨p,q,h2,fun k hk=>h3 k (by omega),h4⟩
theorem PermOn.out{lo hi:Int}{a b:Int->Int}(h:PermOn lo hi a b){k:Int}(hk:¬(lo<=k/\k<hi)):b k=a k:=by
  obtain⟨p,q,h2,h3,h4⟩:=h
  rw [h4,h3 k hk]
theorem PermOn.fr{lo hi:Int}{a b:Int->Int}(h:PermOn lo hi a b){k:Int}(k0:lo<=k)(k1:k<hi):∃j,lo<=j/\j<hi/\b k=a j:=by
  obtain⟨p,q,h2,h3,h4⟩:=h
  by_cases hj:lo<=p k/\p k<hi
  · exact⟨p k,hj.1,hj.2,h4 k⟩
  · have h5:=h3 (p k) hj
    have h6:p k=k:=by
      have:=congrArg q h5
      rw [(h2 _).2,(h2 _).2] at this;exact this
    rw [h6] at hj
    exact absurd ⟨k0,k1⟩ hj
theorem PermOn.symm{lo hi:Int}{a b:Int->Int}(h:PermOn lo hi a b):PermOn lo hi b a:=by
  obtain⟨p,q,h2,h3,h4⟩:=h
  refine⟨q,p,fun k=>⟨(h2 k).2,(h2 k).1⟩,fun k hk=> ?_,fun k=> ?_⟩
  · have:=congrArg q (h3 k hk)
    rw [(h2 k).2] at this;exact this.symm
  · rw [h4,(h2 k).1]
def swp(a:Int->Int)(i j:Int):Int->Int:=fun k=>if k=i then a j else if k=j then a i else a k
theorem Re{a:Int->Int}{i j lo hi:Int}(i0:lo<=i)(i1:i<hi)(j0:lo<=j)(j1:j<hi):PermOn lo hi a (swp a i j):=by
  have e:∀k,(fun k=>if k=i then j else if k=j then i else k:Int->Int) ((fun k=>if k=i then j else if k=j then i else k:Int->Int) k)=k:=fun k=>by
    dsimp only;split<;>(try split)<;>(try split)<;>(try split)<;>omega
  refine⟨fun k=>if k=i then j else if k=j then i else k,fun k=>if k=i then j else if k=j then i else k,fun k=>⟨e k,e k⟩,fun k hk=> ?_,fun k=> ?_⟩
  · dsimp only;rw [if_neg (by omega),if_neg (by omega)]
  · unfold swp;dsimp only;split
    · rfl
    · split<;>rfl
def Srt(R:Int->Int->Prop)(lo hi:Int)(a:Int->Int):Prop:=∀i j,lo<=i->i<j->j<hi->R (a i) (a j)
theorem Srt.mono{R:Int->Int->Prop}{lo hi lo' hi':Int}{a:Int->Int}(h:Srt R lo hi a)(h0:lo<=lo')(h1:hi'<=hi):Srt R lo' hi' a:=fun i j i0 ij j1=>h i j (by omega) ij (by omega)
theorem Srt.congr{R:Int->Int->Prop}{lo hi:Int}{a b:Int->Int}(h:Srt R lo hi a)(e:∀k,lo<=k->k<hi->b k=a k):Srt R lo hi b:=fun i j i0 ij j1=>by
  rw [e i i0 (by omega),e j (by omega) j1];exact h i j i0 ij j1
def Tie(lt:Int->Int->Prop):Int->Int->Prop:=fun x y=>lt x y\/(¬lt y x/\x<y)
structure Swo (lt:Int->Int->Prop):Prop where
  asym:∀x y,lt x y->¬lt y x
  trans:∀x y z,lt x y->lt y z->lt x z
  inc:∀x y z,¬lt x y->¬lt y z->¬lt x z
theorem Tie.trans{lt:Int->Int->Prop}(h:Swo lt){x y z:Int}(a:Tie lt x y)(b:Tie lt y z):Tie lt x z:=by
  rcases a with a|⟨a1,a2⟩<;>rcases b with b|⟨b1,b2⟩
  · exact .inl (h.trans _ _ _ a b)
  · left;exact Classical.byContradiction fun hn=>h.inc _ _ _ hn b1 a
  · left;exact Classical.byContradiction fun hn=>h.inc _ _ _ a1 hn b
  · exact .inr ⟨h.inc _ _ _ b1 a1,by omega⟩
theorem Tie.asym{lt:Int->Int->Prop}(h:Swo lt){x y:Int}(a:Tie lt x y):¬Tie lt y x:=by
  rintro(b|⟨b1,b2⟩)
  · rcases a with a|⟨a1,a2⟩
    · exact h.asym _ _ a b
    · exact a1 b
  · rcases a with a|⟨a1,a2⟩
    · exact b1 a
    · omega
theorem Tie.of{lt:Int->Int->Prop}(h:Swo lt){x y:Int}(hxy:x<y)(hn:¬lt y x):Tie lt x y:=by
  by_cases hl:lt x y
  · exact .inl hl
  · exact .inr ⟨hn,hxy⟩
def Parted(lo c hi:Int)(a:Int->Int):Prop:=∀i j,lo<=i->i<c->c<=j->j<hi->a i<a j
theorem Parted.perm{lo c hi:Int}{a b:Int->Int}(h:Parted lo c hi a)(hp:∃m,PermOn lo c a m/\PermOn c hi m b):Parted lo c hi b:=fun i j i0 i1 j0 j1=>by
  obtain⟨m,h1,h2⟩:=hp
  obtain⟨i',g0,g1,g2⟩:=h1.fr i0 i1
  obtain⟨j',f0,f1,f2⟩:=h2.fr j0 j1
  rw [h2.out (by omega),g2,f2,h1.out (by omega)]
  exact h i' j' g0 g1 f0 f1
def ZcW(lo hi:Int)(a:Int->Int):Prop:=∀i j,lo<=i->i<j->j<hi->a i<a j
structure Ins (lt:Int->Int->Prop) (lo i j:Int) (a b:Int->Int):Prop where
  perm:PermOn lo (i+1) a b
  rest:∀p q,lo<=p->p<q->q<=i->p≠j->q≠j->Tie lt (b p) (b q)
  less:∀q,j<q->q<=i->Tie lt (b j) (b q)
  big:∀p,lo<=p->p<j->b p<b j
theorem Ins.start{lt:Int->Int->Prop}{lo i:Int}{a:Int->Int}(i0:lo<=i)(hs:Srt (Tie lt) lo i a)(hb:∀p,lo<=p->p<i->a p<a i):Ins lt lo i i a a:=
  ⟨.refl _ _ _,fun p q p0 pq q1 pi qi=>hs p q p0 pq (by omega),fun q q0 q1=>by omega,hb⟩
theorem Ins.step{lt:Int->Int->Prop}{lo i j:Int}{a b:Int->Int}(j0:lo<j)(j1:j<=i)(h:Ins lt lo i j a b)(hl:lt (b j) (b (j-1))):Ins lt lo i (j-1) a (swp b j (j-1)):=by
  have e0:swp b j (j-1) j=b (j-1):=by unfold swp;rw [if_pos rfl]
  have e1:swp b j (j-1) (j-1)=b j:=by unfold swp;rw [if_neg (by omega),if_pos rfl]
  have e2:∀k,k≠j->k≠j-1->swp b j (j-1) k=b k:=fun k h1 h2=>by unfold swp;rw [if_neg h1,if_neg h2]
  refine⟨h.perm.trans (Re (by omega) (by omega) (by omega) (by omega)),fun p q p0 pq q1 pj qj=> ?_,fun q q0 q1=> ?_,fun p p0 p1=> ?_⟩
  · by_cases hp:p=j
    · rw [hp,e0,e2 q (by omega) qj];exact h.rest (j-1) q (by omega) (by omega) q1 (by omega) (by omega)
    · rw [e2 p hp pj]
      by_cases hq:q=j
      · rw [hq,e0];exact h.rest p (j-1) p0 (by omega) (by omega) hp (by omega)
      · rw [e2 q hq qj];exact h.rest p q p0 pq q1 hp hq
  · rw [e1]
    by_cases hq:q=j
    · rw [hq,e0];exact .inl hl
    · rw [e2 q hq (by omega)];exact h.less q (by omega) q1
  · rw [e1,e2 p (by omega) (by omega)];exact h.big p p0 (by omega)
theorem Ins.fin{lt:Int->Int->Prop}(hw:Swo lt){lo i j:Int}{a b:Int->Int}(j0:lo<=j)(j1:j<=i)(h:Ins lt lo i j a b)(hl:j=lo\/¬lt (b j) (b (j-1))):Srt (Tie lt) lo (i+1) b:=fun p q p0 pq q1=>by
  have hle:∀p,lo<=p->p<j->Tie lt (b p) (b j):=fun p p0 p1=>by
    rcases hl with hl|hl
    · omega
    · have h1:Tie lt (b (j-1)) (b j):=Tie.of hw (h.big (j-1) (by omega) (by omega)) hl
      by_cases hp:p=j-1
      · rw [hp];exact h1
      · exact(h.rest p (j-1) p0 (by omega) (by omega) (by omega) (by omega)).trans hw h1
  by_cases hp:p=j
  · rw [hp];exact h.less q (by omega) (by omega)
  · by_cases hq:q=j
    · rw [hq];exact hle p p0 (by omega)
    · exact h.rest p q p0 pq (by omega) hp hq
structure Halves (lt:Int->Int->Prop) (a s mid e b:Int) (t:Int->Int):Prop where
  l1:Srt (Tie lt) a s t
  l2:Srt (Tie lt) s mid t
  r1:Srt (Tie lt) mid e t
  r2:Srt (Tie lt) e b t
  pl:Parted a s mid t
  pr:Parted mid e b t
  cross:∀i j,a<=i->i<mid->mid<=j->j<b->Tie lt (t i) (t j)
theorem Halves.left{lt:Int->Int->Prop}{a s mid e b:Int}{t:Int->Int}(h:Halves lt a s mid e b t)(hn:¬(a<s/\s<mid))(s0:a<=s)(s1:s<=mid):Srt (Tie lt) a mid t:=by
  by_cases h1:a<s
  · obtain rfl:s=mid:=by omega
    exact h.l1
  · obtain rfl:a=s:=by omega
    exact h.l2
theorem Halves.right{lt:Int->Int->Prop}{a s mid e b:Int}{t:Int->Int}(h:Halves lt a s mid e b t)(hn:¬(mid<e/\e<b))(s0:mid<=e)(s1:e<=b):Srt (Tie lt) mid b t:=by
  by_cases h1:mid<e
  · obtain rfl:e=b:=by omega
    exact h.r1
  · obtain rfl:mid=e:=by omega
    exact h.r2
theorem Halves.keep{lt:Int->Int->Prop}{a s mid e b:Int}{t u:Int->Int}(h:Halves lt a s mid e b t)(hp:PermOn a mid t u):Srt (Tie lt) mid e u/\Srt (Tie lt) e b u/\Parted mid e b u\/e<mid:=by
  by_cases he:mid<=e
  · refine .inl ⟨h.r1.congr fun k k0 k1=>hp.out (by omega),h.r2.congr fun k k0 k1=>hp.out (by omega),fun i j i0 i1 j0 j1=> ?_⟩
    rw [hp.out (by omega),hp.out (by omega)];exact h.pr i j i0 i1 j0 j1
  · exact .inr (by omega)
theorem Parted.keep{lo c hi x y:Int}{a b:Int->Int}(h:Parted lo c hi a)(hp:PermOn x y a b)(x0:lo<=x)(y0:y<=hi)(hc:y<=c\/c<=x):Parted lo c hi b:=fun i j i0 i1 j0 j1=>by
  have gi:∃i',lo<=i'/\i'<c/\b i=a i':=by
    by_cases hx:x<=i/\i<y
    · obtain⟨i',g0,g1,g2⟩:=hp.fr hx.1 hx.2
      exact⟨i',by omega,by omega,g2⟩
    · exact⟨i,i0,i1,hp.out hx⟩
  have gj:∃j',c<=j'/\j'<hi/\b j=a j':=by
    by_cases hx:x<=j/\j<y
    · obtain⟨j',g0,g1,g2⟩:=hp.fr hx.1 hx.2
      exact⟨j',by omega,by omega,g2⟩
    · exact⟨j,j0,j1,hp.out hx⟩
  obtain⟨i',a1,a2,a3⟩:=gi
  obtain⟨j',b1,b2,b3⟩:=gj
  rw [a3,b3];exact h i' j' a1 a2 b1 b2
def Runs_(lt:Int->Int->Prop)(s n x y:Int)(t:Int->Int):Prop:=∀c,x<=c->c<y->s∣c->Srt (Tie lt) c (min (c+s) n) t/\Parted 0 c n t
theorem Runs_.keep{lt:Int->Int->Prop}{s n x y p q:Int}{t u:Int->Int}(h:Runs_ lt s n x y t)(hp:PermOn p q t u)(p0:0<=p)(q0:q<=n)(hc:∀c,x<=c->c<y->s∣c->min (c+s) n<=p/\c<=p\/q<=c):Runs_ lt s n x y u:=fun c c0 c1 cd=>by
  have h1:=h c c0 c1 cd
  have h2:=hc c c0 c1 cd
  exact⟨h1.1.congr fun k k0 k1=>hp.out (by omega),h1.2.keep hp p0 q0 (by omega)⟩
theorem Halves.after{lt:Int->Int->Prop}{a s mid e b:Int}{t u:Int->Int}(h:Halves lt a s mid e b t)(hp:PermOn a mid t u)(hs:Srt (Tie lt) a mid u)(e0:mid<=e)(e1:e<=b):Halves lt a a mid e b u:=by
  refine⟨fun i j i0 ij j1=>by omega,hs,h.r1.congr fun k k0 k1=>hp.out (by omega),h.r2.congr fun k k0 k1=>hp.out (by omega),fun i j i0 i1 j0 j1=>by omega,fun i j i0 i1 j0 j1=> ?_,fun i j i0 i1 j0 j1=> ?_⟩
  · rw [hp.out (by omega),hp.out (by omega)];exact h.pr i j i0 i1 j0 j1
  · obtain⟨i',g0,g1,g2⟩:=hp.fr i0 i1
    rw [g2,hp.out (k:=j) (by omega)];exact h.cross i' j g0 g1 j0 j1
end Go.Proofs.Gw
namespace Go.Proofs.Gw
def lst(n:Int)(f:Int->Int):List Int:=(List.range n.toNat).map fun(k:Nat)=>f (k:Int)
theorem Z6(n:Int)(f:Int->Int):(lst n f).length=n.toNat:=by simp [lst]
theorem lst_get(n:Int)(f:Int->Int)(k:Nat):(lst n f)[k]? =if(k:Int)<n then some (f k) else none:=by
  unfold lst
  by_cases h:(k:Int)<n
  · rw [if_pos h,List.getElem?_map,List.getElem?_range (by omega)];rfl
  · rw [if_neg h];simp;omega
theorem Vk{n m:Int}{f g:Int->Int}(n0:0<=n)(m0:0<=m):lst n f=lst m g↔n=m/\∀k,0<=k->k<n->f k=g k:=by
  constructor
  · intro h
    have hl:=congrArg List.length h
    rw [Z6,Z6] at hl
    refine⟨by omega,fun k k0 k1=> ?_⟩
    have h1:=congrArg (fun l=>l[k.toNat]?) h
    simp only [lst_get] at h1
    rw [Int.toNat_of_nonneg k0,if_pos k1,if_pos (by omega)] at h1
    injection h1
  · rintro⟨rfl,h⟩
    apply List.ext_getElem?
    intro k
    rw [lst_get,lst_get]
    by_cases hk:(k:Int)<n
    · rw [if_pos hk,if_pos hk,h k (by omega) hk]
    · rw [if_neg hk,if_neg hk]
theorem ZK{n:Int}{f g:Int->Int}(h:∀k,0<=k->k<n->f k=g k):lst n f=lst n g:=by
  apply List.ext_getElem?
  intro k
  rw [lst_get,lst_get]
  by_cases hk:(k:Int)<n
  · rw [if_pos hk,if_pos hk,h k (by omega) hk]
  · rw [if_neg hk,if_neg hk]
def olt:Option Int->Option Int->Prop
  |none,some _=>True
  |some x,some y=>x<y
  |_,_=>False
theorem Vh:∀a,¬olt a a
  |none=>id
  |some x=>by simp [olt]
theorem WP:∀{a b c},olt a b->olt b c->olt a c
  |none,some _,some _,_,_=>trivial
  |some x,some y,some z,h,k=>by simp only [olt] at*;omega
theorem Kw:∀{a b:Option Int},a≠b->olt a b\/olt b a
  |none,none,h=>absurd rfl h
  |none,some _,_=> .inl trivial
  |some _,none,_=> .inr trivial
  |some x,some y,h=>by simp only [olt];have:x≠y:=fun e=>h (by rw [e]);omega
def ahd(a b:List Int):Prop:=∃j:Nat,(∀k<j,a[k]? =b[k]?)/\olt b[j]? a[j]?
theorem ahd_asym{a b:List Int}(h:ahd a b):¬ahd b a:=by
  rintro⟨j,h1,h2⟩
  obtain⟨i,g1,g2⟩:=h
  rcases Nat.lt_trichotomy i j with h|h|h
  · rw [h1 i h] at g2;exact Vh _ g2
  · subst h;exact Vh _ (WP g2 h2)
  · rw [g1 j h] at h2;exact Vh _ h2
theorem T5{a b c:List Int}(h:ahd a b)(k:ahd b c):ahd a c:=by
  obtain⟨i,g1,g2⟩:=h
  obtain⟨j,h1,h2⟩:=k
  rcases Nat.lt_trichotomy i j with h|h|h
  · exact⟨i,fun k hk=>(g1 k hk).trans (h1 k (by omega)),by rw [<-h1 i h];exact g2⟩
  · subst h;exact⟨i,fun k hk=>(g1 k hk).trans (h1 k hk),WP h2 g2⟩
  · exact⟨j,fun k hk=>(g1 k (by omega)).trans (h1 k hk),by rw [g1 j h];exact h2⟩
theorem Zar{a b:List Int}(h:a≠b):ahd a b\/ahd b a:=by
  have hex:∃k:Nat,a[k]? ≠b[k]? :=Classical.byContradiction fun hn=>h (List.ext_getElem? fun k=>Classical.byContradiction fun hk=>hn ⟨k,hk⟩)
  have hmin:∃k:Nat,a[k]? ≠b[k]? /\∀j<k,a[j]? =b[j]? :=by
    obtain⟨k,hk⟩:=hex
    induction k using Nat.strongRecOn with
    | ind k ih=>
      by_cases hb:∃j,j<k/\a[j]? ≠b[j]?
      · obtain⟨j,hj,hne⟩:=hb;exact ih j hj hne
      · exact⟨k,hk,fun j hj=>Classical.byContradiction fun hne=>hb ⟨j,hj,hne⟩⟩
  obtain⟨k,hk,hlt⟩:=hmin
  rcases Kw hk with h1|h1
  · exact .inr ⟨k,fun j hj=>(hlt j hj).symm,h1⟩
  · exact .inl ⟨k,hlt,h1⟩
theorem Zas(a:List Int):¬ahd a a:=fun h=>ahd_asym h h
theorem ahd_gt{n m:Int}{f g:Int->Int}{j:Int}(j0:0<=j)(jn:j<n)(jm:j<m)(he:∀k,0<=k->k<j->f k=g k)(h:g j<f j):ahd (lst n f) (lst m g):=by
  refine⟨j.toNat,fun k hk=> ?_,?_⟩
  · rw [lst_get,lst_get,if_pos (by omega),if_pos (by omega),he k (by omega) (by omega)]
  · rw [lst_get,lst_get,Int.toNat_of_nonneg j0,if_pos jn,if_pos jm];exact h
theorem Ww{n m:Int}{f g:Int->Int}(m0:0<=m)(h:m<n)(he:∀k,0<=k->k<m->f k=g k):ahd (lst n f) (lst m g):=by
  refine⟨m.toNat,fun k hk=> ?_,?_⟩
  · rw [lst_get,lst_get,if_pos (by omega),if_pos (by omega),he k (by omega) (by omega)]
  · rw [lst_get,lst_get,Int.toNat_of_nonneg m0,if_neg (by omega),if_pos h];trivial
theorem Kh{n:Int}{f g:Int->Int}(he:∀k,0<=k->k<n->f k=g k):¬ahd (lst n f) (lst n g):=by
  rw [ZK he];exact Zas _
abbrev Us:=List (List Int×Int)
def plL(n:Int)(ln:Int->Int)(pt:Int->Int->Int)(cnt:Int->Int):Us:=(List.range n.toNat).map fun(i:Nat)=>(lst (ln (i:Int)) (pt (i:Int)),cnt (i:Int))
theorem plL_len(n:Int)(ln:Int->Int)(pt:Int->Int->Int)(cnt:Int->Int):(plL n ln pt cnt).length=n.toNat:=by simp [plL]
theorem plL_get(n:Int)(ln:Int->Int)(pt:Int->Int->Int)(cnt:Int->Int)(k:Nat):(plL n ln pt cnt)[k]? =if(k:Int)<n then some (lst (ln k) (pt k),cnt k) else none:=by
  unfold plL
  by_cases h:(k:Int)<n
  · rw [if_pos h,List.getElem?_map,List.getElem?_range (by omega)];rfl
  · rw [if_neg h];simp;omega
theorem WM{n:Int}{ln ln':Int->Int}{pt pt':Int->Int->Int}{cnt cnt':Int->Int}(h:∀k,0<=k->k<n->ln k=ln' k/\cnt k=cnt' k/\∀j,0<=j->j<ln k->pt k j=pt' k j):plL n ln pt cnt=plL n ln' pt' cnt':=by
  apply List.ext_getElem?
  intro k
  rw [plL_get,plL_get]
  by_cases hk:(k:Int)<n
  · obtain⟨h1,h2,h3⟩:=h k (by omega) hk
    rw [if_pos hk,if_pos hk,h2,<-h1,ZK h3]
  · rw [if_neg hk,if_neg hk]
theorem YH{ln:Int->Int}{pt:Int->Int->Int}{cnt:Int->Int}{i:Int}(i0:0<=i):plL (i+1) ln pt cnt=plL i ln pt cnt++ [(lst (ln i) (pt i),cnt i)]:=by
  unfold plL
  rw [show(i+1).toNat=i.toNat+1 by omega,List.range_succ,List.map_append,List.map_singleton,Int.toNat_of_nonneg i0]
theorem VV{n:Int}{ln ln':Int->Int}{pt pt':Int->Int->Int}{cnt cnt':Int->Int}(n0:0<=n)(h:∀k,0<=k->k<n->ln' k=ln k/\cnt' k=cnt k/\pt' k=pt k){l c:Int}{p:Int->Int}(h1:ln' n=l)(h2:cnt' n=c)(h3:pt' n=p):plL (n+1) ln' pt' cnt'=plL n ln pt cnt++ [(lst l p,c)]:=by
  rw [YH n0,h1,h2,h3]
  congr 1
  exact WM fun k k0 k1=>⟨(h k k0 k1).1,(h k k0 k1).2.1,fun j _ _=>by rw [(h k k0 k1).2.2]⟩
def Yr:Us->List Int×Int->Us
  | [],u=> [u]
  |v::r,u=>if v.1=u.1 then(v.1,v.2+u.2)::r else v::Yr r u
def YL(l:Us):Us:=l.foldl Yr []
theorem Uw:∀{a:Us} {u:List Int×Int},(∀v∈a,v.1≠u.1)->Yr a u=a++ [u]
  | [],_,_=>rfl
  | v::r,u,h=>by
    rw [Yr,if_neg (h v (by simp)),Uw fun w hw=>h w (by simp [hw])];rfl
theorem TA:∀{a:Us} {u:List Int×Int} {j:Nat} {v:List Int×Int},a[j]? =some v->v.1=u.1->(∀k<j,∀w,a[k]? =some w->w.1≠u.1)->Yr a u=a.set j (v.1,v.2+u.2)
  | [],_,_,_,h,_,_=>by simp at h
  | w::r,u,0,v,h,e,_=>by
    simp at h;subst h
    rw [Yr,if_pos e];rfl
  | w::r,u,j+1,v,h,e,hk=>by
    simp at h
    rw [Yr,if_neg (hk 0 (by omega) w (by simp)),TA h e fun k hk' x hx=>hk (k+1) (by omega) x (by simpa using hx)];rfl
theorem XT:∀{a:Us} {u:List Int×Int},∀x∈Yr a u,x.1=u.1\/∃y∈a,y.1=x.1
  | [],u,x,h=>by simp [Yr] at h;exact .inl (by rw [h])
  | v ::r,u,x,h=>by
    rw [Yr] at h
    split at h
    · rcases List.mem_cons.1 h with h|h
      · right;exact⟨v,by simp,by rw [h]⟩
      · right;exact⟨x,by simp [h],rfl⟩
    · rcases List.mem_cons.1 h with h|h
      · right;exact⟨v,by simp,by rw [h]⟩
      · rcases XT x h with h|⟨y,hy,e⟩
        · exact .inl h
        · exact .inr ⟨y,by simp [hy],e⟩
theorem W0:∀{a:Us} {u:List Int×Int},a.Pairwise (fun x y=>x.1≠y.1)->(Yr a u).Pairwise (fun x y=>x.1≠y.1)
  | [],u,_=>by simp [Yr]
  | v ::r,u,h=>by
    have h1:=List.pairwise_cons.1 h
    rw [Yr]
    split
    · exact List.pairwise_cons.2 ⟨h1.1,h1.2⟩
    · rename_i hne
      refine List.pairwise_cons.2 ⟨fun x hx=> ?_,W0 h1.2⟩
      rcases XT x hx with e|⟨y,hy,e⟩
      · rw [e];exact hne
      · rw [<-e];exact h1.1 y hy
theorem Wl:∀(l a:Us),a.Pairwise (fun x y=>x.1≠y.1)->(l.foldl Yr a).Pairwise (fun x y=>x.1≠y.1)
  | [],_,h=>h
  |u::l,a,h=>Wl l _ (W0 h)
theorem TF(l:Us):(YL l).Pairwise (fun x y=>x.1≠y.1):=Wl l [] .nil
theorem WD(l:Us)(u:List Int×Int):YL (l++ [u])=Yr (YL l) u:=by simp [YL]
theorem Uv:∀{a:Us} {u:List Int×Int},(∀x∈a,1<=x.2)->1<=u.2->∀x∈Yr a u,1<=x.2
  | [],u,_,hu,x,h=>by simp [Yr] at h;rw [h];exact hu
  | v ::r,u,ha,hu,x,h=>by
    have hv:=ha v (by simp)
    rw [Yr] at h
    split at h
    · rcases List.mem_cons.1 h with h|h
      · rw [h];dsimp only;omega
      · exact ha x (by simp [h])
    · rcases List.mem_cons.1 h with h|h
      · rw [h];exact hv
      · exact Uv (fun y hy=>ha y (by simp [hy])) hu x h
theorem WT:∀(l a:Us),(∀x∈a,1<=x.2)->(∀x∈l,1<=x.2)->∀x∈l.foldl Yr a,1<=x.2
  | [],_,h,_=>h
  |u::l,a,h,hl=>WT l _ (Uv h (hl u (by simp))) fun x hx=>hl x (by simp [hx])
theorem Rf{l:Us}(h:∀x∈l,1<=x.2):∀x∈YL l,1<=x.2:=WT l [] (by simp) h
def wsum(f:List Int->Int):Us->Int
  | []=>0
  |u::l=>f u.1*u.2+wsum f l
theorem YT(f:List Int->Int):∀a b:Us,wsum f (a++b)=wsum f a+wsum f b
  | [],b=>by simp [wsum]
  |u::a,b=>by simp only [List.cons_append,wsum,YT f a b];omega
theorem WA(f:List Int->Int):∀(a:Us) (u:List Int×Int),wsum f (Yr a u)=wsum f a+f u.1*u.2
  | [],u=>by simp [Yr,wsum]
  | v ::r,u=>by
    rw [Yr]
    split
    · rename_i e
      simp only [wsum,e,Int.mul_add];omega
    · simp only [wsum,WA f r u];omega
theorem X9(f:List Int->Int):∀(l a:Us),wsum f (l.foldl Yr a)=wsum f a+wsum f l
  | [],a=>by simp [wsum]
  |u::l,a=>by rw [List.foldl_cons,X9 f l,WA,wsum];omega
theorem TC(f:List Int->Int)(l:Us):wsum f (YL l)=wsum f l:=by rw [YL,X9];simp [wsum]
theorem TD(f:List Int->Int){a b:Us}(h:a.Perm b):wsum f a=wsum f b:=by
  induction h with
  |nil=>rfl
  |cons x _ ih=>simp only [wsum,ih]
  |swap x y l=>simp only [wsum];omega
  |trans _ _ i1 i2=>rw [i1,i2]
def NormR(l out:Us):Prop:=out.Perm (YL l)/\out.Pairwise (fun u v=>ahd u.1 v.1)
theorem NormR.same{l a b:Us}(h:NormR l a)(k:NormR l b):a=b:=
  (h.1.trans k.1.symm).eq_of_pairwise (le:=fun u v=>ahd u.1 v.1) (fun x y _ _ h1 h2=>absurd h2 (ahd_asym h1)) h.2 k.2
theorem NormR.wsum{l a:Us}(h:NormR l a)(f:List Int->Int):wsum f a=wsum f l:=(TD f h.1).trans (TC f l)
theorem NormR.pos{l a:Us}(h:NormR l a)(hp:∀x∈l,1<=x.2):∀x∈a,1<=x.2:=fun x hx=>Rf hp x (h.1.mem_iff.1 hx)
theorem WE:∀(l a:Us),∀x∈l.foldl Yr a,(∃y∈a,y.1=x.1)\/∃y∈l,y.1=x.1
  | [],a,x,h=> .inl ⟨x,h,rfl⟩
  | u ::l,a,x,h=>by
    rcases WE l _ x h with⟨y,hy,e⟩|⟨y,hy,e⟩
    · rcases XT y hy with e2|⟨z,hz,e2⟩
      · exact .inr ⟨u,by simp,by rw [<-e2,e]⟩
      · exact .inl ⟨z,hz,by rw [e2,e]⟩
    · exact .inr ⟨y,by simp [hy],e⟩
theorem NormR.keys{l a:Us}(h:NormR l a):∀x∈a,∃y∈l,y.1=x.1:=fun x hx=>by
  rcases WE l [] x (h.1.mem_iff.1 hx) with⟨y,hy,_⟩|h
  · simp at hy
  · exact h
end Go.Proofs.Gw
namespace Go.Proofs.Gw
open Go Go.RowKit
def Frame.dq (E:TypeId) (v:Value) (n:Int) (f:Int->Int):Frame where
  holds w:=0<=n/\n<=140737488355328/\((v= .slice none 0 0/\n=0)\/∃g off cap cur,v= .slice (some ⟨g,off,none⟩) n.toNat cap/\w.heap[g]? =some (.cells cur E (0,0))/\n.toNat<=cap/\cap<=maxLen/\off+cap<=cur.size/\
    ∀k:Nat,(k:Int)<n->cur[off+k]? =some (.int .i64 (f k)))
  has g:=∃a l c,v= .slice (some a) l c/\a.block=g
  keep h hk:=by
    obtain⟨h0,h1,h|⟨g,off,cap,cur,rfl,hg,h⟩⟩:=h
    · exact⟨h0,h1,.inl h⟩
    · exact⟨h0,h1,.inr ⟨g,off,cap,cur,rfl,by rw [hk g ⟨_,_,_,rfl,rfl⟩];exact hg,h⟩⟩
  lt h hg:=by
    obtain⟨_,_,h|⟨g,off,cap,cur,rfl,h2,_⟩⟩:=h
    · obtain⟨rfl,_⟩:=h;obtain⟨_,_,_,e,_⟩:=hg;cases e
    · obtain⟨_,_,_,e,rfl⟩:=hg;cases e;exact(Array.getElem?_eq_some_iff.1 h2).1
section
variable {P:Program} {L:List (Nat×Value)} {w w0:World} {o:Oper} {x y z:Operand} {T T':TypeId} {l:List Ent} {E:TypeId} {v:Value} {n:Int} {f:Int->Int}
theorem Frame.dq.row(h:(Frame.dq E v n f).holds w):Row w v 1 n (ints f):=by
  obtain⟨h0,h1,⟨rfl,rfl⟩|⟨g,off,cap,cur,rfl,hg,_,_,_,hc⟩⟩:=h
  · exact Kq _ _ _
  · refine⟨⟨h0,h1,_,_,rfl,.inr ⟨g,off,rfl⟩⟩,fun k hk=> ?_⟩
    have hk2:(k:Int)<n:=by omega
    have:=hc k hk2
    show w.cell? ⟨g,off+(k:Int).toNat,none⟩=_
    rw [cell_of_row w g _ cur E (0,0) hg]
    rw [show(k:Int).toNat=k by omega,this];rfl
theorem Frame.dq.roomy(h:(Frame.dq E v n f).holds w):Yn v:=fun a len cap e=>by
  obtain⟨_,_,⟨rfl,_⟩|⟨g,off,cap',cur,rfl,_,h2,_⟩⟩:=h
  · cases e;omega
  · cases e;exact h2
theorem Sat.resem{F G:Frame}(h:Sat w0 w l)(i:Nat)(hi:l[i]? =some (.sem F))(hG:F.holds w->G.holds w)(hh:∀g,G.has g->F.has g):Sat w0 w (l.set i (.sem G)):=by
  have h':=h
  rw [ZR hi] at h'
  rw [Yx hi]
  exact h'.turn (d:= .sem F) (fun k _ _=>rfl) rfl rfl rfl (Nat.le_refl _) (hG (h.holds _ (List.mem_of_getElem? hi))) (fun g hg=> .inl (hh g hg))
end
end Go.Proofs.Gw
namespace Go.Proofs.Gw
open Go Go.RowKit
theorem PermOn.inj{lo hi:Int}{t:Int->Int}(h:PermOn lo hi (fun k=>k) t){i j:Int}(e:t i=t j):i=j:=by
  obtain⟨p,q,e1,e2,e3⟩:=h
  rw [e3,e3] at e
  have:=congrArg q e
  rwa [(e1 _).2,(e1 _).2] at this
theorem X5{f:Int->Value}{n:Int}{x:Value}(h:∀k,(f k).oneCell'=true)(hx:x.oneCell'=true):∀k,(gsn f n x k).oneCell'=true:=fun k=>by
  unfold gsn;split
  · exact h k
  · exact hx
end Go.Proofs.Gw
namespace Go.Proofs.Ytopmifmfecfaaaa
open Go Go.RowKit Go.Proofs.Gw
theorem KL:Zr Try.prog 50 1=some 1:=by kernel_rfl
theorem Rv{nO i:Int}{lO ln cO cnt:Int->Int}{gO pt:Int->Int->Int}(n0:0<=nO)(i0:0<=i)(hs:plL nO lO gO cO=YL (plL i ln pt cnt))(hne:∀k,0<=k->k<nO->¬(lst (ln i) (pt i)=lst (lO k) (gO k))):
    plL (nO+1) (gsn lO nO (ln i)) (gsn gO nO (pt i)) (Z5 cO nO (cnt i))=YL (plL (i+1) ln pt cnt):=by
  rw [YH i0,WD,<-hs,Uw fun v hv e=>by
    obtain⟨j,hj⟩:=List.mem_iff_getElem?.1 hv
    rw [plL_get] at hj
    split at hj
    · injection hj with hj
      rw [<-hj] at e
      exact hne j (by omega) (by assumption) e.symm
    · cases hj]
  exact VV n0 (fun k k0 k1=>⟨Zx k1,ZH k1,Zx k1⟩) (ZF (by omega)) (ZI (by omega)) (ZF (by omega))
theorem Td{nO i r:Int}{lO ln cO cnt:Int->Int}{gO pt:Int->Int->Int}(i0:0<=i)(hs:plL nO lO gO cO=YL (plL i ln pt cnt))(r0:0<=r)(r1:r<nO)(e:lst (ln i) (pt i)=lst (lO r) (gO r))(hne:∀k,0<=k->k<r->¬(lst (ln i) (pt i)=lst (lO k) (gO k))):
    plL nO lO gO (upd cO r (cO r+cnt i))=YL (plL (i+1) ln pt cnt):=by
  rw [YH i0,WD,<-hs,TA (j:=r.toNat) (v:=(lst (lO r) (gO r),cO r)) (by rw [plL_get,Int.toNat_of_nonneg r0,if_pos r1]) e.symm fun k hk w hw h=>by
    rw [plL_get,if_pos (by omega)] at hw
    injection hw with hw
    rw [<-hw] at h
    exact hne k (by omega) (by omega) h.symm]
  apply List.ext_getElem?
  intro k
  rw [List.getElem?_set,plL_get,plL_get,plL_len]
  unfold upd
  by_cases hk:(k:Int)<nO
  · rw [if_pos hk,if_pos hk]
    by_cases hr:r.toNat=k
    · have hr':(k:Int)=r:=by omega
      rw [if_pos hr',if_pos hr,if_pos (by omega),hr']
    · have hr':¬(k:Int)=r:=by omega
      rw [if_neg hr',if_neg hr]
  · rw [if_neg hk,if_neg hk,if_neg (by omega)]
theorem Zax{cC:Int->Int}{nC B C x r:Int}(h:∀k,0<=k->k<nC->1<=cC k/\cC k<=B)(hB:B<=C)(x1:1<=x)(x2:x<=C):∀k,0<=k->k<nC->1<=upd cC r x k/\upd cC r x k<=C:=fun k k0 k1=>by
  unfold upd
  by_cases e:k=r
  · rw [if_pos e];omega
  · rw [if_neg e];have:=h k k0 k1;omega
end Go.Proofs.Ytopmifmfecfaaaa
namespace Go.Proofs.Gw
def incr1(p:List Int)(x:Int):List Int:=p.modify x.toNat (· +1)
def Z8(m room:Int)(sz:Int->Int)(x:Int):Us->Us
  | []=> [(incr1 (lst m fun _=>0) x,room-sz x)]
  |b::r=>if sz x<=b.2 then(incr1 b.1 x,b.2-sz x)::r else b::Z8 m room sz x r
def YF(m room:Int)(sz:Int->Int)(l:List Int):Us:=l.foldl (fun s x=>Z8 m room sz x s) []
def pcs(d:Int->Int):Nat->List Int
  |0=> []
  |k+1=>pcs d k++List.replicate (d k).toNat (k:Int)
def pcsTo(d:Int->Int)(i c:Int):List Int:=pcs d i.toNat++List.replicate c.toNat i
def psum(f d:Int->Int):Nat->Int
  |0=>0
  |k+1=>psum f d k+f k*d k
theorem Z3(f d:Int->Int){i:Int}(h:0<=i):psum f d (i+1).toNat=psum f d i.toNat+f i*d i:=by
  rw [show(i+1).toNat=i.toNat+1 by omega,psum,Int.toNat_of_nonneg h]
theorem W8(f:Int->Int)(x:Int):∀n:Nat,((List.replicate n x).map f).sum=f x*n
  |0=>by simp
  |n+1=>by rw [List.replicate_succ,List.map_cons,List.sum_cons,W8 f x n];push_cast;rw [Int.mul_add];omega
theorem Ta(f d:Int->Int):∀n:Nat,(∀k:Nat,k<n->0<=d k)->((pcs d n).map f).sum=psum f d n
  |0,_=>by simp [pcs,psum]
  | n+1,h=>by
    have h0:=h n (by omega)
    rw [pcs,List.map_append,List.sum_append,Ta f d n fun k hk=>h k (by omega),W8,psum,Int.toNat_of_nonneg h0]
theorem WO(f d:Int->Int){i c:Int}(i0:0<=i)(c0:0<=c)(h:∀k,0<=k->k<i->0<=d k):((pcsTo d i c).map f).sum=psum f d i.toNat+f i*c:=by
  unfold pcsTo;rw [List.map_append,List.sum_append,Ta f d _ fun k hk=>h k (by omega) (by omega),W8,Int.toNat_of_nonneg c0]
theorem TM(d:Int->Int){i c:Int}(i0:0<=i)(c0:0<=c)(h:∀k,0<=k->k<i->0<=d k):((pcsTo d i c).length:Int)=psum (fun _=>1) d i.toNat+c:=by
  have h1:=WO (fun _=>1) d i0 c0 h
  have h2:∀l:List Int,(l.map fun _=>(1:Int)).sum=l.length:=fun l=>by
    induction l with
    |nil=>rfl
    |cons a l ih=>rw [List.map_cons,List.sum_cons,ih,List.length_cons];push_cast;omega
  rw [h2] at h1;omega
theorem Ys{d:Int->Int}{f:Int->Int}:∀{i n:Nat},i<=n->(∀k:Nat,k<n->0<=f k*d k)->psum f d i<=psum f d n:=by
  intro i n hin h
  induction hin with
  |refl=>exact Int.le_refl _
  | step hh ih=>
    have h1:=ih fun k hk=>h k (by omega)
    have h2:=h _ (Nat.lt_succ_self _)
    simp only [psum];omega
def YM(sz:Int->Int)(p:List Int):Int:=((List.range p.length).map fun(k:Nat)=>p.getD k 0*sz k).sum
theorem YG{α:Type}{f g:α->Int}{l:List α}(h:∀x∈l,f x=g x):(l.map f).sum=(l.map g).sum:=by rw [List.map_congr_left h]
theorem U1{f:Nat->Int}{x:Nat}{c:Int}:∀{n:Nat},x<n->((List.range n).map fun k=>if k=x then f k+c else f k).sum=((List.range n).map f).sum+c
  |0,h=>by omega
  | n +1,h=>by
    rw [List.range_succ,List.map_append,List.map_append,List.sum_append,List.sum_append]
    by_cases hx:x=n
    · subst hx
      rw [YG (g:=f) fun k hk=>by rw [if_neg];have:=List.mem_range.1 hk;omega]
      simp;omega
    · rw [U1 (by omega)]
      simp [Ne.symm hx];omega
theorem Y8(sz:Int->Int){p:List Int}{x:Int}(x0:0<=x)(h:x.toNat<p.length):YM sz (incr1 p x)=YM sz p+sz x:=by
  unfold YM incr1
  rw [List.length_modify,<-U1 (x:=x.toNat) h]
  apply YG
  intro k hk
  have hk:=List.mem_range.1 hk
  rw [List.getD_eq_getElem?_getD,List.getD_eq_getElem?_getD,List.getElem?_modify]
  by_cases hx:x.toNat=k
  · have hx':(k:Int)=x:=by omega
    rw [if_pos hx.symm,List.getElem?_eq_getElem hk]
    simp [hx,Int.add_mul,hx']
  · rw [if_neg (Ne.symm hx)];simp [hx]
theorem WH(sz:Int->Int)(m:Int):YM sz (lst m fun _=>0)=0:=by
  unfold YM
  rw [YG (g:=fun _=>0) fun k hk=>by
    rw [Z6] at hk
    have hk:=List.mem_range.1 hk
    rw [List.getD_eq_getElem?_getD,lst_get,if_pos (by omega)];simp]
  induction (List.range (lst m fun _=>0).length) with
  |nil=>rfl
  |cons a l ih=>rw [List.map_cons,List.sum_cons,ih];rfl
structure FFOk (m room:Int) (sz:Int->Int) (hist:List Int) (s:Us):Prop where
  ok:∀b∈s,b.1.length=m.toNat/\YM sz b.1+b.2=room/\0<=b.2
  pr:s.Pairwise fun a b=>a.2+b.2<room
  mt:(s.map fun b=>room-b.2).sum=(hist.map sz).sum
  ct:∀g:Int->Int,(s.map fun b=>YM g b.1).sum=(hist.map g).sum
  ln:s.length<=hist.length
  nn:∀b∈s,∀v∈b.1,0<=v
theorem FFOk.nil(m room:Int)(sz:Int->Int):FFOk m room sz [] []:=⟨by simp,.nil,rfl,fun _=>rfl,by simp,by simp⟩
theorem V4{p:List Int}{x:Int}(h:∀v∈p,0<=v):∀v∈incr1 p x,0<=v:=by
  intro v hv
  unfold incr1 at hv
  obtain⟨k,hk⟩:=List.mem_iff_getElem?.1 hv
  rw [List.getElem?_modify] at hk
  cases hp:p[k]? with
  |none=>rw [hp] at hk;cases hk
  | some u=>
    rw [hp] at hk
    have h0:=h u (List.mem_of_getElem? hp)
    by_cases hx:x.toNat=k
    · simp [hx] at hk;omega
    · simp [hx] at hk;omega
theorem Xb {m room:Int} {sz:Int->Int} {x:Int}:∀{s:Us},∀b∈Z8 m room sz x s,b∈s\/(∃c∈s,sz x<=c.2/\b=(incr1 c.1 x,c.2-sz x))\/(b=(incr1 (lst m fun _=>0) x,room-sz x)/\∀c∈s,c.2<sz x)
  | [],b,h=>by simp [Z8] at h;exact .inr (.inr ⟨h,by simp⟩)
  | c :: r, b,h=>by
    rw [Z8] at h
    split at h
    · rename_i hc
      rcases List.mem_cons.1 h with h|h
      · exact .inr (.inl ⟨c,by simp,hc,h⟩)
      · exact .inl (by simp [h])
    · rename_i hc
      rcases List.mem_cons.1 h with h|h
      · exact .inl (by simp [h])
      · rcases Xb b h with h|⟨d,hd,e⟩|⟨e,hd⟩
        · exact .inl (by simp [h])
        · exact .inr (.inl ⟨d,by simp [hd],e⟩)
        · exact .inr (.inr ⟨e,fun d hd'=>by
            rcases List.mem_cons.1 hd' with h|h
            · rw [h];omega
            · exact hd d h⟩)
theorem WU{m room:Int}{sz:Int->Int}{x:Int}(F:List Int×Int->Int)(y:Int)(h1:∀c:List Int×Int,sz x<=c.2->F (incr1 c.1 x,c.2-sz x)=F c+y)(h2:F (incr1 (lst m fun _=>0) x,room-sz x)=y):∀{s:Us},((Z8 m room sz x s).map F).sum=(s.map F).sum+y
  | []=>by simp [Z8,h2]
  | c ::r=>by
    rw [Z8]
    split
    · rename_i hc
      simp only [List.map_cons,List.sum_cons,h1 c hc];omega
    · simp only [List.map_cons,List.sum_cons,WU F y h1 h2 (s:=r)];omega
theorem Ua{m room:Int}{sz:Int->Int}{x:Int}(hx:0<=sz x):∀{s:Us},s.Pairwise (fun a b=>a.2+b.2<room)->(Z8 m room sz x s).Pairwise fun a b=>a.2+b.2<room
  | [],_=>by simp [Z8]
  | c ::r,h=>by
    have h1:=List.pairwise_cons.1 h
    rw [Z8]
    split
    · refine List.pairwise_cons.2 ⟨fun b hb=> ?_,h1.2⟩
      have:=h1.1 b hb
      dsimp only;omega
    · refine List.pairwise_cons.2 ⟨fun b hb=> ?_,Ua hx h1.2⟩
      rcases Xb b hb with h|⟨d,hd,_,e⟩|⟨e,hd⟩
      · exact h1.1 b h
      · rw [e];have:=h1.1 d hd;dsimp only;omega
      · rw [e];dsimp only;omega
theorem WV{m room:Int}{sz:Int->Int}{x:Int}:∀{s:Us},(Z8 m room sz x s).length<=s.length+1
  | []=>by simp [Z8]
  | c::r=>by
    rw [Z8]
    split
    · simp
    · simp only [List.length_cons];have:=WV (m:=m) (room:=room) (sz:=sz) (x:=x) (s:=r);omega
theorem RJ {m room:Int} {sz:Int->Int} {x:Int} {hist:List Int} {s:Us} (h:FFOk m room sz hist s) (x0:0<=x) (x1:x<m) (hx:0<=sz x) (hr:sz x<=room):FFOk m room sz (hist++ [x]) (Z8 m room sz x s):=by
  have hl:x.toNat<(lst m fun _=>(0:Int)).length:=by rw [Z6];omega
  refine⟨fun b hb=> ?_,Ua hx h.pr,?_,fun g=> ?_,?_,fun b hb=> ?_⟩
  · rcases Xb b hb with hb|⟨c,hc,hs,e⟩|⟨e,_⟩
    · exact h.ok b hb
    · obtain⟨h1,h2,h3⟩:=h.ok c hc
      rw [e]
      refine⟨by simp [incr1,h1],?_,by dsimp only;omega⟩
      rw [Y8 sz x0 (by omega)];dsimp only;omega
    · rw [e]
      refine⟨by simp [incr1,Z6],?_,by dsimp only;omega⟩
      rw [Y8 sz x0 hl,WH];dsimp only;omega
  · rw [WU (fun b=>room-b.2) (sz x) (fun c hc=>by dsimp only;omega) (by dsimp only;omega),h.mt];simp
  · have key:∀{s:Us},(∀b∈s,b.1.length=m.toNat)->((Z8 m room sz x s).map fun b=>YM g b.1).sum=(s.map fun b=>YM g b.1).sum+g x:=by
      intro s hs
      induction s with
      |nil=>simp [Z8,Y8 g x0 hl,WH]
      | cons c r ih=>
        rw [Z8]
        split
        · simp only [List.map_cons,List.sum_cons]
          rw [Y8 g x0 (by rw [hs c (by simp)];omega)];omega
        · simp only [List.map_cons,List.sum_cons,ih fun b hb=>hs b (by simp [hb])];omega
    rw [key fun b hb=>(h.ok b hb).1,h.ct];simp
  · have:=WV (m:=m) (room:=room) (sz:=sz) (x:=x) (s:=s);have:=h.ln;simp;omega
  · rcases Xb b hb with hb|⟨c,hc,hs,e⟩|⟨e,_⟩
    · exact h.nn b hb
    · rw [e];exact V4 (h.nn c hc)
    · rw [e];exact V4 fun v hv=>by
        unfold lst at hv;simp at hv;omega
theorem RI{m room:Int}{sz:Int->Int}:∀{l:List Int},(∀x∈l,0<=x/\x<m/\0<=sz x/\sz x<=room)->FFOk m room sz l (YF m room sz l):=by
  intro l
  have key:∀(l h:List Int) (s:Us),FFOk m room sz h s->(∀x∈l,0<=x/\x<m/\0<=sz x/\sz x<=room)->FFOk m room sz (h++l) (l.foldl (fun s x=>Z8 m room sz x s) s):=by
    intro l
    induction l with
    |nil=>intro h s hs _;simpa using hs
    | cons x l ih=>
      intro h s hs hl
      obtain⟨h1,h2,h3,h4⟩:=hl x (by simp)
      have:=ih (h++ [x]) _ (RJ hs h1 h2 h3 h4) fun y hy=>hl y (by simp [hy])
      simpa using this
  intro hl
  have:=key l [] [] (.nil _ _ _) hl
  simpa [YF] using this
theorem Tc{d:Int->Int}:∀{n:Nat},∀x∈pcs d n,0<=x/\x<n
  |0,x,h=>by simp [pcs] at h
  | n+1,x,h=>by
    rw [pcs] at h
    rcases List.mem_append.1 h with h|h
    · have:=Tc x h;omega
    · have:=(List.mem_replicate.1 h).2;omega
def UJ(s:Us):Us:=s.map fun b=>(b.1,1)
theorem XF(f:List Int->Int):∀s:Us,wsum f (UJ s)=(s.map fun b=>f b.1).sum
  | []=>rfl
  | b::r=>by
    have:=XF f r
    unfold UJ at this⊢
    simp only [List.map_cons,wsum,List.sum_cons,this];omega
end Go.Proofs.Gw
namespace Go.Proofs.Gw
open Go Go.RowKit
def FZ(r:Option Nat):Fence:={fn:=fun _=>True,depth:=none,alive:=false,round:=r}
theorem Kj{P:Program}{f:FuncId}{args:Array Value}{w:World}{R:Ending->World->Prop}{r:Option Nat}{n:Nat}(h:Calls P f args w R):CallsIn (FZ r) n P f args w R:=
  (callsIn_wide (n:=n)).2 h
abbrev Frd(a:Act)(n:Nat)(ds:List Deferred)(L:List (Nat×Value)):Prop:=Fr a n ds L
def ndf(o:Oper):Bool:=match o.op with
  | .defer _=>false
  |_=>true
theorem Vi{o:Oper}(h:ndf o=true)(r:Option Nat)(ρ:Operand->Value):o.semAt r ρ=execOp ρ o:=
  Oper.semAt_eq _ _ _ (by intro c hc;unfold ndf at h;rw [hc] at h;cases h)
section
variable {P:Program} {l rest:List Oper} {Q Q':Exit->Act->World->Prop} {w w' w0:World} {o:Oper} {n d:Nat} {L M:List (Nat×Value)} {x y:Code} {c:Operand} {e:Exit} {p:Prop} {r:Option Nat} {ds:List Deferred}
def Hl(P:Program)(r:Option Nat)(n:Nat)(l:List Oper)(Q:Exit->Act->World->Prop)(rest:List Oper)(ds:List Deferred)(L:List (Nat×Value))(w:World):Prop:=∀a,Frd a n ds L->wpListIn (FZ r) 0 P l.toArray Q rest a w
def Hc(P:Program)(r:Option Nat)(n:Nat)(Q:Exit->Act->World->Prop)(x:Code)(ds:List Deferred)(L:List (Nat×Value))(w:World):Prop:=∀a,Frd a n ds L->x.wpIn (FZ r) 0 P Q a w
abbrev He(n:Nat)(Q:Exit->Act->World->Prop)(e:Exit)(ds:List Deferred)(L:List (Nat×Value))(w:World):Prop:=Ge n ds Q e L w
theorem RA{b:Bool}{a:Act}(hF:Frd a n ds L)(h:gdB l L o=some b):Region.wanted o (yielded l.toArray a.tmps)=b:=by
  exact(ZB h).wanted hF
theorem hlv{v:Value}(hr:Runs P L w o (.value v) w')(K:Hl P r n l Q rest ds ((d,v)::L) w')(hg:gdB l L o=some true:=by exact rfl)(hd:o.dst=some d:=by exact rfl)(hdn:Nat.blt d n=true:=by exact rfl)(hn:ndf o=true:=by exact rfl):Hl P r n l Q (o::rest) ds L w:=fun a hF=>by
  unfold wpListIn
  rw [if_pos (RA hF hg)]
  refine⟨fun _ _=>trivial,?_⟩
  rw [Vi hn,hr _ hF.agr,Oper.uponIn_value,hd]
  exact K _ (hF.put (by simpa [Nat.blt_eq] using hdn) v)
theorem hle{R:World->Prop}(hr:∃w',Runs P L w o .skip w'/\R w')(K:∀w',R w'->Hl P r n l Q rest ds L w')(hg:gdB l L o=some true:=by exact rfl)(hd:o.dst=none:=by exact rfl)(hn:ndf o=true:=by exact rfl):Hl P r n l Q (o::rest) ds L w:=fun a hF=>by
  obtain⟨w',hr,hR⟩:=hr
  unfold wpListIn
  rw [if_pos (RA hF hg)]
  refine⟨fun _ _=>trivial,?_⟩
  rw [Vi hn,hr _ hF.agr,Oper.uponIn_skip,hd]
  exact K w' hR a hF
theorem hlc{f:FuncId}{args:Array Value}{R:Value->World->Prop}(hr:Runs P L w o (.enter f args) w)(hc:Calls P f args w fun e w'=>∃v,e= .returned v/\R v w')(K:∀v w',R v w'->Hl P r n l Q rest ds ((d,v)::L) w')
    (hg:gdB l L o=some true:=by exact rfl) (hd:o.dst=some d:=by exact rfl) (hdn:Nat.blt d n=true:=by exact rfl) (hn:ndf o=true:=by exact rfl):Hl P r n l Q (o::rest) ds L w:=fun a hF=>by
  unfold wpListIn
  rw [if_pos (RA hF hg)]
  refine⟨fun _ _=>trivial,?_⟩
  rw [Vi hn,hr _ hF.agr,Oper.uponIn_enter]
  refine⟨fun h=>(by cases h),Kj (hc.mono fun e w' ⟨v,he,hR⟩=> ?_)⟩
  subst he
  rw [hd]
  exact K v w' hR _ (hF.put (by simpa [Nat.blt_eq] using hdn) v)
theorem hrg{id:Nat}(h:Hl P r n l Q l ds L w):Hc P r n Q (.region id l.toArray false) ds L w:=fun a hF=>wpIn_region_lit (h a hF)
theorem hcf(h:Hc P r n Q y ds L w)(hc:evL L c=some (.bool false):=by exact rfl):Hc P r n Q (.cond c x y) ds L w:=fun a hF=>wpIn_cond_false (hF.agr _ _ hc) (h a hF)
theorem hsk(h:He n Q .normal ds L w):Hc P r n Q .skip ds L w:=fun a hF=>wpIn_skip (h a hF)
theorem htn(h:Hc P r n Q y ds L w):He n (Exit.then (y.wpIn (FZ r) 0 P Q) Q') .normal ds L w:=h
end
end Go.Proofs.Gw
namespace Go.Proofs.Ytopmifmfecfaaaa
open Go Go.RowKit Go.Proofs.Gw
def ChkR(p:Prob)(e:Int):Prop:=(¬p.Ok/\e=1)\/(p.Ok/\1000<psum (fun _=>1) p.D p.m.toNat/\e=9)\/(p.Ok/\psum (fun _=>1) p.D p.m.toNat<=1000/\e=0)
theorem Rs{d:Int->Int}{m i c:Int}(hd:∀k,0<=k->k<m->0<=d k)(i0:0<=i)(i1:i<=m)(c0:0<=c)(c1:i<m->c<=d i)(c2:i=m->c=0):(∀x∈pcsTo d i c,0<=x/\x<m)/\((pcsTo d i c).length:Int)<=psum (fun _=>1) d m.toNat:=by
  constructor
  · intro x hx
    unfold pcsTo at hx
    rcases List.mem_append.1 hx with h|h
    · have:=Tc x h;omega
    · have h1:=List.mem_replicate.1 h
      have h2:=h1.2
      rcases Int.lt_or_eq_of_le i1 with h3|h3
      · omega
      · have:=c2 h3;have:=h1.1;omega
  · rw [TM d i0 c0 fun k k0 k1=>hd k k0 (by omega)]
    rcases Int.lt_or_eq_of_le i1 with h3|h3
    · have h4:=c1 h3
      have h5:=Z3 (fun _=>1) d i0
      have h6:=Ys (d:=d) (f:=fun _=>1) (i:=(i+1).toNat) (n:=m.toNat) (by omega) fun k hk=>by have:=hd k (by omega) (by omega);omega
      rw [h5] at h6;omega
    · have:=c2 h3;rw [h3];omega
theorem Vf {sz:Int->Int} {p:List Int} (hp:∀v∈p,0<=v) (hs:∀k:Nat,k<p.length->1<=sz k) {j:Nat} (hj:j<p.length):p.getD j 0<=YM sz p:=by
  have key:∀(l:List Nat) (f:Nat->Int),(∀k∈l,0<=f k)->∀j∈l,f j<=(l.map f).sum:=by
    intro l f
    induction l with
    |nil=>intro _ j h;simp at h
    | cons a l ih=>
      intro h0 j h
      have h1:0<=(l.map f).sum:=by
        clear ih h
        induction l with
        |nil=>simp
        |cons b l ih2=>rw [List.map_cons,List.sum_cons];have:=h0 b (by simp);have:=ih2 (fun k hk=>h0 k (by rcases List.mem_cons.1 hk with h|h<;>simp [h]));omega
      rw [List.map_cons,List.sum_cons]
      rcases List.mem_cons.1 h with e|e
      · rw [e];omega
      · have:=ih (fun k hk=>h0 k (by simp [hk])) j e;have:=h0 a (by simp);omega
  have nn:∀k:Nat,k<p.length->0<=p.getD k 0:=fun k hk=>by
    rw [List.getD_eq_getElem?_getD,List.getElem?_eq_getElem hk]
    exact hp _ (List.getElem_mem hk)
  have h1:=key (List.range p.length) (fun k=>p.getD k 0*sz k) (fun k hk=>by
    have hk:=List.mem_range.1 hk
    exact Int.mul_nonneg (nn k hk) (by have:=hs k hk;omega)) j (List.mem_range.2 hj)
  have h2:=nn j hj
  have h3:=hs j hj
  have h4:=Int.mul_le_mul_of_nonneg_left h3 h2
  exact Int.le_trans (show p.getD j 0<=p.getD j 0*sz j by omega) h1
structure FSt where
  h:List Int
  vB:Value
  n:Int
  vv:Int->Value
  P:Int->Int->Int
  vL:Value
  L:Int->Int
abbrev szP(p:Prob):Int->Int:=fun k=>p.L k+p.kerf
def FInv(p:Prob)(s:FSt):Prop:=plL s.n (fun _=>p.m) s.P s.L=YF p.m (p.stock+p.kerf) (szP p) s.h/\Slh s.vB s.n/\Slh s.vL s.n
theorem UD{p:Prob}(hok:p.Ok){x:Int}(x0:0<=x)(x1:x<p.m):1<=szP p x/\szP p x<=p.stock+p.kerf:=by
  have he:=hok.all x x0 x1
  unfold Prob.each at he
  have:=hok.k1
  unfold szP;omega
theorem Tr{p:Prob}(hok:p.Ok){l:List Int}(hm:∀x∈l,0<=x/\x<p.m):FFOk p.m (p.stock+p.kerf) (szP p) l (YF p.m (p.stock+p.kerf) (szP p) l):=
  RI fun x hx=>by
    have h1:=hm x hx
    have h2:=UD hok h1.1 h1.2
    exact⟨h1.1,h1.2,by omega,h2.2⟩
theorem FInv.rng{p:Prob}{s:FSt}(hok:p.Ok)(h:FInv p s)(hm:∀x∈s.h,0<=x/\x<p.m)(hl:(s.h.length:Int)<=1000):s.n<=1000/\∀k,0<=k->k<s.n->(0<=s.L k/\s.L k<=p.stock+p.kerf)/\∀j,0<=j->j<p.m->0<=s.P k j/\s.P k j<=p.stock+p.kerf:=by
  have hk:=Tr hok hm
  rw [<-h.1] at hk
  have h1:=hk.ln
  rw [plL_len] at h1
  refine⟨by omega,fun k k0 k1=> ?_⟩
  have hb:(lst p.m (s.P k),s.L k)∈plL s.n (fun _=>p.m) s.P s.L:=List.mem_iff_getElem?.2 ⟨k.toNat,by rw [plL_get,Int.toNat_of_nonneg k0,if_pos k1]⟩
  obtain⟨h2,h3,h4⟩:=hk.ok _ hb
  have h5:=hk.nn _ hb
  dsimp only at h2 h3 h4 h5
  have hg:∀j,0<=j->j<p.m->(lst p.m (s.P k)).getD j.toNat 0=s.P k j:=fun j j0 j1=>by rw [List.getD_eq_getElem?_getD,lst_get,Int.toNat_of_nonneg j0,if_pos j1];rfl
  have h8:∀j:Nat,j<(lst p.m (s.P k)).length->1<=szP p j:=fun j hj=>by
    rw [Z6] at hj
    exact(UD hok (by omega) (by omega)).1
  have h9:0<=YM (szP p) (lst p.m (s.P k)):=by
    have hm1:=hok.m1
    have h10:=Vf h5 h8 (j:=0) (by rw [Z6];omega)
    have h11:=hg 0 (by omega) (by omega)
    have h12:=h5 (s.P k 0) (by
      have:=lst_get p.m (s.P k) 0
      rw [if_pos (by omega)] at this
      exact List.mem_of_getElem? this)
    rw [show(0:Int).toNat=0 from rfl] at h11
    omega
  refine⟨⟨h4,by omega⟩,fun j j0 j1=> ?_⟩
  have h6:=Vf h5 h8 (j:=j.toNat) (by rw [Z6];omega)
  rw [hg j j0 j1] at h6
  have h7:=h5 (s.P k j) (by
    have:=lst_get p.m (s.P k) j.toNat
    rw [Int.toNat_of_nonneg j0,if_pos j1] at this
    exact List.mem_of_getElem? this)
  exact⟨h7,by omega⟩
theorem VF(f:List Int->Int){ln:Int->Int}{pt:Int->Int->Int}{cnt:Int->Int}:∀n:Nat,wsum f (plL (n:Int) ln pt cnt)=psum (fun k=>f (lst (ln k) (pt k))) cnt n
  |0=>rfl
  | n+1=>by
    rw [show((n+1:Nat):Int)=(n:Int)+1 by omega,YH (by omega),YT,VF f n]
    simp only [wsum,psum];omega
theorem Y1(f:List Int->Int){n:Int}{ln:Int->Int}{pt:Int->Int->Int}{cnt:Int->Int}(n0:0<=n):wsum f (plL n ln pt cnt)=psum (fun k=>f (lst (ln k) (pt k))) cnt n.toNat:=by
  have:=VF f (ln:=ln) (pt:=pt) (cnt:=cnt) n.toNat
  rwa [Int.toNat_of_nonneg n0] at this
theorem sum_range(f:Nat->Int):∀n:Nat,((List.range (n+1)).map f).sum=((List.range n).map f).sum+f n:=fun n=>by
  rw [List.range_succ,List.map_append,List.sum_append];simp
theorem Rm(sz:Int->Int)(f:Int->Int):∀n:Nat,YM sz (lst (n:Int) f)=psum sz f n:=fun n=>by
  have key:∀j:Nat,j<=n->((List.range j).map fun(k:Nat)=>(lst (n:Int) f).getD k 0*sz k).sum=psum sz f j:=by
    intro j
    induction j with
    |zero=>intro _;rfl
    | succ j ih=>
      intro hj
      rw [sum_range,ih (by omega),psum,List.getD_eq_getElem?_getD,lst_get,if_pos (by omega),Int.mul_comm];rfl
  unfold YM
  rw [Z6,Int.toNat_natCast]
  exact key n (Nat.le_refl _)
theorem WI(sz:Int->Int)(f:Int->Int){n:Int}(n0:0<=n):YM sz (lst n f)=psum sz f n.toNat:=by
  have:=Rm sz f n.toNat
  rwa [Int.toNat_of_nonneg n0] at this
def FFitR(p:Prob)(l:Us)(e:Int):Prop:=ChkR p e/\(e=0->NormR (UJ (YF p.m (p.stock+p.kerf) (szP p) (pcsTo p.D p.m 0))) l)/\(e≠0->l= [])
theorem ChkR.same{p:Prob}{e f:Int}(h:ChkR p e)(k:ChkR p f):e=f:=by
  rcases h with⟨h1,h2⟩|⟨h1,h2,h3⟩|⟨h1,h2,h3⟩<;>rcases k with⟨k1,k2⟩|⟨k1,k2,k3⟩|⟨k1,k2,k3⟩<;>first|exact absurd h1 k1|exact absurd k1 h1|omega
theorem FFitR.same{p:Prob}{l m:Us}{e f:Int}(h:FFitR p l e)(k:FFitR p m f):l=m/\e=f:=by
  have he:=h.1.same k.1
  subst he
  refine⟨?_,rfl⟩
  by_cases h0:e=0
  · exact(h.2.1 h0).same (k.2.1 h0)
  · rw [h.2.2 h0,k.2.2 h0]
set_option maxRecDepth 20000 in
theorem c_pbars{vV:Value}{u:Int}{pv:Int->Value}{ln:Int->Int}{pt:Int->Int->Int}{cnt:Int->Int}(w0:World)(hV:VAt w0 vV u pv ln pt cnt)(hu6:u<=1000000)(hbc:∀k,0<=k->k<u->0<=cnt k/\cnt k<=1000000000):
    Calls Try.prog 16 [vV].toArray w0 fun e w=>∃v,e= .returned v/\v= .int .i64 (psum (fun _=>1) cnt u.toNat)/\Sat w0 w []:=by
  have hn:=hV.row.slh.n0;have hn1:=hV.row.slh.n1
  refine Zn Try.func16 Try.ntmps16 fun w hS=> ?_
  refine zsr ?_
  refine zlv xas ?_
  refine zlz ?_
  refine zlv xas ?_
  refine zx5 ?_
  refine zlv xmv ?_
  refine zlv (xln U5 hV.row.slh) ?_
  refine zlv xmv ?_
  refine zx6<|zlp (fun mm M w=>∃(s:Int) (i:Int),mm=((u-i).toNat)/\(0<=i)/\(i<=u)/\(s=psum (fun _=>1) cnt i.toNat)/\(0<=s/\s<=1000000000*i)/\M= [(2,.int .i64 0),(3,.int .i64 s),(6,vV),(7,.int .i64 u),(8,.int .i64 i)]/\Sat w0 w []) ⟨0,0,rfl,(by omega),(by omega),?_,(by omega),rfl,hS⟩ ?_
  ·
   rfl
  clear hS w
  rintro mm M w ⟨s,i,rfl,h0,h1,hs9,hsb,rfl,hS⟩
  refine zsr ?_
  refine zlv Zk ?_
  refine zlt<|zsq ?_
  refine zcif ?_ ?_<;>intro hc
  ·
   refine zx3 ?_
   refine zlv (xix (kk:=2*i) U5 hV.row.slh) ?_
   refine zlv (xlw (cs:= [(pv i),.int .i64 (cnt i)]) Zaw (hV.row.below hS.below) (Y7 (k:=2*i) (i:=i) pv cnt (by omega))) ?_
   have hci:=hbc i h0 (by omega)
   refine zla (xal (cs:= [_,_]) RQ hS) ?_;rintro _ w ⟨g1,rfl,hS⟩
   replace hS:=hS.n1
   refine zle (xsw 0 Zaw hS (hd:=(Za (hV.p i (by omega) (by omega)).slh.one (Za rfl Zh)))) ?_;clear hS;rintro w hS
   replace hS:=hS.n1
   refine zlt<|zrg ?_
   refine zlv xmv ?_
   refine zlv (xfb 1 KL) ?_
   refine zlv (xlb 0 pl_3 hS) ?_
   refine zlv (xadd (r:=s+(cnt i))) ?_
   refine zlv xas ?_
   refine zx10 ?_
   refine zlv (xadd (r:=i+1)) ?_
   refine zlv xmv ?_
   refine zln<|zlq ⟨s+(cnt i),i+1,rfl,(by omega),(by omega),?_,(by omega),rfl,hS.nl⟩
   ·
    rw [Z3 _ _ h0,<-hs9];omega
  refine zx8 ?_
  refine zs2 ?_
  refine zx1<|zf1 ⟨_,rfl,?_⟩
  obtain rfl:i=u:=by omega
  exact⟨congrArg (Value.int .i64) hs9,hS⟩
end Go.Proofs.Ytopmifmfecfaaaa
namespace Go.Proofs.Gw
open Go Go.RowKit
section
variable {P:Program} {l rest:List Oper} {Q Q':Exit->Act->World->Prop} {w w' w0:World} {o:Oper} {n d fuel i:Nat} {L M:List (Nat×Value)} {x y:Code} {c:Operand} {e:Exit} {p:Prop} {r:Option Nat} {ds:List Deferred} {listed:Array Bool} {K:Act->World->Prop}
def Hd(P:Program)(r:Option Nat)(n:Nat)(l:List Oper)(Q:Exit->Act->World->Prop)(fuel:Nat)(listed:Array Bool)(ds:List Deferred)(L:List (Nat×Value))(w:World):Prop:=∀a,Frd a n ds L->wpAnyIn (FZ r) 0 P .any l.toArray Q fuel listed a w
def Ho(P:Program)(r:Option Nat)(n:Nat)(l:List Oper)(Q:Exit->Act->World->Prop)(o:Oper)(K:Act->World->Prop)(ds:List Deferred)(L:List (Nat×Value))(w:World):Prop:=∀a,Frd a n ds L->if Region.wanted o (yielded l.toArray a.tmps)=true then o.wpIn (FZ r) 0 P a w K Q else(∀f,o.about P w a.eval=some f->(FZ r).fn f)/\K (a.put o.dst undef) w
theorem Ho.op{i:Nat}(h:Ho P r n l Q o K ds L w)(ho:l[i]? =some o){a:Act}(hF:Frd a n ds L):wpOpIn (FZ r) 0 P l.toArray Q i K a w:=by
  unfold wpOpIn
  rw [show l.toArray[i]? =some o by simpa using ho]
  exact h a hF
theorem hdr{id:Nat}{m:List Ent}(fuel:Nat)(hm:P.follows .mixedOrders=true)(hS:Sat w0 w m)(K:∀w,Sat w0 w m->Hd P r n l Q fuel (Array.replicate fuel false) ds L w)(hn:l.length=fuel:=by exact rfl):Hc P r n Q (.region id l.toArray true) ds L w:=fun a hF=>by
  subst hn
  exact wpIn_region_any hm (by have:=K _ hS.draw a hF;simpa using this)
theorem hd1(i:Nat){o:Oper}(h:Ho P r n l Q o (wpAnyIn (FZ r) 0 P .any l.toArray Q fuel (listed.setIfInBounds i true)) ds L w)(hr:Region.ready .any l.toArray listed= [i]:=by kernel_rfl)(ho:l[i]? =some o:=by exact rfl):Hd P r n l Q (fuel+1) listed ds L w:=fun a hF=>
  wpAnyIn_all hr (by simp) fun j hj => by obtain rfl:j=i:=by simpa using hj
                                          exact h.op ho hF
theorem hd2(i j:Nat){o o':Oper}(hi:Ho P r n l Q o (wpAnyIn (FZ r) 0 P .any l.toArray Q fuel (listed.setIfInBounds i true)) ds L w)(hj:Ho P r n l Q o' (wpAnyIn (FZ r) 0 P .any l.toArray Q fuel (listed.setIfInBounds j true)) ds L w)(hr:Region.ready .any l.toArray listed= [i,j]:=by kernel_rfl)(ho:l[i]? =some o:=by exact rfl)(ho':l[j]? =some o':=by exact rfl):Hd P r n l Q (fuel+1) listed ds L w:=fun a hF=>
  wpAnyIn_all hr (by simp) fun k hk=>by
    rcases List.mem_cons.1 hk with rfl|hk
    · exact hi.op ho hF
    · obtain rfl:k=j:=by simpa using hk
      exact hj.op ho' hF
end
end Go.Proofs.Gw
namespace Go.Proofs.Ytopmifmfecfaaaa
open Go Go.RowKit Go.Proofs.Gw
def PlanOk(p:Prob)(u:Int)(ln:Int->Int)(pt:Int->Int->Int)(cnt:Int->Int):Prop:=p.Ok/\u<=1000/\∀k,0<=k->k<u->1<=cnt k/\cnt k<=1000/\FitsP p (ln k) (pt k)
def Zs(u:Int)(pt:Int->Int->Int)(cnt:Int->Int):Int->Int:=fun j=>psum (fun k=>pt k j) cnt u.toNat
theorem Wj{pt:Int->Int->Int}{cnt:Int->Int}{i j:Int}(i0:0<=i):Zs (i+1) pt cnt j=Zs i pt cnt j+pt i j*cnt i:=Z3 _ _ i0
theorem Xx{a b A B:Int}(a0:0<=a)(a1:a<=A)(b0:0<=b)(b1:b<=B):0<=a*b/\a*b<=A*B:=
  ⟨Int.mul_nonneg a0 b0,Int.mul_le_mul a1 b1 b0 (by omega)⟩
theorem WR{p:Prob}{u:Int}{ln cnt:Int->Int}{pt:Int->Int->Int}(h:∀k,0<=k->k<u->1<=cnt k/\cnt k<=1000/\FitsP p (ln k) (pt k)):∀{i:Int},0<=i->i<=u->∀{j:Int},0<=j->j<p.m->0<=Zs i pt cnt j/\Zs i pt cnt j<=2000000*i:=by
  intro i i0
  obtain⟨n,rfl⟩:=Int.eq_ofNat_of_zero_le i0
  induction n with
  |zero=>intro _ j _ _;exact⟨Int.le_refl _,by show(0:Int)<=_;omega⟩
  | succ n ih=>
    intro hi j j0 j1
    have h1:=ih (by omega) (by omega) j0 j1
    obtain⟨h2,h3,h4⟩:=h n (by omega) (by omega)
    have h5:=h4.all j j0 (by have:=h4.eq;omega)
    have h6:=Xx h5.1 h5.2 (show 0<=cnt n by omega) h3
    have h7:=Wj (pt:=pt) (cnt:=cnt) (i:=(n:Int)) (j:=j) (by omega)
    rw [show((n+1:Nat):Int)=(n:Int)+1 by omega,h7];omega
def XO(u:Int):Nat->List Int
  |0=> []
  |t+1=>XO u t++ [u-1-t]
def dwn(u x:Int):List Int:=XO u (u-1-x).toNat
theorem Ug{u x:Int}(h:x<u):dwn u (x-1)=dwn u x++ [x]:=by
  unfold dwn
  rw [show(u-1-(x-1)).toNat=(u-1-x).toNat+1 by omega,XO,show u-1-((u-1-x).toNat:Int)=x by omega]
theorem WX(u:Int):dwn u (u-1)= []:=by
  unfold dwn;rw [show(u-1-(u-1)).toNat=0 by omega];rfl
def YK(ln:Int->Int)(pt:Int->Int->Int)(cnt:Int->Int)(l:List Int):List (List Int):=l.flatMap fun i=>List.replicate (cnt i).toNat (lst (ln i) (pt i))
theorem Xn(ln:Int->Int)(pt:Int->Int->Int)(cnt:Int->Int)(l:List Int)(x:Int):YK ln pt cnt (l++ [x])=YK ln pt cnt l++List.replicate (cnt x).toNat (lst (ln x) (pt x)):=by simp [YK]
theorem Vz{ln cnt:Int->Int}{pt:Int->Int->Int}{u:Int}(u0:0<=u)(hc:∀k,0<=k->k<u->0<=cnt k):∀t:Nat,(t:Int)<=u->((YK ln pt cnt (XO u t)).length:Int)=psum (fun _=>1) cnt u.toNat-psum (fun _=>1) cnt (u-t).toNat
  |0,_=>by simp [XO,YK]
  | t+1,ht=>by
    have h1:=Vz (ln:=ln) (pt:=pt) u0 hc t (by omega)
    have h2:=hc (u-1-t) (by omega) (by omega)
    have h3:=Z3 (fun _=>1) cnt (i:=u-1-t) (by omega)
    rw [XO,Xn,List.length_append,List.length_replicate]
    rw [show u-1-(t:Int)+1=u-t by omega] at h3
    rw [show u-((t+1:Nat):Int)=u-1-t by omega]
    push_cast
    rw [h1,h3,Int.toNat_of_nonneg h2];omega
theorem Zao{ln cnt:Int->Int}{pt:Int->Int->Int}{u x c:Int}(hc:∀k,0<=k->k<u->0<=cnt k)(x0:0<=x)(x1:x<u)(c0:0<=c)(c1:c<cnt x):((YK ln pt cnt (dwn u x)++List.replicate c.toNat (lst (ln x) (pt x))).length:Int)<psum (fun _=>1) cnt u.toNat:=by
  have h1:=Vz (ln:=ln) (pt:=pt) (by omega) hc (u-1-x).toNat (by omega)
  have h2:=Z3 (fun _=>1) cnt x0
  have h3:=Ys (d:=cnt) (f:=fun _=>1) (i:=0) (n:=x.toNat) (by omega) fun k hk=>by have:=hc k (by omega) (by omega);omega
  rw [List.length_append,List.length_replicate]
  unfold dwn
  push_cast
  rw [h1,show(u-((u-1-x).toNat:Int)).toNat=(x+1).toNat by omega,h2]
  simp only [psum] at h3
  omega
structure BX where
  v:Value
  n:Int
  f:Int->Int
def tA(a m:List Int):List Int:=List.zipWith (fun x y=>x-min x y) a m
def tM(a m:List Int):List Int:=List.zipWith (fun x y=>y-min x y) a m
def YR(s:List Int×Us)(a:List Int):List Int×Us:=(tM a s.1,if(tA a s.1).any (fun x=>decide (0<x)) then s.2++ [(tA a s.1,1)] else s.2)
def YV(m0:List Int)(h:List (List Int)):List Int×Us:=h.foldl YR (m0, [])
theorem XG(m0:List Int)(h:List (List Int))(a:List Int):YV m0 (h++ [a])=YR (YV m0 h) a:=by simp [YV]
theorem YC(F:Int->Int->Int)(n:Int)(f g:Int->Int):List.zipWith F (lst n f) (lst n g)=lst n fun k=>F (f k) (g k):=by
  apply List.ext_getElem?
  intro k
  rw [List.getElem?_zipWith,lst_get,lst_get,lst_get]
  by_cases hk:(k:Int)<n
  · rw [if_pos hk,if_pos hk,if_pos hk]
  · rw [if_neg hk,if_neg hk,if_neg hk]
theorem XD{n:Int}{f:Int->Int}:(lst n f).any (fun x=>decide (0<x))=true↔∃k,0<=k/\k<n/\0<f k:=by
  rw [List.any_eq_true]
  constructor
  · rintro⟨x,hx,h0⟩
    unfold lst at hx
    obtain⟨k,hk,rfl⟩:=List.mem_map.1 hx
    have:=List.mem_range.1 hk
    exact⟨(k:Int),by omega,by omega,by simpa using h0⟩
  · rintro⟨k,k0,k1,h⟩
    refine⟨f k,?_,by simpa using h⟩
    have:=lst_get n f k.toNat
    rw [Int.toNat_of_nonneg k0,if_pos k1] at this
    exact List.mem_of_getElem? this
def XR(l:Us):List (List Int):=l.reverse.flatMap fun u=>List.replicate u.2.toNat u.1
theorem WY(u:Int):∀t:Nat,XO (u+1) (t+1)=u::XO u t
  |0=>by simp [XO]
  | t+1=>by
    rw [XO,WY u t,XO,List.cons_append]
    congr 2
    congr 1
    push_cast;omega
theorem T4(ln:Int->Int)(pt:Int->Int->Int)(cnt:Int->Int){n:Int}(n0:0<=n):YK ln pt cnt (dwn n (-1))=XR (plL n ln pt cnt):=by
  obtain⟨k,rfl⟩:=Int.eq_ofNat_of_zero_le n0
  have e:∀k:Nat,(XO (k:Int) k).map (fun i=>(lst (ln i) (pt i),cnt i))=(plL (k:Int) ln pt cnt).reverse:=by
    intro k
    induction k with
    |zero=>simp [XO,plL]
    |succ k ih=>rw [show((k+1:Nat):Int)=(k:Int)+1 by omega,WY,List.map_cons,ih,YH (by omega),List.reverse_append];rfl
  unfold YK XR dwn
  rw [show((k:Int)-1-(-1)).toNat=k by omega,<-e k,List.flatMap_map]
structure TSt where
  h:List (List Int)
  M:Int->Int
  vO:Value
  n:Int
  vv:Int->Value
  P:Int->Int->Int
  C:Int->Int
def TInv(p:Prob)(m0:List Int)(s:TSt):Prop:=(lst p.m s.M,plL s.n (fun _=>p.m) s.P s.C)=YV m0 s.h/\Slh s.vO s.n/\(∀k,0<=k->k<p.m->0<=s.M k/\s.M k<=2000000000)/\s.n<=s.h.length/\∀k,0<=k->k<s.n->s.C k=1
theorem TInv.no{p:Prob}{m0:List Int}{s:TSt}{a a2 M2:Int->Int}(hs:(lst p.m s.M,plL s.n (fun _=>p.m) s.P s.C)=YV m0 s.h)(ha:∀k,0<=k->k<p.m->a2 k=a k-min (a k) (s.M k))(hM:∀k,0<=k->k<p.m->M2 k=s.M k-min (a k) (s.M k))(hx:¬∃k,0<=k/\k<p.m/\0<a2 k):
    (lst p.m M2,plL s.n (fun _=>p.m) s.P s.C)=YV m0 (s.h++ [lst p.m a]):=by
  rw [XG,<-hs]
  unfold YR tM tA
  dsimp only
  rw [YC,YC,ZK (f:=fun k=>a k-min (a k) (s.M k)) (g:=a2) fun k k0 k1=>(ha k k0 k1).symm,if_neg (fun h=>hx (XD.1 h)),ZK (f:=fun k=>s.M k-min (a k) (s.M k)) (g:=M2) fun k k0 k1=>(hM k k0 k1).symm]
def TrimR(p:Prob)(u:Int)(ln:Int->Int)(pt:Int->Int->Int)(cnt:Int->Int)(out:Us)(e:Int):Prop:=
  (¬PlanOk p u ln pt cnt/\out= []/\e=1)\/(PlanOk p u ln pt cnt/\¬(∀j,0<=j->j<p.m->p.D j<=Zs u pt cnt j)/\out= []/\e=18)\/
  (PlanOk p u ln pt cnt/\(∀j,0<=j->j<p.m->p.D j<=Zs u pt cnt j)/\e=0/\∃N,NormR (plL u ln pt cnt) N/\NormR (YV (lst p.m fun j=>Zs u pt cnt j-p.D j) (XR N)).2 out)
theorem TN{p:Prob}{u n2:Int}{ln cnt ln2 cnt2:Int->Int}{pt pt2:Int->Int->Int}(h:PlanOk p u ln pt cnt)(hN:NormR (plL u ln pt cnt) (plL n2 ln2 pt2 cnt2))(hl2:∀k,0<=k->k<n2->0<=ln2 k):∀k,0<=k->k<n2->ln2 k=p.m/\∀j,0<=j->j<p.m->0<=pt2 k j/\pt2 k j<=2000:=by
  intro k k0 k1
  have hm:(lst (ln2 k) (pt2 k),cnt2 k)∈plL n2 ln2 pt2 cnt2:=List.mem_iff_getElem?.2 ⟨k.toNat,by rw [plL_get,Int.toNat_of_nonneg k0,if_pos k1]⟩
  obtain⟨y,hy,e1⟩:=hN.keys _ hm
  obtain⟨i,hi⟩:=List.mem_iff_getElem?.1 hy
  rw [plL_get] at hi
  split at hi
  · rename_i hlt
    injection hi with hi
    obtain⟨_,_,hf⟩:=h.2.2 i (by omega) hlt
    have hm1:=h.1.m1
    rw [<-hi] at e1
    dsimp only at e1
    obtain⟨q1,q2⟩:=(Vk (by have:=hf.eq;omega) (hl2 k k0 k1)).1 e1
    refine⟨by have:=hf.eq;omega,fun j j0 j1=> ?_⟩
    rw [<-q2 j j0 (by have:=hf.eq;omega)]
    exact hf.all j j0 (by have:=hf.eq;omega)
  · cases hi
theorem TO{p:Prob}{u n2:Int}{ln cnt ln2 cnt2:Int->Int}{pt pt2:Int->Int->Int}(u0:0<=u)(n0:0<=n2)(h:PlanOk p u ln pt cnt)(hN:NormR (plL u ln pt cnt) (plL n2 ln2 pt2 cnt2)):psum (fun _=>1) cnt2 n2.toNat<=1000000:=by
  have h1:=hN.wsum fun _=>1
  rw [Y1 _ u0,Y1 _ n0] at h1
  rw [h1]
  have key:∀t:Nat,(t:Int)<=u->psum (fun _=>1) cnt t<=1000*t:=by
    intro t
    induction t with
    |zero=>intro _;simp [psum]
    |succ t ih=>intro ht;have:=ih (by omega);have:=(h.2.2 t (by omega) (by omega)).2.1;simp only [psum];push_cast;omega
  have h2:=key u.toNat (by omega)
  have h3:=h.2.1
  omega
theorem Zbi{p:Prob}(hp:p.Ok){k:Int}(k0:0<=k)(k1:k<p.m):0<=p.D k/\p.D k<=1000:=by
  have he:=hp.all k k0 k1
  unfold Prob.each at he;omega
def Tj(p:Prob)(f:Int->Int):Int->Int:=fun k=>if 0<=k/\k<p.m then max 0 (p.D k-f k) else 0
structure NUt (w:World) (v:Value) (n:Int) (vv:Int->Value) (ln:Int->Int) (pvs:Int->Int->Value) (cns:Int->Int->Int):Prop where
  row:Row w v 1 n vv
  p:∀i,0<=i->i<n->Row w (vv i) 2 (ln i) (Zf (pvs i) (cns i))
  one:∀i,0<=i->i<n->∀k,0<=k->k<ln i->(pvs i k).oneCell'=true
theorem NUt.below{w w':World}{v:Value}{n:Int}{vv:Int->Value}{ln:Int->Int}{pvs:Int->Int->Value}{cns:Int->Int->Int}(h:NUt w v n vv ln pvs cns)(hb:Below w.heap.size w w'):NUt w' v n vv ln pvs cns:=⟨h.row.below hb,fun i a b=>(h.p i a b).below hb,h.one⟩
end Go.Proofs.Ytopmifmfecfaaaa
namespace Go.Proofs.Ytopmifmfecfaaaa
open Go Go.RowKit Go.Proofs.Gw
theorem Zct:Zd Try.prog 14=true:=by kernel_rfl
def UW(p:Prob)(u:Int)(ml:Int->Int)(mf:Int->Int->Int)(s:So):Prop:=ZC s/\s.n=u/\u<=60/\(∀k,0<=k->k<u->ZN p (ml k) (mf k)/\(s.X k).tdiv s.den<=1000)/\∀j,0<=j->j<p.m->p.D j*s.den<=Zs u mf s.X j
theorem V5 (s:So) (ml:Int->Int) (mf:Int->Int->Int):∀n:Nat,∀k,0<=k->k<flN s n->∃q:Nat,q<n/\s.den<=s.X q/\flL s ml n k=ml q/\flG s mf n k=mf q/\flC s n k=(s.X q).tdiv s.den
  |0,k,k0,k1=>by simp [flN] at k1;omega
  | n + 1,k,k0,k1=>by
    simp only [flN,flL,flG,flC] at k1⊢
    by_cases h:s.den<=s.X n
    · rw [if_pos h] at k1⊢
      rw [if_pos h,if_pos h]
      by_cases e:k<flN s n
      · obtain⟨q,h1,h2,h3,h4,h5⟩:=V5 s ml mf n k k0 e
        exact⟨q,by omega,h2,by rw [Zx e];exact h3,by rw [Zx e];exact h4,by rw [ZH e];exact h5⟩
      · exact⟨n,by omega,h,ZF e,ZF e,ZI e⟩
    · rw [if_neg h] at k1⊢
      rw [if_neg h,if_neg h]
      obtain⟨q,h1,h2,h3,h4,h5⟩:=V5 s ml mf n k k0 k1
      exact⟨q,by omega,h2,h3,h4,h5⟩
theorem RE(s:So)(mf:Int->Int->Int)(j:Int)(N:Int)(hX:∀k:Nat,(k:Int)<N->0<=s.X k)(hd:1<=s.den):∀n:Nat,(n:Int)<=N->psum (fun k=>flG s mf n k j) (flC s n) (flN s n).toNat=psum (fun q=>mf q j) (fun q=>(s.X q).tdiv s.den) n
  |0,_=>rfl
  | n +1,hN=>by
    have h0:=Xa s n
    have ih:=RE s mf j N hX hd n (by omega)
    have hcong:∀(F G c d:Int->Int) (m:Nat),(∀k:Nat,k<m->F k=G k/\c k=d k)->psum F c m=psum G d m:=by
      intro F G c d m
      induction m with
      |zero=>intro _;rfl
      |succ m ihm=>intro h;simp only [psum];rw [ihm fun k hk=>h k (by omega),(h m (by omega)).1,(h m (by omega)).2]
    rw [psum]
    by_cases h:s.den<=s.X n
    · simp only [flN,flG,flC]
      rw [if_pos h,if_pos h,if_pos h]
      have e:=Z3 (fun k=>gsn (flG s mf n) (flN s n) (mf n) k j) (Z5 (flC s n) (flN s n) ((s.X n).tdiv s.den)) (i:=flN s n) h0.1
      rw [e,ZF (by omega),ZI (by omega),<-ih]
      congr 1
      exact hcong _ _ _ _ _ fun k hk=>⟨by rw [Zx (by omega)],by rw [ZH (by omega)]⟩
    · simp only [flN,flG,flC]
      rw [if_neg h,if_neg h,if_neg h,ih,Int.tdiv_eq_zero_of_lt (hX n (by omega)) (by omega)]
      omega
def WholeR(p:Prob)(u:Int)(ml:Int->Int)(mf:Int->Int->Int)(s:So)(n:Int)(ln:Int->Int)(pt:Int->Int->Int)(cnt:Int->Int)(e:Int):Prop:=
  (¬(p.Ok/\UW p u ml mf s)/\n=0/\e=1)\/(p.Ok/\UW p u ml mf s/\ChkR p e/\e≠0/\n=0)\/
  (p.Ok/\UW p u ml mf s/\ChkR p 0/\e=0/\n=flN s u.toNat/\ln=flL s ml u.toNat/\pt=flG s mf u.toNat/\cnt=flC s u.toNat)
theorem WholeR.ok{p:Prob}{u n:Int}{ml ln cnt:Int->Int}{mf pt:Int->Int->Int}{s:So}{e:Int}(h:WholeR p u ml mf s n ln pt cnt e)(he:e=0)(hu:0<=u):p.Ok/\UW p u ml mf s/\psum (fun _=>1) p.D p.m.toNat<=1000/\n<=60/\PlanOk p n ln pt cnt/\0<=n:=by
  rcases h with⟨_,_,h⟩|⟨_,_,_,h,_⟩|⟨h1,h2,h3,_,h4,h5,h6,h7⟩
  · omega
  · exact absurd he h
  · have hr:=Xa s u.toNat
    have hu6:=h2.2.2.1
    refine⟨h1,h2,?_,by omega,⟨h1,by omega,fun k k0 k1=> ?_⟩,by omega⟩
    · rcases h3 with⟨h,_⟩|⟨_,_,h⟩|⟨_,h,_⟩
      · exact absurd h1 h
      · omega
      · exact h
    · rw [h4] at k1
      obtain⟨q,q1,q2,q3,q4,q5⟩:=V5 s ml mf u.toNat k k0 k1
      rw [h5,h6,h7,q3,q4,q5]
      obtain⟨g1,g2⟩:=h2.2.2.2.1 q (by omega) (by omega)
      have hd:=h2.1.1
      refine⟨?_,g2,g1.1⟩
      rw [Int.tdiv_eq_ediv_of_nonneg (by omega)]
      exact(Int.le_ediv_iff_mul_le (by omega)).2 (by omega)
theorem VAt.cat{w:World}{v v1 v2:Value}{n1 n2:Int}{pv1 pv2:Int->Value}{ln1 ln2 c1 c2:Int->Int}{pt1 pt2:Int->Int->Int}(hr:Row w v 2 (n1+n2) (Zf (cat n1 pv1 pv2) (cat n1 c1 c2)))(h1:VAt w v1 n1 pv1 ln1 pt1 c1)(h2:VAt w v2 n2 pv2 ln2 pt2 c2)(n10:0<=n1):VAt w v (n1+n2) (cat n1 pv1 pv2) (cat n1 ln1 ln2) (cat n1 pt1 pt2) (cat n1 c1 c2):=by
  refine⟨hr,fun i i0 i1=> ?_,fun i i0 i1=> ?_⟩
  · unfold Gw.cat
    by_cases h:i<n1
    · rw [if_pos h,if_pos h,if_pos h];exact h1.p i i0 h
    · rw [if_neg h,if_neg h,if_neg h];exact h2.p (i-n1) (by omega) (by omega)
  · unfold Gw.cat
    by_cases h:i<n1
    · rw [if_pos h];exact h1.room i i0 h
    · rw [if_neg h];exact h2.room (i-n1) (by omega) (by omega)
theorem Un(n m:Int)(p q:Int->Int){k:Int}(k0:0<=k)(k1:k<n+m):Xm (Zq n m) (Zq p q) 2 k=cat n p q k:=by
  simp only [Xm,tot,Zq,Gw.cat]
  by_cases h:k<n
  · simp [h];omega
  · simp [h]
def DownR(p:Prob)(u:Int)(ml:Int->Int)(mf:Int->Int->Int)(s:So)(out:Us)(e:Int):Prop:=
  (e≠0/\out= []/\∃n ln pt cnt,WholeR p u ml mf s n ln pt cnt e)\/(∃n1 ln1 pt1 cnt1 n2 ln2 pt2 cnt2,WholeR p u ml mf s n1 ln1 pt1 cnt1 0/\0<=n1/\0<=n2/\NormR (UJ (YF p.m (p.stock+p.kerf) (szP p) (pcsTo (Tj p (Zs n1 pt1 cnt1)) p.m 0))) (plL n2 ln2 pt2 cnt2)/\TrimR p (n1+n2) (cat n1 ln1 ln2) (cat n1 pt1 pt2) (cat n1 cnt1 cnt2) out e)
def frN(s:So):Nat->Int
  |0=>0
  |k+1=>if(s.X k).tmod s.den=0 then frN s k else frN s k+1
def frF(s:So):Nat->Int->Int
  |0=>fun _=>0
  |k+1=>if(s.X k).tmod s.den=0 then frF s k else Z5 (frF s k) (frN s k) k
theorem RD (s:So):∀n:Nat,0<=frN s n/\frN s n<=n/\(∀k,0<=k->k<frN s n->0<=frF s n k/\frF s n k<n/\(s.X (frF s n k)).tmod s.den≠0)/\ZcW 0 (frN s n) (frF s n)/\∀q,0<=q->q<(n:Int)->(s.X q).tmod s.den≠0->∃k,0<=k/\k<frN s n/\frF s n k=q
  |0=>⟨by simp [frN],by simp [frN],fun k k0 k1=>by simp [frN] at k1;omega,fun i j i0 ij j1=>by simp [frN] at j1;omega,fun q q0 q1=>by omega⟩
  | n + 1 =>by
    obtain⟨h1,h2,h3,h4,h5⟩:=RD s n
    simp only [frN,frF]
    by_cases h:(s.X n).tmod s.den=0
    · rw [if_pos h,if_pos h]
      refine⟨h1,by omega,fun k k0 k1=> ?_,h4,fun q q0 q1 hq=> ?_⟩
      · have:=h3 k k0 k1;exact⟨this.1,by omega,this.2.2⟩
      · by_cases e:q=n
        · rw [e] at hq;exact absurd h hq
        · exact h5 q q0 (by omega) hq
    · rw [if_neg h,if_neg h]
      refine⟨by omega,by omega,fun k k0 k1=> ?_,fun i j i0 ij j1=> ?_,fun q q0 q1 hq=> ?_⟩
      · by_cases e:k<frN s n
        · rw [ZH e];have:=h3 k k0 e;exact⟨this.1,by omega,this.2.2⟩
        · rw [ZI e];exact⟨by omega,by omega,h⟩
      · by_cases e:j<frN s n
        · rw [ZH e,ZH (show i<frN s n by omega)];exact h4 i j i0 ij e
        · rw [ZI e,ZH (show i<frN s n by omega)];have:=h3 i i0 (by omega);omega
      · by_cases e:q=n
        · exact⟨frN s n,h1,by omega,by rw [ZI (by omega),e]⟩
        · obtain⟨k,k0,k1,hk⟩:=h5 q q0 (by omega) hq
          exact⟨k,k0,by omega,by rw [ZH k1];exact hk⟩
def ZbQ(a r:List Int):Bool:=(List.zipWith (fun x y=>if 0<x/\0<y then(1:Int) else 0) a r).any fun x=>decide (0<x)
def ZbO(m:Int)(mf:Int->Int->Int)(st:List Int×Us)(k:Int):List Int×Us:=
  if ZbQ (lst m (mf k)) st.1 then(List.zipWith (fun x y=>max 0 (y-x)) (lst m (mf k)) st.1,st.2++ [(lst m (mf k),1)]) else st
def ZbP(m:Int)(mf:Int->Int->Int)(r0:List Int)(L0:Us)(h:List Int):List Int×Us:=h.foldl (ZbO m mf) (r0,L0)
def UpR (p:Prob) (u:Int) (ml:Int->Int) (mf:Int->Int->Int) (s:So) (out:Us) (e:Int):Prop:=
  (e≠0/\out= []/\∃n ln pt cnt,WholeR p u ml mf s n ln pt cnt e)\/(∃n1 ln1 pt1 cnt1 t n ln pt cnt,WholeR p u ml mf s n1 ln1 pt1 cnt1 0/\0<=n1/\0<=n/\PermOn 0 (frN s u.toNat) (frF s u.toNat) t/\Srt (Tie fun x y=>(s.X y).tmod s.den<(s.X x).tmod s.den) 0 (frN s u.toNat) t/\
    plL n ln pt cnt=(ZbP p.m mf (lst p.m (Tj p (Zs n1 pt1 cnt1))) (plL n1 ln1 pt1 cnt1) (lst (frN s u.toNat) t)).2/\TrimR p n ln pt cnt out e)
theorem YN{F G c d:Int->Int}:∀{m:Nat},(∀k:Nat,k<m->F k=G k/\c k=d k)->psum F c m=psum G d m
  |0,_=>rfl
  |m+1,h=>by simp only [psum];rw [YN fun k hk=>h k (by omega),(h m (by omega)).1,(h m (by omega)).2]
theorem Yz{n:Int}{f:Int->Int}{j:Int}(j0:0<=j)(j1:j<n):(lst n f).getD j.toNat 0=f j:=by
  rw [List.getD_eq_getElem?_getD,lst_get,Int.toNat_of_nonneg j0,if_pos j1];rfl
theorem VY{m:Int}{l:List Int}(h:l.length=m.toNat):l=lst m fun k=>l.getD k.toNat 0:=by
  apply List.ext_getElem?
  intro k
  rw [lst_get]
  by_cases hk:(k:Int)<m
  · rw [if_pos hk,List.getD_eq_getElem?_getD,Int.toNat_natCast,List.getElem?_eq_getElem (by omega)];rfl
  · rw [if_neg hk];simp;omega
def mkU(j:Int)(L:Us):Int:=wsum (fun l=>l.getD j.toNat 0) L
theorem Ky{n:Int}{ln cnt:Int->Int}{pt:Int->Int->Int}(n0:0<=n){j:Int}(j0:0<=j)(hl:∀k,0<=k->k<n->j<ln k):Zs n pt cnt j=mkU j (plL n ln pt cnt):=by
  unfold mkU Zs
  rw [Y1 _ n0]
  exact YN fun k hk=>⟨(Yz j0 (hl k (by omega) (by omega))).symm,rfl⟩
theorem Rp{p:Prob}{u:Int}{ln cnt:Int->Int}{pt:Int->Int->Int}(h:PlanOk p u ln pt cnt):∀x∈plL u ln pt cnt,1<=x.2:=fun x hx=>by
  obtain⟨j,hj⟩:=List.mem_iff_getElem?.1 hx
  rw [plL_get] at hj
  split at hj
  · injection hj with hj;rw [<-hj];exact(h.2.2 j (by omega) (by assumption)).1
  · cases hj
theorem TrimR.ok{p:Prob}{u e:Int}{ln cnt:Int->Int}{pt:Int->Int->Int}{out:Us}(h:TrimR p u ln pt cnt out e)(h1:PlanOk p u ln pt cnt)(h2:∀j,0<=j->j<p.m->p.D j<=Zs u pt cnt j):e=0:=by
  rcases h with⟨h,_⟩|⟨_,h,_⟩|⟨_,_,h,_⟩
  · exact absurd h1 h
  · exact absurd h2 h
  · exact h
def VE(p:Prob)(l:List Int):Prop:=∃f,FitsP p p.m f/\l=lst p.m f
theorem X1{p:Prob}{n m:Int}{f g:Int->Int}(h:FitsP p n f)(hn:n=m)(he:∀k,0<=k->k<p.m->g k=f k):FitsP p m g:=by
  subst hn
  refine⟨h.ok,h.eq,fun i i0 i1=>by rw [he i i0 i1];exact h.all i i0 i1,?_⟩
  have hm:=h.ok.m1
  have e:ZO p g p.m.toNat=ZO p f p.m.toNat:=Ze fun i i0 i1=>by rw [he i i0 (by omega)]
  rw [e];exact h.used
theorem VT{p:Prob}{n:Int}{ln cnt:Int->Int}{pt:Int->Int->Int}(hok:p.Ok)(hn:n<=1000)(hl:∀k,0<=k->k<n->0<=ln k)(hL:∀x∈plL n ln pt cnt,(1<=x.2/\x.2<=1000)/\VE p x.1):PlanOk p n ln pt cnt:=by
  refine⟨hok,hn,fun k k0 k1=> ?_⟩
  have hm:(lst (ln k) (pt k),cnt k)∈plL n ln pt cnt:=List.mem_iff_getElem?.2 ⟨k.toNat,by rw [plL_get,Int.toNat_of_nonneg k0,if_pos k1]⟩
  obtain⟨⟨h1,h2⟩,f,h3,h4⟩:=hL _ hm
  have hm1:=hok.m1
  obtain⟨q1,q2⟩:=(Vk (hl k k0 k1) (by omega)).1 h4
  exact⟨h1,h2,X1 h3 q1.symm fun i i0 i1=>q2 i i0 (by omega)⟩
theorem Wi{p:Prob}{n:Int}{ln cnt:Int->Int}{pt:Int->Int->Int}(h:PlanOk p n ln pt cnt):∀x∈plL n ln pt cnt,(1<=x.2/\x.2<=1000)/\VE p x.1:=fun x hx=>by
  obtain⟨j,hj⟩:=List.mem_iff_getElem?.1 hx
  rw [plL_get] at hj
  split at hj
  · injection hj with hj
    obtain⟨h1,h2,h3⟩:=h.2.2 j (by omega) (by assumption)
    rw [<-hj]
    exact⟨⟨h1,h2⟩,pt j,X1 h3 h3.eq fun _ _ _=>rfl,by have:=h3.eq;dsimp only;rw [this]⟩
  · cases hj
theorem W2{p:Prob}{hist:List Int}{s:Us}(hok:p.Ok)(h:FFOk p.m (p.stock+p.kerf) (szP p) hist s){b:List Int×Int}(hb:b∈s){j:Int}(j0:0<=j)(j1:j<p.m):0<=b.1.getD j.toNat 0/\b.1.getD j.toNat 0<=p.stock+p.kerf:=by
  obtain⟨h2,h3,h4⟩:=h.ok _ hb
  have h5:=h.nn _ hb
  have h6:=Vf h5 (sz:=szP p) (fun k hk=>(UD hok (by omega) (by omega)).1) (j:=j.toNat) (by omega)
  refine⟨?_,by omega⟩
  rw [List.getD_eq_getElem?_getD,List.getElem?_eq_getElem (by omega)]
  exact h5 _ (List.getElem_mem _)
theorem WJ(p:Prob)(d:Int->Int):∀n:Nat,psum (szP p) d n=ZO p d n
  |0=>rfl
  | n +1=>by
    have h1:ZO p d (n+1)=ZO p d n+d n*(p.L n+p.kerf):=by
      have:=ZP (fun i=>d i*(p.L i+p.kerf)) (i:=(n:Int)) (by omega)
      rw [show((n:Int)+1).toNat=n+1 by omega,Int.toNat_natCast] at this
      exact this
    rw [h1,psum,WJ p d n,Int.mul_comm]
theorem Th{a b A B:Int}(a0:0<=a)(a1:a<=A)(b0:0<=b)(b1:b<=B):0<=a*b/\a*b<=A*B:=
  ⟨Int.mul_nonneg a0 b0,Int.mul_le_mul a1 b1 b0 (by omega)⟩
theorem Ts{p:Prob}(hok:p.Ok)(hf:W1 p):psum (fun _=>1) p.D p.m.toNat<=180:=by
  obtain⟨h1,h2,_⟩:=hf.2.2 hok
  have hd:=hok.d
  have hm:=hok.m1
  have hb:∀n:Nat,(n:Int)<=p.m->psum (fun _=>1) p.D n<=30*n:=by
    intro n
    induction n with
    |zero=>intro _;simp [psum]
    |succ n ih=>intro hn;have:=ih (by omega);have:=h1 n (by omega) (by omega);simp only [psum];push_cast;omega
  have:=hb p.m.toNat (by omega)
  omega
theorem Xv{p:Prob}{n:Int}{ln cnt:Int->Int}{pt:Int->Int->Int}(hok:p.Ok)(hn:n<=1000)(hL:∀x∈plL n ln pt cnt,(1<=x.2/\x.2<=1000)/\VE p x.1):PlanOk p n ln pt cnt:=by
  refine VT hok hn (fun k k0 k1=> ?_) hL
  obtain⟨_,f,h3,h4⟩:=hL (lst (ln k) (pt k),cnt k) (List.mem_iff_getElem?.2 ⟨k.toNat,by rw [plL_get,Int.toNat_of_nonneg k0,if_pos k1]⟩)
  have h5:=congrArg List.length h4
  dsimp only at h5
  rw [Z6,Z6] at h5
  have:=hok.m1
  omega
theorem PlanOk.mk{p:Prob}{n:Int}{ln cnt:Int->Int}{pt:Int->Int->Int}(h:PlanOk p n ln pt cnt)(n0:0<=n){j:Int}(j0:0<=j)(j1:j<p.m):Zs n pt cnt j=mkU j (plL n ln pt cnt):=
  Ky n0 j0 fun k k0 k1=>by have:=(h.2.2 k k0 k1).2.2.eq;omega
theorem UZ{f g:List Int->Int}:∀{L:Us},(∀x∈L,0<=x.2)->(∀x∈L,f x.1<=g x.1)->wsum f L<=wsum g L
  | [],_,_=>Int.le_refl _
  | x::L,h,k=>by
    have h1:=UZ (f:=f) (g:=g) (L:=L) (fun y hy=>h y (by simp [hy])) fun y hy=>k y (by simp [hy])
    have h2:=Int.mul_le_mul_of_nonneg_right (k x (by simp)) (h x (by simp))
    simp only [wsum];omega
theorem US:∀{L:Us},(∀x∈L,1<=x.2)->(L.length:Int)<=wsum (fun _=>1) L/\∀x∈L,x.2<=wsum (fun _=>1) L
  | [],_=>⟨by simp [wsum],by simp⟩
  | y ::L,h=>by
    obtain⟨h1,h2⟩:=US (L:=L) fun x hx=>h x (by simp [hx])
    have h3:=h y (by simp)
    simp only [wsum]
    refine⟨by rw [List.length_cons];push_cast;omega,fun x hx=> ?_⟩
    rcases List.mem_cons.1 hx with e|e
    · rw [e];have:(0:Int)<=L.length:=by omega
      omega
    · have:=h2 x e;omega
theorem U8{n1 n2:Int}{ln1 ln2 cnt1 cnt2:Int->Int}{pt1 pt2:Int->Int->Int}(n10:0<=n1)(n20:0<=n2):plL (n1+n2) (cat n1 ln1 ln2) (cat n1 pt1 pt2) (cat n1 cnt1 cnt2)=plL n1 ln1 pt1 cnt1++plL n2 ln2 pt2 cnt2:=by
  apply List.ext_getElem?
  intro k
  rw [List.getElem?_append,plL_len,plL_get,plL_get,plL_get]
  unfold Gw.cat
  by_cases h:(k:Int)<n1
  · rw [if_pos (by omega:(k:Int)<n1+n2),if_pos (by omega:k<n1.toNat)];simp only [if_pos h]
  · rw [if_neg (by omega:¬k<n1.toNat)]
    simp only [if_neg h]
    by_cases h2:(k:Int)<n1+n2
    · rw [if_pos h2,if_pos (by omega),show((k-n1.toNat:Nat):Int)=(k:Int)-n1 by omega]
    · rw [if_neg h2,if_neg (by omega)]
theorem ZaU{p:Prob}{hist:List Int}{s:Us}(hok:p.Ok)(h:FFOk p.m (p.stock+p.kerf) (szP p) hist s){b:List Int×Int}(hb:b∈s):VE p b.1:=by
  obtain⟨h2,h3,h4⟩:=h.ok _ hb
  have h5:=h.nn _ hb
  have hm:=hok.m1
  have hl:=VY (m:=p.m) h2
  have e:YM (szP p) b.1=ZO p (fun k=>b.1.getD k.toNat 0) p.m.toNat:=by
    rw [hl,WI _ _ (by omega),WJ]
    refine Ze fun i i0 i1=> ?_
    dsimp only
    rw [<-hl]
  refine⟨fun k=>b.1.getD k.toNat 0,⟨hok,rfl,fun i i0 i1=> ?_,by omega⟩,hl⟩
  obtain⟨g1,g2⟩:=W2 hok h hb i0 i1
  refine⟨g1,?_⟩
  have h6:(b.1.getD i.toNat 0)*(1+p.kerf)<=p.stock+p.kerf:=by
    have hs:=hok.all i i0 i1
    unfold Prob.each at hs
    have h7:(b.1.getD i.toNat 0)*(p.L i+p.kerf)<=ZO p (fun k=>b.1.getD k.toNat 0) p.m.toNat:=TH (f:=fun i=>b.1.getD i.toNat 0*(p.L i+p.kerf)) i0 (by omega) fun k k0 k1=>by
      have hk:=hok.all k k0 (by omega)
      unfold Prob.each at hk
      exact Int.mul_nonneg (W2 hok h hb k0 (by omega)).1 (by have:=hok.k1;omega)
    have h8:=Int.mul_le_mul_of_nonneg_left (show 1+p.kerf<=p.L i+p.kerf by omega) g1
    omega
  have hk1:=hok.k1
  have hs2:=hok.s2
  refine Classical.byContradiction fun hc=> ?_
  have h9:=Int.mul_le_mul_of_nonneg_right (show(2001:Int)<=b.1.getD i.toNat 0 by omega) (show 0<=1+p.kerf by omega)
  omega
def UL(j:Int):Int->Int:=fun k=>if k=j then 1 else 0
theorem Wh{d:Int->Int}{j:Int}(j0:0<=j):∀n:Nat,psum (UL j) d n=if j<(n:Int) then d j else 0
  |0=>by rw [if_neg (by omega)];rfl
  | n +1=>by
    simp only [psum]
    rw [Wh j0 n]
    unfold UL
    by_cases h:(n:Int)=j
    · rw [if_neg (by omega),if_pos h,if_pos (by omega),h];omega
    · rw [if_neg h]
      by_cases h2:j<(n:Int)
      · rw [if_pos h2,if_pos (by omega)];omega
      · rw [if_neg h2,if_neg (by omega)];omega
theorem Rn{m:Int}{l:List Int}(hl:l.length=m.toNat){j:Int}(j0:0<=j)(j1:j<m):YM (UL j) l=l.getD j.toNat 0:=by
  have h:=VY (m:=m) hl
  have h1:YM (UL j) l=YM (UL j) (lst m fun k=>l.getD k.toNat 0):=by rw [<-h]
  rw [h1,WI _ _ (by omega),Wh j0,if_pos (by omega)]
theorem RF{p:Prob}{d:Int->Int}(hok:p.Ok)(hd:∀k,0<=k->k<p.m->0<=d k){N:Us}(hN:NormR (UJ (YF p.m (p.stock+p.kerf) (szP p) (pcsTo d p.m 0))) N):
    (∀x∈N,1<=x.2/\VE p x.1)/\wsum (fun _=>1) N<=psum (fun _=>1) d p.m.toNat/\∀j,0<=j->j<p.m->mkU j N=d j:=by
  have hm:=hok.m1
  obtain⟨hp1,hp2⟩:=Rs (d:=d) (m:=p.m) (i:=p.m) (c:=0) hd (by omega) (by omega) (by omega) (fun h=>by omega) fun _=>rfl
  have hF:=Tr hok hp1
  have hone:∀x∈UJ (YF p.m (p.stock+p.kerf) (szP p) (pcsTo d p.m 0)),∃b∈YF p.m (p.stock+p.kerf) (szP p) (pcsTo d p.m 0),x=(b.1,1):=fun x hx=>by
    unfold UJ at hx
    obtain⟨b,hb,rfl⟩:=List.mem_map.1 hx
    exact⟨b,hb,rfl⟩
  refine⟨fun x hx=>⟨hN.pos (fun y hy=>by obtain⟨b,_,rfl⟩:=hone y hy;exact Int.le_refl _) x hx,?_⟩,?_,fun j j0 j1=> ?_⟩
  · obtain⟨y,hy,e⟩:=hN.keys x hx
    obtain⟨b,hb,rfl⟩:=hone y hy
    rw [<-e];exact ZaU (b:=b) hok hF hb
  · rw [hN.wsum,XF]
    have h1:=hF.ln
    have h2:((YF p.m (p.stock+p.kerf) (szP p) (pcsTo d p.m 0)).map fun _=>(1:Int)).sum=(YF p.m (p.stock+p.kerf) (szP p) (pcsTo d p.m 0)).length:=by
      generalize YF p.m (p.stock+p.kerf) (szP p) (pcsTo d p.m 0)=l
      induction l with
      |nil=>rfl
      |cons a l ih=>rw [List.map_cons,List.sum_cons,ih,List.length_cons];push_cast;omega
    omega
  · unfold mkU
    rw [hN.wsum,XF]
    have h1:=hF.ct (UL j)
    rw [WO _ _ (by omega) (by omega) hd,Wh j0,if_pos (by omega)] at h1
    have h2:((YF p.m (p.stock+p.kerf) (szP p) (pcsTo d p.m 0)).map fun b=>b.1.getD j.toNat 0)=(YF p.m (p.stock+p.kerf) (szP p) (pcsTo d p.m 0)).map fun b=>YM (UL j) b.1:=
      List.map_congr_left fun b hb=>(Rn (hF.ok b hb).1 j0 j1).symm
    rw [h2,h1];omega
theorem Rq{n:Int}{ln cnt:Int->Int}{pt:Int->Int->Int}{B:Int}(h:∀k,0<=k->k<n->1<=cnt k)(hw:wsum (fun _=>1) (plL n ln pt cnt)<=B):n<=B/\∀k,0<=k->k<n->cnt k<=B:=by
  obtain⟨h1,h2⟩:=US (L:=plL n ln pt cnt) fun x hx=>by
    obtain⟨j,hj⟩:=List.mem_iff_getElem?.1 hx
    rw [plL_get] at hj
    split at hj
    · injection hj with hj;rw [<-hj];exact h j (by omega) (by assumption)
    · cases hj
  rw [plL_len] at h1
  refine⟨by omega,fun k k0 k1=> ?_⟩
  have:=h2 (lst (ln k) (pt k),cnt k) (List.mem_iff_getElem?.2 ⟨k.toNat,by rw [plL_get,Int.toNat_of_nonneg k0,if_pos k1]⟩)
  dsimp only at this
  omega
end Go.Proofs.Ytopmifmfecfaaaa
namespace Go.Proofs.Ytopmifmfecfaaaa
open Go Go.RowKit Go.Proofs.Gw
theorem cl_16:Zd Try.prog 16=true:=by kernel_rfl
theorem ZcU:Zd Try.prog 8=true:=by kernel_rfl
end Go.Proofs.Ytopmifmfecfaaaa
namespace Go.Proofs.Gw
open Go Go.RowKit
def ZbJ(v:Value):Prop:=∀a l c,v= .slice a l c->a=none\/∃b off,a=some ⟨b,off,none⟩
def Wu(v:Value)(q:Nat):Value:=match v with
  | .slice a _ _=> .slice a q q
  |u=>u
def W9(v:Value)(q s:Nat):Value:=match v with
  | .slice a len cap=> .slice (if cap=q then a else a.map fun x=>⟨x.block,x.off+q*s,none⟩) (len-q) (cap-q)
  |u=>u
section
variable {P:Program} {L:List (Nat×Value)} {w w0:World} {o:Oper} {x y z:Operand} {T T':TypeId} {l:List Ent} {E:TypeId}
theorem Ent.holds.flat{v:Value}{s:Nat}{n:Int}{c:Int->Value}(h:(Ent.own v s E n c).holds w):ZbJ v:=fun a len cap e=>by
  obtain⟨_,_,⟨rfl,_⟩|⟨g,cap',cur,rfl,_,h2,_⟩⟩:=h
  · cases e;exact .inl rfl
  · cases e;exact .inr ⟨_,_,rfl⟩
theorem K7{v:Value}{n i:Int}{q:Nat}(h:Slh v n)(hq:(q:Int)=i)(hi:i<=n):Slh (Wu v q) i:=by
  subst hq
  obtain⟨h0,h1,a,cap,rfl,hz⟩:=h
  refine⟨by omega,by omega,a,q,by simp [Wu],?_⟩
  rcases hz with hz|hz
  · left;omega
  · exact .inr hz
theorem Tv{v:Value}{s:Nat}{n i:Int}{q:Nat}{c:Int->Value}(h:Row w v s n c)(hq:(q:Int)=i)(hi:i<=n):Row w (Wu v q) s i c:=by
  refine⟨K7 h.slh hq hi,fun k hk=> ?_⟩
  have h2:=h.2 k (Int.lt_of_lt_of_le hk (Int.mul_le_mul_of_nonneg_right hi (by omega)))
  obtain⟨_,_,a,cap,rfl,_⟩:=h.slh
  cases a<;>exact h2
theorem Rg{v:Value}{n i m:Int}{q s:Nat}(h:Slh v n)(hr:Yn v)(hq:(q:Int)=i)(hi:i<=n)(hm:m=n-i):Slh (W9 v q s) m:=by
  subst hq hm
  obtain⟨h0,h1,a,cap,rfl,hz⟩:=h
  have hc:=hr _ _ _ rfl
  refine⟨by omega,by omega,(if cap=q then a else a.map fun x=>⟨x.block,x.off+q*s,none⟩),cap-q,?_,?_⟩
  · unfold W9;dsimp only;congr 1;omega
  · rcases hz with hz|⟨b,off,rfl⟩
    · left;omega
    · right;by_cases hcq:cap=q
      · exact⟨b,off,by rw [if_pos hcq]⟩
      · exact⟨b,off+q*s,by rw [if_neg hcq];rfl⟩
theorem VL{v:Value}{s:Nat}{n i m:Int}{q:Nat}{c d:Int->Value}(h:Row w v s n c)(hr:Yn v)(hq:(q:Int)=i)(hi:i<=n)(hm:m=n-i)(hd:∀k,0<=k->d k=c (k+i*s)):Row w (W9 v q s) s m d:=by
  refine⟨Rg h.slh hr hq hi hm,fun k hk=> ?_⟩
  subst hq hm
  have h1:(k:Int)+(q:Int)*s<n*s:=by have:=Int.sub_mul n q s;omega
  have e:(k:Int)+(q:Int)*s=((k+q*s:Nat):Int):=by push_cast;rfl
  have h2:=h.2 (k+q*s) (by rw [<-e];exact h1)
  rw [hd k (by omega),e,<-h2]
  obtain⟨h0,_,a,cap,rfl,hz⟩:=h.slh
  have hc:=hr _ _ _ rfl
  rcases hz with hz|⟨b,off,rfl⟩
  · subst hz;rw [Int.zero_mul] at h1;have:(0:Int)<=(q:Int)*s:=Int.mul_nonneg (by omega) (by omega);omega
  · have hcq:cap≠q:=by
      intro e2
      have:n-(q:Int)<=0:=by omega
      have:=Int.mul_le_mul_of_nonneg_right this (show(0:Int)<=s by omega)
      rw [Int.zero_mul] at this
      omega
    unfold W9 cad;dsimp only
    rw [if_neg hcq]
    congr 1
    show(⟨b,off+q*s+(k:Int).toNat,none⟩:Addr)=⟨b,off+((k+q*s:Nat):Int).toNat,none⟩
    congr 1
    omega
theorem xsl_cap{v:Value}{n i:Int}{s:Nat}(q:Nat)(ht:Zo P T=some (E,s))(hv:Slh v n)(hr:Yn v)(hf:ZbJ v)(hq:(q:Int)=i:=by omega)(h1:i<=n:=by omega)(ho:o.op= .slice T x none (some y) (some z):=by exact rfl)(hx:evL L x=some v:=by exact rfl)(hy:evL L y=some (.int .i64 i):=by exact rfl)(hz:evL L z=some (.int .i64 i):=by exact rfl):
    Runs P L w o (.value (Wu v q)) w:=fun ρ h=>by
  obtain⟨hu,inf,hin,hsz⟩:=Zu ht
  obtain⟨_,_,a,cap,rfl,_⟩:=hv
  have hc:=hr _ _ _ rfl
  have ha:=hf _ _ _ rfl
  subst hq
  have hb:(Instr.sliceBounds true n.toNat cap none (some (.int .i64 (q:Int))) (some (.int .i64 (q:Int)))).run P w= .ok (0,q,q) w:=by
    have hcq:(q:Int)<=(cap:Int):=by omega
    simp [Instr.sliceBounds,Instr.sliceBound,asIntOf,hcq]
  have e:(Instr.sliceAt T (.slice a n.toNat cap) none (some (.int .i64 (q:Int))) (some (.int .i64 (q:Int)))).run P w= .ok (Wu (.slice a n.toNat cap) q) w:=by
    unfold Instr.sliceAt
    simp only [Sem.run_bind,run_underlying hu,Result.andThen_ok,Instr.slice,hb]
    rcases ha with rfl|⟨b,off,rfl⟩
    · simp [sizeOf,typeInfo,hin,hsz,Wu]
    · simp [sizeOf,typeInfo,hin,hsz,Wu,Addr.add]
  simp [execOp,ho,h _ _ hx,h _ _ hy,h _ _ hz,e]
theorem UX{v:Value}{n i:Int}{s:Nat}(q:Nat)(ht:Zo P T=some (E,s))(hv:Slh v n)(hf:ZbJ v)(hq:(q:Int)=i:=by omega)(h1:i<=n:=by omega)(ho:o.op= .slice T x (some y) none none:=by exact rfl)(hx:evL L x=some v:=by exact rfl)(hy:evL L y=some (.int .i64 i):=by exact rfl):
    Runs P L w o (.value (W9 v q s)) w:=fun ρ h=>by
  obtain⟨hu,inf,hin,hsz⟩:=Zu ht
  obtain⟨_,_,a,cap,rfl,_⟩:=hv
  have ha:=hf _ _ _ rfl
  subst hq
  have hb:(Instr.sliceBounds true n.toNat cap (some (.int .i64 (q:Int))) none none).run P w= .ok (q,n.toNat,cap) w:=by
    simp [Instr.sliceBounds,Instr.sliceBound,asIntOf]
    omega
  have e:(Instr.sliceAt T (.slice a n.toNat cap) (some (.int .i64 (q:Int))) none none).run P w= .ok (W9 (.slice a n.toNat cap) q s) w:=by
    unfold Instr.sliceAt
    simp only [Sem.run_bind,run_underlying hu,Result.andThen_ok,Instr.slice,hb]
    rcases ha with rfl|⟨b,off,rfl⟩
    · simp [sizeOf,typeInfo,hin,hsz,W9]
    · by_cases hc:cap=q
      · simp [sizeOf,typeInfo,hin,hsz,W9,hc]
      · simp [sizeOf,typeInfo,hin,hsz,W9,hc,Addr.add_eq]
  simp [execOp,ho,h _ _ hx,h _ _ hy,e]
theorem UN {v u:Value} {s b:Nat} {n m:Int} {c d f:Int->Value} {zv:Value} (ho:o.op= .call {callee:= .builtin .append,args:= #[x,y],argTypes:= #[T,T]}) (ht:Zo P T=some (E,s)) (he:ZV P E=some (zv,s,b)) (hz:zv.cells.size=s) (hs:0<s)
    (hS:Sat w0 w l) (hx:evL L x=some v) (hy:evL L y=some u) (hv:Row w v s n c) (hcap:∀a len cp,v= .slice a len cp->cp=len) (hu:Row w u s m d) (hm:0<m) (h1c:∀k,0<=k->k<n*s->(c k).oneCell'=true) (h1:∀k,0<=k->k<m*s->(d k).oneCell'=true)
    (hb:b*(n+m)<=140737488355328) (hnm:n+m<=140737488355328) (e:∀k,0<=k->k<(n+m)*s->cat (n*s) c d k=f k):
    ∃r w',Runs P L w o (.value r) w'/\Sat w0 w' (l++ [.own r s E (n+m) f])/\Slh r (n+m):=by
  obtain⟨hn0,hn1,a,cap,rfl,hza⟩:=hv.slh
  have hcp:=hcap _ _ _ rfl
  subst hcp
  cases a with
  | none=>
    have hn:n=0:=by rcases hza with h|⟨_,_,h⟩;exact h;cases h
    subst hn
    have hS1:=hS.addnil s E c
    obtain⟨r,w',h2,h3,h4⟩:=WW (l1:=l) (l2:= []) ho ht he hz hs (v:= .slice none 0 0) hS1 (by simpa using hx) hy hu h1 hb hnm
    refine⟨r,w',h2,?_,h4⟩
    have hi:(l++Ent.own r s E (0+m) (cat (0*s) c d):: [])[l.length]? =some (.own r s E (0+m) (cat (0*s) c d)):=by rw [List.getElem?_append_right (Nat.le_refl _),Nat.sub_self];rfl
    have:=h3.recont l.length hi e
    have e2:(l++ [Ent.own r s E (0+m) (cat (0*s) c d)]).set l.length (Ent.own r s E (0+m) f)=l++ [.own r s E (0+m) f]:=by
      apply List.ext_getElem?
      intro k
      rw [List.getElem?_set,List.getElem?_append,List.getElem?_append]
      by_cases h5:l.length=k
      · subst h5;simp
      · rw [if_neg h5]
        by_cases h6:k<l.length
        · rw [if_pos h6,if_pos h6]
        · rw [if_neg h6,if_neg h6,List.getElem?_eq_none (by simp;omega),List.getElem?_eq_none (by simp;omega)]
    rw [e2] at this
    exact this
  | some ad=>
    obtain⟨hut,_⟩:=Zu ht
    obtain⟨i,hi,hzz,hsz,hby⟩:=Xc he
    obtain⟨hm0,hm1,a2,cap2,rfl,hz2⟩:=hu.slh
    obtain⟨b2,off2,rfl⟩:∃b off,a2=some ⟨b,off,none⟩:=by rcases hz2 with h|h;omega;exact h
    have eb:(n.toNat+m.toNat)*b<=140737488355328:=by
      have:(((n.toNat+m.toNat)*b:Nat):Int)=b*(n+m):=by rw [Int.natCast_mul,Int.natCast_add,Int.toNat_of_nonneg hn0,Int.toNat_of_nonneg hm0,Int.mul_comm]
      omega
    have en:n.toNat+m.toNat=(n+m).toNat:=by omega
    have cellsR:∀{v:Value} {n:Int} {c:Int->Value} {ad:Addr} {cap:Nat},v= .slice (some ad) n.toNat cap->(n=0\/∃b off,some ad=some (⟨b,off,none⟩:Addr))->0<=n->Row w v s n c->∀j t,(cellsOf c (n.toNat*s))[j]? =some t->w.cell? (ad.add j)=some t:=fun {v n c ad cap} hv hz h0 hR j t hj=>by
      rw [cellsOf_get] at hj
      split at hj
      · rename_i hlt
        have e':((n.toNat*s:Nat):Int)=n*s:=by rw [Int.natCast_mul,Int.toNat_of_nonneg h0]
        have:=hR.2 j (by omega)
        cases hj
        rw [<-this,hv]
        rcases hz with h|⟨b',off,h⟩
        · subst h;simp at hlt
        · cases h;rw [Addr.add_eq _ rfl];simp [cad]
      · cases hj
    have hr:=run_append_grow (P:=P) w T 0 E i zv hut hi hzz ad n.toNat n.toNat (cellsOf c (n.toNat*s)) (by rw [Zp,hsz]) (cellsR rfl hza hn0 hv)
      ⟨b2,off2,none⟩ m.toNat cap2 (cellsOf d (m.toNat*s)) (by rw [Zp,hsz]) (cellsR rfl (.inr ⟨_,_,rfl⟩) hm0 hu) (by omega) (by omega) (by rw [hby];exact growslice_fits (by omega) eb)
    have hr':∀ty,(Builtin.append_ #[T,T] ty #[.slice (some ad) n.toNat n.toNat,.slice (some ⟨b2,off2,none⟩) m.toNat cap2])=Builtin.append_ #[T,T] 0 #[.slice (some ad) n.toNat n.toNat,.slice (some ⟨b2,off2,none⟩) m.toNat cap2]:=fun _=>rfl
    have hge:=grownCap_ge w (n.toNat+m.toNat) n.toNat E
    have hle:=grownCap_le_maxLen w (n.toNat+m.toNat) n.toNat E (by unfold maxLen;omega)
    have hE:(Ent.own (.slice (some ⟨w.heap.size,0,none⟩) (n.toNat+m.toNat) (grownCap w (n.toNat+m.toNat) n.toNat E)) s E (n+m) f).holds (w.drew.alloc (.cells ((cellsOf c (n.toNat*s)).toArray++(cellsOf d (m.toNat*s)).toArray++Builtin.zeroCells zv.cells (grownCap w (n.toNat+m.toNat) n.toNat E-(n.toNat+m.toNat))) E)):=by
      have hh:=heap_alloc_new w.drew (.cells ((cellsOf c (n.toNat*s)).toArray++(cellsOf d (m.toNat*s)).toArray++Builtin.zeroCells zv.cells (grownCap w (n.toNat+m.toNat) n.toNat E-(n.toNat+m.toNat))) E)
      refine⟨by omega,hnm,.inr ⟨w.heap.size,_,_,by rw [en],hh,by omega,hle,?_,fun k hk=> ?_⟩⟩
      · simp only [Array.size_append,List.size_toArray,Zp]
        rw [size_zeroCells,hz,<-Nat.add_mul,<-Nat.add_mul];congr 1;omega
      · have e1:((n.toNat*s:Nat):Int)=n*s:=by rw [Int.natCast_mul,Int.toNat_of_nonneg hn0]
        have e2:((m.toNat*s:Nat):Int)=m*s:=by rw [Int.natCast_mul,Int.toNat_of_nonneg hm0]
        have e3:=Int.add_mul n m s
        rw [<-e k (by omega) hk]
        have hlt:k<n.toNat*s+m.toNat*s:=by omega
        rw [Array.getElem?_append_left (by simp only [Array.size_append,List.size_toArray,Zp];exact hlt),Array.getElem?_append,List.size_toArray,Zp,List.getElem?_toArray,List.getElem?_toArray]
        unfold cat
        by_cases hk2:k<n.toNat*s
        · rw [if_pos hk2,cellsOf_get,if_pos hk2,if_pos (by omega)]
        · rw [if_neg hk2,cellsOf_get,if_pos (by omega),if_neg (by omega)];congr 2;omega
    refine⟨_,_,fun ρ h=> ?_,hS.draw.alloc _ hE (fun g hg=> ?_),hE.row.slh⟩
    · simp [execOp,ho,resolve,invoke,builtin,h _ _ hx,h _ _ hy,hr',hr]
    · simp [Ent.has,Value.ownBlock] at hg;rw [<-hg];rfl
theorem TZ(v:Value)(q:Nat):∀a len cp,Wu v q= .slice a len cp->cp=len:=fun a len cp e=>by
  unfold Wu at e
  split at e
  · cases e;rfl
  · rename_i h;exact absurd e (h _ _ _)
theorem ZbM{v u:Value}{s b:Nat}{n m r:Int}{c d f:Int->Value}{zv:Value}{q:Nat}(ht:Zo P T=some (E,s))(he:ZV P E=some (zv,s,b))(hS:Sat w0 w l)(hv:Row w (Wu v q) s n c)(hu:Row w u s m d)(h1c:∀k,0<=k->k<n*s->(c k).oneCell'=true)(h1:∀k,0<=k->k<m*s->(d k).oneCell'=true)
    (e:∀k,0<=k->k<(n+m)*s->cat (n*s) c d k=f k) (hr:r=n+m) (hm:0<m:=by omega) (hb:b*(n+m)<=140737488355328:=by omega) (hnm:n+m<=140737488355328:=by omega)
    (ho:o.op= .call {callee:= .builtin .append,args:= #[x,y],argTypes:= #[T,T]}:=by exact rfl) (hz:zv.cells.size=s:=by exact rfl) (hs:0<s:=by decide) (hx:evL L x=some (Wu v q):=by exact rfl) (hy:evL L y=some u:=by exact rfl):
    ∃q w',Runs P L w o (.value q) w'/\Sat w0 w' (l++ [.own q s E r f])/\Slh q r:=by
  subst hr;exact UN ho ht he hz hs hS hx hy hv (TZ v q) hu hm h1c h1 hb hnm e
theorem Sat.pmrowsJ(h:Sat w0 w l)(i:Nat){n m:Int}{vv:Int->Value}{ln:Int->Int}{f:Int->Int->Int}{t:Int->Int}(ht:∀k,0<=k->k<m->0<=t k/\t k<n)(hj:∀j k,0<=j->j<m->0<=k->k<m->t j=t k->j=k)(hi:l[i]? =some (.sem (Frame.rows E n vv ln f)):=by exact rfl):
    Sat w0 w (l.set i (.sem (Frame.rows E m (fun k=>vv (t k)) (fun k=>ln (t k)) (fun k=>f (t k))))):=
  h.resem i hi (fun⟨h1,h2⟩=>⟨fun k k0 k1=>h1 (t k) (ht k k0 k1).1 (ht k k0 k1).2,fun a b a0 a1 b0 b1 hab g hg hg'=>h2 (t a) (t b) (ht a a0 a1).1 (ht a a0 a1).2 (ht b b0 b1).1 (ht b b0 b1).2 (fun e=>hab (hj a b a0 a1 b0 b1 e)) g hg hg'⟩)
    (fun g ⟨a,a0,a1,hg⟩=>⟨t a,(ht a a0 a1).1,(ht a a0 a1).2,hg⟩)
end
end Go.Proofs.Gw
namespace Go.Proofs.Ytopmifmfecfaaaa
open Go Go.RowKit Go.Proofs.Gw
set_option maxRecDepth 20000 in
theorem Zam{vA vB:Value}{n m:Int}{f g:Int->Int}(w0:World)(hA:Row w0 vA 1 n (ints f))(hB:Row w0 vB 1 m (ints g)):
    Calls Try.prog 68 [vA,vB].toArray w0 fun e w=>∃v,e= .returned v/\v=B (ahd (lst n f) (lst m g))/\Sat w0 w []:=by
  have hn:=hA.slh.n0;have hn1:=hA.slh.n1;have hm:=hB.slh.n0;have hm1:=hB.slh.n1
  refine Zn Try.func68 Try.ntmps68 fun w hS=> ?_
  refine zsr ?_
  refine zlv xas ?_
  refine zx5 ?_
  refine zlv xas ?_
  refine zx6<|zlp (fun mm M w=>∃(i:Int),mm=((n-i).toNat)/\(0<=i)/\(i<=n)/\(i<=m)/\(∀k,0<=k->k<i->f k=g k)/\M= [(0,vA),(1,vB),(5,.int .i64 i)]/\Sat w0 w []) ⟨0,rfl,(by omega),(by omega),(by omega),?_,rfl,hS⟩ ?_
  ·
   intro k h0 h1;omega
  clear hS w
  rintro mm M w ⟨i,rfl,h0,h1,h2,hall,rfl,hS⟩
  refine zsq<|zsr ?_
  refine zs2 ?_
  refine zlv (xln sl_22 hA.slh) ?_
  refine zs2 ?_
  refine zlb 10 ?_ ?_<;>intro hc
  ·
   refine zs2 ?_
   refine zlv (xln sl_22 hB.slh) ?_
   refine zs2 ?_
   refine zlt ?_
   refine zcif ?_ ?_<;>intro hc
   ·
    refine zsk<|ztn<|zsq<|zbk<|zsq ?_
    refine zdst [] [] 1000 mx_ hS ?_;clear hS;intro w hS
    refine zDrv 0 xmv ?_
    refine zDrv 1 xmv ?_
    refine zDrv 2 (xix (kk:=i) sl_22 hA.slh) ?_
    refine zdla 3 (fun w hS=>(xlr (u:= .int .i64 (f i)) pl_3 (hA.below hS.below))) ?_
    refine zDrv 4 xmv ?_
    refine zDrv 5 xmv ?_
    refine zDrv 6 (xix (kk:=i) sl_22 hB.slh) ?_
    refine zdla 7 (fun w hS=>(xlr (u:= .int .i64 (g i)) pl_3 (hB.below hS.below))) ?_
    refine zDrv 8 Yj ?_
    refine zdd<|ztn ?_
    refine zcif ?_ ?_<;>intro hc
    ·
     refine zsq ?_
     refine zdst [] [] 1000 mx_ hS ?_;clear hS;intro w hS
     refine zDrv 0 xmv ?_
     refine zDrv 1 xmv ?_
     refine zDrv 2 (xix (kk:=i) sl_22 hA.slh) ?_
     refine zdla 3 (fun w hS=>(xlr (u:= .int .i64 (f i)) pl_3 (hA.below hS.below))) ?_
     refine zDrv 4 xmv ?_
     refine zDrv 5 xmv ?_
     refine zDrv 6 (xix (kk:=i) sl_22 hB.slh) ?_
     refine zdla 7 (fun w hS=>(xlr (u:= .int .i64 (g i)) pl_3 (hB.below hS.below))) ?_
     refine zDrv 8 xgtr ?_
     refine zDrv 9 xas ?_
     refine zdd<|ztn<|zrt<|zbr<|ztr<|ztr<|zbr<|ztr<|zf1 ⟨_,rfl,?_⟩
     exact⟨Zw ⟨fun hh=>ahd_gt h0 (by omega) (by omega) hall hh,fun hh=>by
         apply Classical.byContradiction;intro h9
         exact ahd_asym hh (ahd_gt (n:=m) (m:=n) (f:=g) (g:=f) h0 (by omega) (by omega) (fun k k0 k1=>(hall k k0 k1).symm) (by omega))⟩,hS⟩
    refine zx4 ?_
    refine zlv xmv ?_
    refine zlv (xadd (r:=i+1)) ?_
    refine zlv xas ?_
    refine zln<|zlq ⟨i+1,rfl,(by omega),(by omega),(by omega),?_,rfl,hS⟩
    ·
     intro k h0' h1';rcases Int.lt_or_eq_of_le (show k<=i by omega) with hk|hk;exact hall k h0' hk;rw [hk];omega
   refine zx8 ?_
   refine zlv xmv ?_
   refine zlv (xln sl_22 hA.slh) ?_
   refine zlv xmv ?_
   refine zlv (xln sl_22 hB.slh) ?_
   refine zlv (xkt xgtr) ?_
   refine zlv xas ?_
   refine zx1<|zf1 ⟨_,rfl,?_⟩
   exact⟨ZW (Ww (by omega) (by omega) (fun k k0 k1=>hall k k0 (by omega))),hS⟩
  iterate 4 refine zlo ?_
  refine zlv xpf ?_
  refine zlt<|zcf<|zxt<|ztx<|ztx<|zbh<|ztn<|zsr ?_
  refine zlv xmv ?_
  refine zlv (xln sl_22 hA.slh) ?_
  refine zlv xmv ?_
  refine zlv (xln sl_22 hB.slh) ?_
  refine zs2 ?_
  refine zx1<|zf1 ⟨_,rfl,?_⟩
  exact⟨Zw ⟨fun hh=>Ww (by omega) hh (fun k k0 k1=>hall k k0 (by omega)),fun hh=>by
      apply Classical.byContradiction;intro h9
      by_cases e:n=m
      · subst e;exact Kh (fun k k0 k1=>hall k k0 (by omega)) hh
      · exact ahd_asym hh (Ww (n:=m) (m:=n) (f:=g) (g:=f) (by omega) (by omega) (fun k k0 k1=>(hall k k0 (by omega)).symm))⟩,hS⟩
def Ya(s:Int->Int)(a i:Int):Int->Int:=fun k=>if k<a then s k else if k=a then i else s (k-1)
theorem Tl{s:Int->Int}{a i k:Int}(h:k<a):Ya s a i k=s k:=if_pos h
theorem Tn(s:Int->Int)(a i:Int):Ya s a i a=i:=by unfold Ya;rw [if_neg (by omega),if_pos rfl]
theorem Tm{s:Int->Int}{a i k:Int}(h:a<k):Ya s a i k=s (k-1):=by unfold Ya;rw [if_neg (by omega),if_neg (by omega)]
theorem Yc(s:Int->Int)(a i k:Int):(k<a/\Ya s a i k=s k)\/(k=a/\Ya s a i k=i)\/(a<k/\Ya s a i k=s (k-1)):=by
  rcases Int.lt_trichotomy k a with h|h|h
  · exact .inl ⟨h,Tl h⟩
  · exact .inr (.inl ⟨h,by rw [h];exact Tn s a i⟩)
  · exact .inr (.inr ⟨h,Tm h⟩)
theorem V2{s:Int->Int}{a i:Int}(a0:0<=a)(a1:a<=i)(h:∀k,0<=k->k<i->0<=s k/\s k<i):∀k,0<=k->k<i+1->0<=Ya s a i k/\Ya s a i k<i+1:=fun k k0 k1=>by
  rcases Yc s a i k with⟨h1,e⟩|⟨h1,e⟩|⟨h1,e⟩<;>rw [e]
  · have:=h k k0 (by omega);omega
  · omega
  · have:=h (k-1) (by omega) (by omega);omega
theorem V3{s:Int->Int}{a i:Int}(a0:0<=a)(a1:a<=i)(h:∀k,0<=k->k<i->0<=s k/\s k<i)(hj:∀j k,0<=j->j<i->0<=k->k<i->s j=s k->j=k):∀j k,0<=j->j<i+1->0<=k->k<i+1->Ya s a i j=Ya s a i k->j=k:=fun j k j0 j1 k0 k1 e=>by
  rcases Yc s a i j with⟨h1,e1⟩|⟨h1,e1⟩|⟨h1,e1⟩<;>rcases Yc s a i k with⟨h2,e2⟩|⟨h2,e2⟩|⟨h2,e2⟩<;>rw [e1,e2] at e
  · exact hj j k j0 (by omega) k0 (by omega) e
  · have:=h j j0 (by omega);omega
  · have:=hj j (k-1) j0 (by omega) (by omega) (by omega) e;omega
  · have:=h k k0 (by omega);omega
  · omega
  · have:=h (k-1) (by omega) (by omega);omega
  · have:=hj (j-1) k (by omega) (by omega) k0 (by omega) e;omega
  · have:=h (j-1) (by omega) (by omega);omega
  · have:=hj (j-1) (k-1) (by omega) (by omega) (by omega) (by omega) e;omega
theorem Rz{R:Int->Int->Prop}{s:Int->Int}{a i:Int}(a0:0<=a)(a1:a<=i)(hs:Srt R 0 i s)(hl:∀k,0<=k->k<a->R (s k) i)(hg:∀k,a<=k->k<i->R i (s k)):Srt R 0 (i+1) (Ya s a i):=fun j k j0 jk k1=>by
  rcases Yc s a i j with⟨h1,e1⟩|⟨h1,e1⟩|⟨h1,e1⟩<;>rcases Yc s a i k with⟨h2,e2⟩|⟨h2,e2⟩|⟨h2,e2⟩<;>rw [e1,e2]
  · exact hs j k j0 jk (by omega)
  · exact hl j j0 h1
  · exact hs j (k-1) j0 (by omega) (by omega)
  · omega
  · omega
  · exact hg (k-1) (by omega) (by omega)
  · omega
  · omega
  · exact hs (j-1) (k-1) (by omega) (by omega) (by omega)
theorem Ku{ln cnt s:Int->Int}{pt:Int->Int->Int}{a i:Int}(a0:0<=a)(a1:a<=i):plL (i+1) (fun k=>ln (Ya s a i k)) (fun k=>pt (Ya s a i k)) (fun k=>cnt (Ya s a i k))=
    (plL i (fun k=>ln (s k)) (fun k=>pt (s k)) (fun k=>cnt (s k))).take a.toNat++(lst (ln i) (pt i),cnt i)::(plL i (fun k=>ln (s k)) (fun k=>pt (s k)) (fun k=>cnt (s k))).drop a.toNat:=by
  have hlen:((plL i (fun k=>ln (s k)) (fun k=>pt (s k)) (fun k=>cnt (s k))).take a.toNat).length=a.toNat:=by rw [List.length_take,plL_len];omega
  apply List.ext_getElem?
  intro k
  rw [plL_get,List.getElem?_append,hlen]
  rcases Yc s a i k with⟨h,e⟩|⟨h,e⟩|⟨h,e⟩
  · rw [if_pos (by omega),if_pos (by omega),List.getElem?_take,if_pos (by omega),plL_get,if_pos (by omega),e]
  · rw [if_pos (by omega),if_neg (by omega),show k-a.toNat=0 by omega,List.getElem?_cons_zero,e]
  · rw [if_neg (show¬k<a.toNat by omega)]
    obtain⟨q,hq⟩:∃q,k-a.toNat=q+1:=⟨k-a.toNat-1,by omega⟩
    rw [hq,List.getElem?_cons_succ,List.getElem?_drop,plL_get,e,show((a.toNat+q:Nat):Int)=(k:Int)-1 by omega]
    by_cases hk:(k:Int)<i+1
    · rw [if_pos hk,if_pos (by omega)]
    · rw [if_neg hk,if_neg (by omega)]
theorem VW{ln cnt s:Int->Int}{pt:Int->Int->Int}{a i:Int}(a0:0<=a)(a1:a<=i)(h:(plL i (fun k=>ln (s k)) (fun k=>pt (s k)) (fun k=>cnt (s k))).Perm (plL i ln pt cnt)):
    (plL (i+1) (fun k=>ln (Ya s a i k)) (fun k=>pt (Ya s a i k)) (fun k=>cnt (Ya s a i k))).Perm (plL (i+1) ln pt cnt):=by
  rw [Ku a0 a1,YH (by omega)]
  refine List.perm_middle.trans ?_
  rw [List.take_append_drop]
  exact(List.Perm.cons _ h).trans (List.perm_append_singleton _ _).symm
theorem U0{l:Us}{n:Int}{ln cnt:Int->Int}{pt:Int->Int->Int}(hs:plL n ln pt cnt=YL l){x y:Int}(x0:0<=x)(x1:x<n)(y0:0<=y)(y1:y<n)(h:x≠y):lst (ln x) (pt x)≠lst (ln y) (pt y):=by
  have hd:=TF l
  rw [<-hs,List.pairwise_iff_getElem] at hd
  have gg:∀(k:Int) (k0:0<=k) (hk:k<n),∃h:k.toNat<(plL n ln pt cnt).length,(plL n ln pt cnt)[k.toNat]=(lst (ln k) (pt k),cnt k):=fun k k0 hk=>by
    have h1:=plL_get n ln pt cnt k.toNat
    have h3:k.toNat<(plL n ln pt cnt).length:=by rw [plL_len];omega
    rw [Int.toNat_of_nonneg k0,if_pos hk,List.getElem?_eq_getElem h3] at h1
    exact⟨h3,by injection h1⟩
  obtain⟨ha,ea⟩:=gg x x0 x1
  obtain⟨hb,eb⟩:=gg y y0 y1
  rcases Int.lt_or_gt_of_ne h with h3|h3
  · have:=hd x.toNat y.toNat ha hb (by omega);rw [ea,eb] at this;exact this
  · have:=hd y.toNat x.toNat hb ha (by omega);rw [ea,eb] at this;exact fun e=>this e.symm
abbrev Uy(ln:Int->Int)(pt:Int->Int->Int):Int->Int->Prop:=fun x y=>ahd (lst (ln x) (pt x)) (lst (ln y) (pt y))
theorem V1{l:Us}{n i a:Int}{ln cnt s:Int->Int}{pt:Int->Int->Int}(hs:plL n ln pt cnt=YL l)(i1:i<n)(a0:0<=a)(a1:a<=i)(hr:∀k,0<=k->k<i->0<=s k/\s k<i)(ho:Srt (Uy ln pt) 0 i s)
    (h1:a=0\/¬Uy ln pt i (s (a-1))) (h2:∀k,a<=k->k<i->Uy ln pt i (s k)):Srt (Uy ln pt) 0 (i+1) (Ya s a i):=by
  refine Rz a0 a1 ho (fun k k0 k1=> ?_) h2
  have hr1:=hr (a-1) (by omega) (by omega)
  have h3:Uy ln pt (s (a-1)) i:=by
    rcases h1 with h1|h1
    · omega
    · rcases Zar (U0 hs (x:=i) (y:=s (a-1)) (by omega) i1 hr1.1 (by omega) (by omega)) with h|h
      · exact absurd h h1
      · exact h
  by_cases e:k=a-1
  · rw [e];exact h3
  · exact T5 (ho k (a-1) k0 (by omega) (by omega)) h3
theorem NormR.of_ins{l:Us}{n:Int}{ln cnt s:Int->Int}{pt:Int->Int->Int}(hs:plL n ln pt cnt=YL l)(hp:(plL n (fun k=>ln (s k)) (fun k=>pt (s k)) (fun k=>cnt (s k))).Perm (plL n ln pt cnt))(ho:Srt (Uy ln pt) 0 n s):
    NormR l (plL n (fun k=>ln (s k)) (fun k=>pt (s k)) (fun k=>cnt (s k))):=by
  refine⟨by rw [<-hs];exact hp,?_⟩
  rw [List.pairwise_iff_getElem]
  intro i j hi hj hij
  rw [plL_len] at hi hj
  have g:∀(k:Nat) (hk:k<(plL n (fun k=>ln (s k)) (fun k=>pt (s k)) (fun k=>cnt (s k))).length),(plL n (fun k=>ln (s k)) (fun k=>pt (s k)) (fun k=>cnt (s k)))[k]=(lst (ln (s k)) (pt (s k)),cnt (s k)):=fun k hk=>by
    have h1:=plL_get n (fun k=>ln (s k)) (fun k=>pt (s k)) (fun k=>cnt (s k)) k
    rw [plL_len] at hk
    rw [if_pos (by omega),List.getElem?_eq_getElem (by rw [plL_len];exact hk)] at h1
    injection h1
  rw [g,g]
  exact ho i j (by omega) (by omega) (by omega)
theorem WS{pv:Int->Value}{cnt s:Int->Int}{a i:Int}(a0:0<=a)(a1:a<=i):∀k,0<=k->k<(i+1)*2->cat (a*2) (Zf (fun q=>pv (s q)) (fun q=>cnt (s q))) (cat (1*2) (Zf (fun _=>pv i) (fun _=>cnt i)) (fun k=>Zf (fun q=>pv (s q)) (fun q=>cnt (s q)) (k+a*2))) k=Zf (fun q=>pv (Ya s a i q)) (fun q=>cnt (Ya s a i q)) k:=fun k k0 k1=>by
  unfold cat Zf
  dsimp only
  by_cases h1:k<a*2
  · rw [if_pos h1,Tl (show k/2<a by omega)]
  · rw [if_neg h1]
    by_cases h2:k-a*2<1*2
    · rw [if_pos h2,show k/2=a by omega,Tn]
      by_cases h3:k%2=0
      · rw [if_pos h3,if_pos (show(k-a*2)%2=0 by omega)]
      · rw [if_neg h3,if_neg (show¬(k-a*2)%2=0 by omega)]
    · rw [if_neg h2,Tm (show a<k/2 by omega),show(k-a*2-1*2+a*2)/2=k/2-1 by omega,show(k-a*2-1*2+a*2)%2=k%2 by omega]
theorem VX{l:Us}{n i r:Int}{ln lO:Int->Int}{pt gO:Int->Int->Int}{cO:Int->Int}(hs:plL n lO gO cO=YL l)(r0:0<=r)(r1:r<n)(e:lst (ln i) (pt i)=lst (lO r) (gO r)):∀k,0<=k->k<r->¬(lst (ln i) (pt i)=lst (lO k) (gO k)):=fun k k0 k1 h=>
  U0 hs k0 (by omega) r0 r1 (by omega) (h.symm.trans e)
theorem Tu{n:Int}{f g:Int->Value}(hf:∀k,(f k).oneCell'=true)(hg:∀k,(g k).oneCell'=true):∀k,(cat n f g k).oneCell'=true:=fun k=>by
  unfold cat;split
  · exact hf k
  · exact hg _
end Go.Proofs.Ytopmifmfecfaaaa
namespace Go.Proofs.Ytopmifmfecfaaaa
open Go Go.RowKit Go.Proofs.Gw
theorem Zcf:Zd Try.prog 68=true:=by kernel_rfl
theorem U2:Zv Try.prog 34=some 2:=by kernel_rfl
theorem Xy{n m:Int}{f g:Int->Int}(n0:0<=n)(m0:0<=m):(n=m/\∀k,0<=k->k<n->f k=g k)↔lst m g=lst n f:=by
  rw [eq_comm (a:=lst m g)];exact(Vk n0 m0).symm
theorem WQ{nO i q:Int}{lO ln cO cnt:Int->Int}{gO pt:Int->Int->Int}(n0:0<=nO)(i0:0<=i)(hs:plL nO lO gO cO=YL (plL i ln pt cnt))(hq:q=nO)(hne:∀k,0<=k->k<nO->¬(lst (ln i) (pt i)=lst (lO k) (gO k))):
    plL (nO+1) (gsn lO nO (ln i)) (gsn gO nO (pt i)) (upd (Z5 cO nO 0) q (Z5 cO nO 0 q+cnt i))=YL (plL (i+1) ln pt cnt):=by
  subst hq
  rw [<-Rv n0 i0 hs hne]
  refine WM fun k k0 k1=>⟨rfl,?_,fun _ _ _=>rfl⟩
  unfold upd
  by_cases e:k=q
  · rw [if_pos e,ZI (by omega),e,ZI (by omega)];omega
  · rw [if_neg e,ZH (by omega),ZH (by omega)]
theorem Tg{cC:Int->Int}{nC B C x q:Int}(h:∀k,0<=k->k<nC->1<=cC k/\cC k<=B)(hq:q=nC)(hB:B<=C)(x1:1<=x)(x2:x<=C):∀k,0<=k->k<nC+1->1<=upd (Z5 cC nC 0) q (Z5 cC nC 0 q+x) k/\upd (Z5 cC nC 0) q (Z5 cC nC 0 q+x) k<=C:=fun k k0 k1=>by
  subst hq
  unfold upd
  by_cases e:k=q
  · rw [if_pos e,ZI (by omega)];omega
  · rw [if_neg e,ZH (by omega)];have:=h k k0 (by omega);omega
set_option maxHeartbeats 4000000 in
set_option maxRecDepth 20000 in
theorem Ty {vV:Value} {u:Int} {pv:Int->Value} {ln:Int->Int} {pt:Int->Int->Int} {cnt:Int->Int} (w0:World) (hV:VAt w0 vV u pv ln pt cnt) (hn5:u<=1000000) (hlc:∀k,0<=k->k<u->ln k<=100000) (hpc:∀k,0<=k->k<u->1<=cnt k/\cnt k<=1000):
    Calls Try.prog 33 [vV].toArray w0 fun e w=>∃v,e= .returned v/\∃r n2 pv2 ln2 pt2 cnt2,v=r/\NormR (plL u ln pt cnt) (plL n2 ln2 pt2 cnt2)/\0<=n2/\n2<=u/\(∀k,0<=k->k<n2->1<=cnt2 k/\cnt2 k<=1000*u)/\Slh r n2/\Sat w0 w [.own r 2 34 n2 (Zf pv2 cnt2),.sem (Frame.rows 3 n2 pv2 ln2 pt2)]:=by
  have hn:=hV.row.slh.n0;have hn1:=hV.row.slh.n1
  refine Zn Try.func33 Try.ntmps33 fun w hS=> ?_
  refine zsr ?_
  refine zlv xas ?_
  refine zlz ?_
  refine zs2 ?_
  refine zx5 ?_
  refine zlv xas ?_
  refine zx6 ?_
  replace hS:=hS.addnil 2 34 (Zf (fun _=>Value.slice none 0 0) (fun _=>0))
  replace hS:=hS.n1
  replace hS:=hS.addrows 3 (fun _=>Value.slice none 0 0) (fun _=>0) (fun _ _=>0)
  replace hS:=hS.n2
  replace hS:=hS.n2
  have hrs0:=fun k (k0:0<=k) (k1:k<0)=>hS.slhIn 1 rfl k0 k1
  refine zlp (fun mm M w=>∃(nC:Int) (wv:Int->Value) (lC:Int->Int) (gC:Int->Int->Int) (cC:Int->Int) (i:Int) (wcS:Value),mm=((u-i).toNat)/\(0<=i)/\(i<=u)/\(0<=nC/\nC<=i)/\(plL nC lC gC cC=YL (plL i ln pt cnt))/\(∀k,0<=k->k<nC->1<=cC k/\cC k<=1000*i)/\(∀x,(wv x).oneCell'=true)/\(Slh wcS nC)/\M= [(0,vV),(2,.slice none 0 0),(3,wcS),(4,.slice none 0 0),(5,.int .i64 i)]/\Sat w0 w [.own wcS 2 34 nC (Zf wv cC),.sem (Frame.rows 3 nC wv lC gC)]) ⟨0,(fun _=>Value.slice none 0 0),(fun _=>0),(fun _ _=>0),(fun _=>0),0,(.slice none 0 0),rfl,(by omega),(by omega),(by omega),?_,?_,?_,?_,rfl,hS⟩ ?_
  ·
   rfl
  ·
   intro k k0 k1;omega
  ·
   intro x;rfl
  ·
   exact slh_nil
  clear hS w
  rintro mm M w ⟨nC,wv,lC,gC,cC,i,wcS,rfl,h0,h1,hnC,hs,hbc,hone,hwcS,rfl,hS⟩
  have hrs1:=fun k (k0:0<=k) (k1:k<nC)=>hS.slhIn 1 rfl k0 k1
  have hnC0:=hnC.1
  refine zsq<|zsr ?_
  refine zs2 ?_
  refine zlv (xln sl_25 hV.row.slh) ?_
  refine zlv Zk ?_
  refine zlt ?_
  refine zcif ?_ ?_<;>intro hc
  ·
   refine zx3 ?_
   refine zlv xmv ?_
   refine zlv (xln sl_25 hwcS) ?_
   have hci:=hpc i h0 (by omega)
   have hli:=hlc i h0 (by omega)
   have hli0:=(hV.p i h0 (by omega)).slh.n0
   refine zlv xas ?_
   refine zx5 ?_
   refine zlv xas ?_
   refine zx6<|zlp (fun mm M w=>∃(at6:Int) (k:Int),mm=((nC-k).toNat)/\(0<=k)/\(k<=nC)/\((at6=nC/\∀j,0<=j->j<k->¬(lst (ln i) (pt i)=lst (lC j) (gC j)))\/(0<=at6/\at6<nC/\lst (ln i) (pt i)=lst (lC at6) (gC at6)))/\M= [(0,vV),(2,.slice none 0 0),(3,wcS),(4,.slice none 0 0),(5,.int .i64 i),(6,.int .i64 at6),(7,.int .i64 k)]/\Sat w0 w [.own wcS 2 34 nC (Zf wv cC),.sem (Frame.rows 3 nC wv lC gC)]) ⟨nC,0,rfl,(by omega),(by omega),?_,rfl,hS⟩ ?_
   ·
    exact .inl ⟨rfl,fun j j0 j1=>by omega⟩
   clear hS w
   rintro mm M w ⟨at6,k,rfl,k0,k1,hat,rfl,hS⟩
   refine zsq<|zsr ?_
   refine zs2 ?_
   refine zlv (xln sl_25 hwcS) ?_
   refine zlv Zk ?_
   refine zlt ?_
   refine zcif ?_ ?_<;>intro hc
   ·
    refine zsk<|ztn<|zsq<|zbk<|zsq ?_
    refine zdst [0,1] [0,1] 1000 mx_ hS ?_;clear hS;intro w hS
    refine zDrv 0 xmv ?_
    refine zDrv 1 xmv ?_
    refine zDrv 2 (xix (kk:=2*k) sl_25 hwcS) ?_
    have hsk:=(hrs1 k k0 (by omega)).n0
    refine zDrv 3 (xfc (kk:=2*k) Yi hwcS) ?_
    refine zdla 4 (fun w hS=>(xlr (u:=(wv k)) pl_22 (hS.rowN 0 rfl) (e:=(Yh wv cC (by omega))))) ?_
    refine zDrv 5 xmv ?_
    refine zDrv 6 xmv ?_
    refine zDrv 7 (xix (kk:=2*i) sl_25 hV.row.slh) ?_
    refine zDrv 8 (xfc (kk:=2*i) Yi hV.row.slh) ?_
    refine zdla 9 (fun w hS=>(xlr (u:=(pv i)) pl_22 (hV.row.below hS.below) (e:=(Yh pv cnt (by omega))))) ?_
    refine zdc 10 (xc0 ZaB) (Up (n:=(lC k)) (m:=(ln i)) (f:=(gC k)) (g:=(pt i)) w (hS.rowIn (k:=k) 1 rfl (by omega) (by omega)) ((hV.p i (by omega) (by omega)).below hS.below)) ?_;rintro _ w ⟨rfl,hS'⟩
    replace hS:=hS.cmp hS';clear hS'
    refine⟨⟨fun _=>hS,hS⟩,?_⟩
    refine zdd<|ztn ?_
    refine zcif ?_ ?_<;>intro hc
    ·
     refine zrg ?_
     refine zs2 ?_
     refine zx10 ?_
     refine zlv xmv ?_
     refine zlv (xadd (r:=k+1)) ?_
     refine zlv xas ?_
     refine zln<|zlq ⟨k,k+1,rfl,(by omega),(by omega),?_,rfl,hS⟩
     ·
      first|exact .inr ⟨k0,by omega,(Xy hsk hli0).1 ‹_›⟩|(rcases hat with⟨q1,q2⟩|q;exact .inl ⟨q1,fun j j0 j1=>by
        rcases Int.lt_or_eq_of_le (show j<=k by omega) with h9|h9
        · exact q2 j j0 h9
        · rw [h9];exact fun hh=>absurd ((Xy hsk hli0).2 hh) ‹_›⟩;exact .inr q)
    refine zx4 ?_
    refine zlv xmv ?_
    refine zlv (xadd (r:=k+1)) ?_
    refine zlv xas ?_
    refine zln<|zlq ⟨at6,k+1,rfl,(by omega),(by omega),?_,rfl,hS⟩
    ·
     first|exact .inr ⟨k0,by omega,(Xy hsk hli0).1 ‹_›⟩|(rcases hat with⟨q1,q2⟩|q;exact .inl ⟨q1,fun j j0 j1=>by
       rcases Int.lt_or_eq_of_le (show j<=k by omega) with h9|h9
       · exact q2 j j0 h9
       · rw [h9];exact fun hh=>absurd ((Xy hsk hli0).2 hh) ‹_›⟩;exact .inr q)
   refine zxt<|ztx<|ztx<|zbh<|ztn<|zsq<|zsr ?_
   refine zs2 ?_
   refine zlv (xln sl_25 hwcS) ?_
   refine zlv xeql ?_
   refine zlt ?_
   refine zcif ?_ ?_<;>intro hc
   ·
    refine zrg ?_
    refine zlv xmv ?_
    refine zla (xl0 (c:=ints (pt i)) sl_22 hS) ?_;rintro v1 w ⟨hS,hv1⟩
    replace hS:=hS.n3
    refine zs2 ?_
    refine zlv (xix (kk:=2*i) sl_25 hV.row.slh) ?_
    refine zlv (xfc (kk:=2*i) Yi hV.row.slh) ?_
    refine zlv (xlr (u:=(pv i)) pl_22 (hV.row.below hS.below) (e:=(Yh pv cnt (by omega)))) ?_
    refine zla (xap 2 (r:=(ln i)) (f:=ints (pt i)) sl_22 ZG hS ((hV.p i (by omega) (by omega)).below hS.below) (by exact Um _ _)) ?_;rintro v2 w ⟨hS,hv2⟩
    replace hS:=hS.n3
    refine zlv (xany (v:= .agg #[v2,.int .i64 0]) (hr:=by obtain⟨_,_,_,_,rfl,_⟩:=hv2;kernel_rfl)) ?_
    refine zla (xli (n:=1) (len:=1) (pv:= [(0,.agg #[v2,.int .i64 0])]) (cs:= [v2,.int .i64 0]) (c:=Zf (fun _=>v2) (fun _=>0)) sl_25 Y0 hS (hf:=by obtain⟨_,_,_,_,rfl,_⟩:=hv2;kernel_rfl)) ?_;rintro v3 w ⟨hS,hv3⟩
    replace hS:=hS.n4
    refine zla (xap 0 (r:=nC+1) sl_25 Y0 hS (hS.rowN 3 rfl) (Xl _ _ _ _ _) (h1:=fun k _ _=>ZA (fun _=>hv2.one) k)) ?_;rintro v4 w ⟨hS,hv4⟩
    replace hS:=hS.n4
    replace hS:=Sat.merge (l1:= [_]) (l2:= []) (l3:= [_]) hS (by omega)
    have hrs2:=fun k (k0:0<=k) (k1:k<nC+1)=>hS.slhIn 1 rfl k0 k1
    replace hS:=hS.n3
    refine zlv xas ?_
    refine zlt ?_
    refine zdst [0,1,2] [1,2] 13 mx_ hS ?_;clear hS;intro w hS
    refine zDrv 0 xmv ?_
    refine zDrv 1 xmv ?_
    refine zDrv 2 (xix (kk:=2*at6) sl_25 hv4) ?_
    have hbr:at6<nC->1<=cC at6/\cC at6<=1000*i:=fun h=>hbc at6 (by omega) h
    have hbr2:at6=nC->Z5 cC nC 0 at6=0:=fun h=>ZI (by omega)
    refine zDrv 3 (xfc (kk:=2*at6+1) ZU hv4) ?_
    refine zdl 4 (fun w hS=>(xlr (u:= .int .i64 ((Z5 cC nC 0) at6)) pl_3 (hS.rowN 0 rfl) (e:=(Z0 (gsn wv nC v2) (Z5 cC nC 0) (by omega))))) ?_
    refine zDrv 5 xmv ?_
    refine zDrv 6 xmv ?_
    refine zDrv 7 (xix (kk:=2*i) sl_25 hV.row.slh) ?_
    refine zDrv 8 (xfc (kk:=2*i+1) ZU hV.row.slh) ?_
    refine zdla 9 (fun w hS=>(xlr (u:= .int .i64 (cnt i)) pl_3 (hV.row.below hS.below) (e:=(Z0 pv cnt (by omega))))) ?_
    refine zDrv 10 (xadd (r:=((Z5 cC nC 0) at6)+(cnt i))) ?_
    refine zDrv 11 (xix (kk:=2*at6) sl_25 hv4) ?_
    refine zDrv 12 (xfc (kk:=2*at6+1) ZU hv4) ?_
    refine zde 13 (xso 0 pl_3 hS (XU (k:=2*at6+1) (i:=at6) _ _ (by omega))) ?_;clear hS;rintro w hS
    replace hS:=hS.n3
    refine⟨⟨fun h=>absurd h (by decide),hS.pk [1,2]⟩,?_⟩
    refine zdd<|zbn<|ztn<|zrg ?_
    refine zlv xmv ?_
    refine zlv (xadd (r:=i+1)) ?_
    refine zlv xas ?_
    refine zln<|zlq ⟨nC+1,gsn wv nC v2,gsn lC nC (ln i),gsn gC nC (pt i),(upd (Z5 cC nC 0) at6 (((Z5 cC nC 0) at6)+(cnt i))),i+1,v4,rfl,(by omega),(by omega),(by omega),?_,?_,?_,?_,rfl,hS.pk [0,1]⟩
    ·
     first|exact WQ hnC0 h0 hs (by omega) (fun j j0 j1=>(hat.resolve_right (fun h=>absurd h.2.1 (by omega))).2 j j0 (by omega))|(have hr9:=hat.resolve_left (fun h=>absurd h.1 (by omega));exact Td h0 hs hr9.1 hr9.2.1 hr9.2.2 (VX hs hr9.1 hr9.2.1 hr9.2.2))
    ·
     first|exact Tg hbc (by omega) (by omega) (by omega) (by omega)|exact Zax hbc (by omega) (by omega) (by omega)
    ·
     first|exact hone|exact X5 hone ‹Slh _ _›.one
    ·
     exact hv4
   refine zsk<|ztn ?_
   refine zdst [0,1] [1] 13 mx_ hS ?_;clear hS;intro w hS
   refine zDrv 0 xmv ?_
   refine zDrv 1 xmv ?_
   refine zDrv 2 (xix (kk:=2*at6) sl_25 hwcS) ?_
   have hbr:at6<nC->1<=cC at6/\cC at6<=1000*i:=fun h=>hbc at6 (by omega) h
   have hbr2:at6=nC->Z5 cC nC 0 at6=0:=fun h=>ZI (by omega)
   refine zDrv 3 (xfc (kk:=2*at6+1) ZU hwcS) ?_
   refine zdl 4 (fun w hS=>(xlr (u:= .int .i64 (cC at6)) pl_3 (hS.rowN 0 rfl) (e:=(Z0 wv cC (by omega))))) ?_
   refine zDrv 5 xmv ?_
   refine zDrv 6 xmv ?_
   refine zDrv 7 (xix (kk:=2*i) sl_25 hV.row.slh) ?_
   refine zDrv 8 (xfc (kk:=2*i+1) ZU hV.row.slh) ?_
   refine zdla 9 (fun w hS=>(xlr (u:= .int .i64 (cnt i)) pl_3 (hV.row.below hS.below) (e:=(Z0 pv cnt (by omega))))) ?_
   refine zDrv 10 (xadd (r:=(cC at6)+(cnt i))) ?_
   refine zDrv 11 (xix (kk:=2*at6) sl_25 hwcS) ?_
   refine zDrv 12 (xfc (kk:=2*at6+1) ZU hwcS) ?_
   refine zde 13 (xso 0 pl_3 hS (XU (k:=2*at6+1) (i:=at6) _ _ (by omega))) ?_;clear hS;rintro w hS
   replace hS:=hS.n2
   refine⟨⟨fun h=>absurd h (by decide),hS.pk [1]⟩,?_⟩
   refine zdd<|zbn<|ztn<|zrg ?_
   refine zlv xmv ?_
   refine zlv (xadd (r:=i+1)) ?_
   refine zlv xas ?_
   refine zln<|zlq ⟨nC,wv,lC,gC,(upd cC at6 ((cC at6)+(cnt i))),i+1,wcS,rfl,(by omega),(by omega),(by omega),?_,?_,?_,?_,rfl,hS⟩
   ·
    first|exact WQ hnC0 h0 hs (by omega) (fun j j0 j1=>(hat.resolve_right (fun h=>absurd h.2.1 (by omega))).2 j j0 (by omega))|(have hr9:=hat.resolve_left (fun h=>absurd h.1 (by omega));exact Td h0 hs hr9.1 hr9.2.1 hr9.2.2 (VX hs hr9.1 hr9.2.1 hr9.2.2))
   ·
    first|exact Tg hbc (by omega) (by omega) (by omega) (by omega)|exact Zax hbc (by omega) (by omega) (by omega)
   ·
    first|exact hone|exact X5 hone ‹Slh _ _›.one
   ·
    exact hwcS
  refine zxt<|ztx<|ztx<|zbh<|ztn<|zsq<|zsr ?_
  refine zlv xas ?_
  refine zx6 ?_
  have hiu:i=u:=by omega
  rw [hiu] at hs hbc
  replace hS:=hS.addnil 2 34 (Zf (fun q=>wv ((fun _=>(0:Int)) q)) (fun q=>cC ((fun _=>(0:Int)) q)))
  replace hS:=hS.n3
  refine zlp (fun mm M w=>∃(s3:Int->Int) (i3:Int) (wO:Value),mm=((nC-i3).toNat)/\(0<=i3)/\(i3<=nC)/\(∀k,0<=k->k<i3->0<=s3 k/\s3 k<i3)/\(∀j k,0<=j->j<i3->0<=k->k<i3->s3 j=s3 k->j=k)/\(Srt (Uy lC gC) 0 i3 s3)/\((plL i3 (fun k=>lC (s3 k)) (fun k=>gC (s3 k)) (fun k=>cC (s3 k))).Perm (plL i3 lC gC cC))/\(Slh wO i3)/\M= [(2,.slice none 0 0),(3,wcS),(4,wO),(8,.int .i64 i3)]/\Sat w0 w [.own wcS 2 34 nC (Zf wv cC),.sem (Frame.rows 3 nC wv lC gC),.own wO 2 34 i3 (Zf (fun q=>wv (s3 q)) (fun q=>cC (s3 q)))]) ⟨(fun _=>(0:Int)),0,(.slice none 0 0),rfl,(by omega),(by omega),?_,?_,?_,?_,?_,rfl,hS⟩ ?_
  ·
   intro k k0 k1;omega
  ·
   intro j k j0 j1;omega
  ·
   intro i j i0 ij j1;omega
  ·
   exact List.Perm.refl _
  ·
   exact slh_nil
  clear hS w
  rintro mm M w ⟨s3,i3,wO,rfl,i30,i31,hr3,hj3,ho3,hp3,hwO,rfl,hS⟩
  refine zsq<|zsr ?_
  refine zs2 ?_
  refine zlv (xln sl_25 hwcS) ?_
  refine zlv Zk ?_
  refine zlt ?_
  refine zcif ?_ ?_<;>intro hc
  ·
   refine zsk<|ztn<|zsq<|zbk<|zsq<|zsr ?_
   refine zs2 ?_
   refine zlv (xix (kk:=2*i3) sl_25 hwcS) ?_
   have hb3:=hbc i3 i30 (by omega)
   refine zlv (xfc (kk:=2*i3+1) ZU hwcS) ?_
   refine zlv (xlr (u:= .int .i64 (cC i3)) pl_3 (hS.rowN 0 rfl) (e:=(Z0 wv cC (by omega)))) ?_
   refine zlv (xkf Zk) ?_
   refine zlt<|zcf<|zsk<|ztn<|zsr ?_
   refine zlv xmv ?_
   refine zlv (xln sl_25 hwO) ?_
   refine zlv xas ?_
   refine zlt<|zsq<|zbk<|zlp (fun mm M w=>∃(a4:Int),mm=((a4).toNat)/\(0<=a4)/\(a4<=i3)/\(∀k,a4<=k->k<i3->Uy lC gC i3 (s3 k))/\M= [(2,.slice none 0 0),(3,wcS),(4,wO),(8,.int .i64 i3),(9,.int .i64 a4)]/\Sat w0 w [.own wcS 2 34 nC (Zf wv cC),.sem (Frame.rows 3 nC wv lC gC),.own wO 2 34 i3 (Zf (fun q=>wv (s3 q)) (fun q=>cC (s3 q)))]) ⟨i3,rfl,(by omega),(by omega),?_,rfl,hS⟩ ?_
   ·
    intro k k0 k1;omega
   clear hS w
   rintro mm M w ⟨a4,rfl,a40,a41,ha4,rfl,hS⟩
   refine zsq<|zsq ?_
   refine zdst [0,1,2] [0,1,2] 1000 mx_ hS ?_;clear hS;intro w hS
   refine zDrv 0 xmv ?_
   refine zDrv 1 xgtr ?_
   refine zDrv 2 xmv ?_
   refine zdb 80 ?_ ?_<;>intro hc
   ·
    refine zDrv 3 xmv ?_
    refine zDrv 4 xmv ?_
    refine zDrv 5 (xix (kk:=2*i3) sl_25 hwcS) ?_
    refine zDrv 6 (xfc (kk:=2*i3) Yi hwcS) ?_
    refine zdla 7 (fun w hS=>(xlr (u:=(wv i3)) pl_22 (hS.rowN 0 rfl) (e:=(Yh wv cC (by omega))))) ?_
    refine zDrv 8 xmv ?_
    refine zDrv 9 xmv ?_
    refine zDrv 10 (xsub (r:=a4-1)) ?_
    have hr4:=hr3 (a4-1) (by omega) (by omega)
    refine zDrv 11 (xix (kk:=2*a4-2) sl_25 hwO) ?_
    refine zDrv 12 (xfc (kk:=2*a4-2) Yi hwO) ?_
    refine zdla 13 (fun w hS=>(xlr (u:=(wv (s3 (a4-1)))) pl_22 (hS.rowN 2 rfl) (e:=(Yh (fun q=>wv (s3 q)) (fun q=>cC (s3 q)) (by omega))))) ?_
    refine zdc 14 (xc0 Zcf) (Zam (n:=(lC i3)) (f:=(gC i3)) (m:=(lC (s3 (a4-1)))) (g:=(gC (s3 (a4-1)))) w (hS.rowIn (k:=i3) 1 rfl (by omega) (by omega)) (hS.rowIn (k:=(s3 (a4-1))) 1 rfl (by omega) (by omega))) ?_;rintro _ w ⟨rfl,hS'⟩
    replace hS:=hS.cmp hS';clear hS'
    refine⟨⟨fun _=>hS,hS⟩,?_⟩
    refine zDrv 15 xpt ?_
    refine zdd<|ztn ?_
    refine zcif ?_ ?_<;>intro hc
    ·
     refine zsk<|ztn<|zbk<|zrg ?_
     refine zlv xmv ?_
     refine zlv (xsub (r:=a4-1)) ?_
     refine zlv xas ?_
     refine zln<|zbn<|zlq ⟨a4-1,rfl,(by omega),(by omega),?_,rfl,hS⟩
     ·
      intro k k0 k1;rcases Int.lt_or_eq_of_le (show a4-1<=k by omega) with h9|h9
      · exact ha4 k (by omega) k1
      · rw [<-h9];assumption
    refine zxt<|ztx<|ztx<|zbh<|ztn ?_
    refine zdst [0,1,2] [0,1,2] 1000 mx_ hS ?_;clear hS;intro w hS
    refine zDrv 0 xmv ?_
    refine zDrv 1 xmv ?_
    refine zDrv 2 xmv ?_
    refine zDrv 3 (xsl_cap (i:=a4) (a4).toNat sl_25 hwO (hS.holds _ (List.mem_of_getElem? (i:=2) rfl)).roomy (hS.holds _ (List.mem_of_getElem? (i:=2) rfl)).flat) ?_
    refine zDrv 4 xmv ?_
    refine zDrv 5 xmv ?_
    refine zDrv 6 (xix (kk:=2*i3) sl_25 hwcS) ?_
    refine zdla 7 (fun w hS=>(xlw (cs:= [(wv i3),.int .i64 (cC i3)]) U2 (hS.rowN 0 rfl) (Y7 (k:=2*i3) (i:=i3) wv cC (by omega)))) ?_
    refine zDrv 9 xmv ?_
    refine zDrv 10 xmv ?_
    refine zDrv 11 (UX (i:=a4) (a4).toNat sl_25 hwO (hS.holds _ (List.mem_of_getElem? (i:=2) rfl)).flat) ?_
    refine zda 8 (xli (n:=1) (len:=1) (pv:= [(0,.agg #[(wv i3),.int .i64 (cC i3)])]) (cs:= [(wv i3),.int .i64 (cC i3)]) (c:=Zf (fun _=>(wv i3)) (fun _=>(cC i3))) sl_25 Y0 hS (hf:=by have hz:=(hrs1 i3 (by omega) (by omega));revert hz;generalize (wv i3)=z;rintro⟨_,_,_,_,rfl,_⟩;show _=_;kernel_rfl)) ?_;rintro v5 w ⟨hS,hv5⟩
    replace hS:=hS.n4
    refine⟨⟨fun _=>hS.pk [0,1,2],hS.pk [0,1,2]⟩,?_⟩
    refine zda 12 (xap 3 (r:=i3-a4+1) (f:=cat (1*2) (Zf (fun _=>(wv i3)) (fun _=>(cC i3))) (fun k=>(Zf (fun q=>wv (s3 q)) (fun q=>cC (s3 q))) (k+a4*2))) sl_25 Y0 hS (VL (q:=(a4).toNat) (i:=a4) (m:=i3-a4) (hS.rowN 2 rfl) (hS.holds _ (List.mem_of_getElem? (i:=2) rfl)).roomy (by omega) (by omega) (by omega) (fun _ _=>rfl)) rfl (h1:=(fun k _ _=>ZA (fun q=>hone (s3 q)) _))) ?_;rintro v6 w ⟨hS,hv6⟩
    replace hS:=hS.n4
    refine⟨⟨fun _=>hS.pk [0,1,2],hS.pk [0,1,2]⟩,?_⟩
    refine zda 13 (ZbM (q:=(a4).toNat) (r:=i3+1) (f:=Zf (fun q=>wv (Ya s3 a4 i3 q)) (fun q=>cC (Ya s3 a4 i3 q))) sl_25 Y0 hS (Tv (q:=(a4).toNat) (i:=a4) (hS.rowN 2 rfl) (by omega) (by omega)) (hS.rowN 3 rfl) (fun k _ _=>ZA (fun q=>hone (s3 q)) k) (fun k _ _=>Tu (fun k=>ZA (fun _=>hone i3) k) (fun k=>ZA (fun q=>hone (s3 q)) _) k) (by rw [show a4+(i3-a4+1)=i3+1 by omega];exact WS (by omega) (by omega)) (by omega)) ?_;rintro v7 w ⟨hS,hv7⟩
    replace hS:=hS.n5
    refine⟨⟨fun _=>hS.pk [0,1,2],hS.pk [0,1,2]⟩,?_⟩
    refine zDrv 14 xas ?_
    refine zdd<|zbn<|ztn<|zrg ?_
    refine zlv xmv ?_
    refine zlv (xadd (r:=i3+1)) ?_
    refine zlv xas ?_
    refine zln<|zlq ⟨(Ya s3 a4 i3),i3+1,v7,rfl,(by omega),(by omega),?_,?_,?_,?_,?_,rfl,hS.pk [0,1,4]⟩
    ·
     exact V2 (by omega) (by omega) hr3
    ·
     exact V3 (by omega) (by omega) hr3 hj3
    ·
     exact V1 hs (by omega) (by omega) (by omega) hr3 ho3 (by first|exact .inl (by omega)|exact .inr ‹_›) ha4
    ·
     exact VW (by omega) (by omega) hp3
    ·
     exact hv7
   refine zdof 3 ?_
   refine zdof 4 ?_
   refine zdof 5 ?_
   refine zdof 6 ?_
   refine zdof 7 ?_
   refine zdof 8 ?_
   refine zdof 9 ?_
   refine zdof 10 ?_
   refine zdof 11 ?_
   refine zdof 12 ?_
   refine zdof 13 ?_
   refine zdof 14 ?_
   refine zDrv 15 xpf ?_
   refine zdd<|ztn<|zcf<|zxt<|ztx<|ztx<|zbh<|ztn ?_
   refine zdst [0,1,2] [0,1,2] 1000 mx_ hS ?_;clear hS;intro w hS
   refine zDrv 0 xmv ?_
   refine zDrv 1 xmv ?_
   refine zDrv 2 xmv ?_
   refine zDrv 3 (xsl_cap (i:=a4) (a4).toNat sl_25 hwO (hS.holds _ (List.mem_of_getElem? (i:=2) rfl)).roomy (hS.holds _ (List.mem_of_getElem? (i:=2) rfl)).flat) ?_
   refine zDrv 4 xmv ?_
   refine zDrv 5 xmv ?_
   refine zDrv 6 (xix (kk:=2*i3) sl_25 hwcS) ?_
   refine zdla 7 (fun w hS=>(xlw (cs:= [(wv i3),.int .i64 (cC i3)]) U2 (hS.rowN 0 rfl) (Y7 (k:=2*i3) (i:=i3) wv cC (by omega)))) ?_
   refine zDrv 9 xmv ?_
   refine zDrv 10 xmv ?_
   refine zDrv 11 (UX (i:=a4) (a4).toNat sl_25 hwO (hS.holds _ (List.mem_of_getElem? (i:=2) rfl)).flat) ?_
   refine zda 8 (xli (n:=1) (len:=1) (pv:= [(0,.agg #[(wv i3),.int .i64 (cC i3)])]) (cs:= [(wv i3),.int .i64 (cC i3)]) (c:=Zf (fun _=>(wv i3)) (fun _=>(cC i3))) sl_25 Y0 hS (hf:=by have hz:=(hrs1 i3 (by omega) (by omega));revert hz;generalize (wv i3)=z;rintro⟨_,_,_,_,rfl,_⟩;show _=_;kernel_rfl)) ?_;rintro v8 w ⟨hS,hv8⟩
   replace hS:=hS.n4
   refine⟨⟨fun _=>hS.pk [0,1,2],hS.pk [0,1,2]⟩,?_⟩
   refine zda 12 (xap 3 (r:=i3-a4+1) (f:=cat (1*2) (Zf (fun _=>(wv i3)) (fun _=>(cC i3))) (fun k=>(Zf (fun q=>wv (s3 q)) (fun q=>cC (s3 q))) (k+a4*2))) sl_25 Y0 hS (VL (q:=(a4).toNat) (i:=a4) (m:=i3-a4) (hS.rowN 2 rfl) (hS.holds _ (List.mem_of_getElem? (i:=2) rfl)).roomy (by omega) (by omega) (by omega) (fun _ _=>rfl)) rfl (h1:=(fun k _ _=>ZA (fun q=>hone (s3 q)) _))) ?_;rintro v9 w ⟨hS,hv9⟩
   replace hS:=hS.n4
   refine⟨⟨fun _=>hS.pk [0,1,2],hS.pk [0,1,2]⟩,?_⟩
   refine zda 13 (ZbM (q:=(a4).toNat) (r:=i3+1) (f:=Zf (fun q=>wv (Ya s3 a4 i3 q)) (fun q=>cC (Ya s3 a4 i3 q))) sl_25 Y0 hS (Tv (q:=(a4).toNat) (i:=a4) (hS.rowN 2 rfl) (by omega) (by omega)) (hS.rowN 3 rfl) (fun k _ _=>ZA (fun q=>hone (s3 q)) k) (fun k _ _=>Tu (fun k=>ZA (fun _=>hone i3) k) (fun k=>ZA (fun q=>hone (s3 q)) _) k) (by rw [show a4+(i3-a4+1)=i3+1 by omega];exact WS (by omega) (by omega)) (by omega)) ?_;rintro v10 w ⟨hS,hv10⟩
   replace hS:=hS.n5
   refine⟨⟨fun _=>hS.pk [0,1,2],hS.pk [0,1,2]⟩,?_⟩
   refine zDrv 14 xas ?_
   refine zdd<|zbn<|ztn<|zrg ?_
   refine zlv xmv ?_
   refine zlv (xadd (r:=i3+1)) ?_
   refine zlv xas ?_
   refine zln<|zlq ⟨(Ya s3 a4 i3),i3+1,v10,rfl,(by omega),(by omega),?_,?_,?_,?_,?_,rfl,hS.pk [0,1,4]⟩
   ·
    exact V2 (by omega) (by omega) hr3
   ·
    exact V3 (by omega) (by omega) hr3 hj3
   ·
    exact V1 hs (by omega) (by omega) (by omega) hr3 ho3 (by first|exact .inl (by omega)|exact .inr ‹_›) ha4
   ·
    exact VW (by omega) (by omega) hp3
   ·
    exact hv10
  refine zx8 ?_
  refine zs2 ?_
  refine zx1<|zf1 ⟨_,rfl,?_⟩
  have hiN:i3=nC:=by omega
  rw [hiN] at hr3 hj3 ho3 hp3
  replace hS:=hS.pmrowsJ 1 hr3 hj3
  exact⟨_,nC,_,_,_,_,rfl,NormR.of_ins hs hp3 ho3,by omega,by omega,fun k k0 k1=>hbc (s3 k) (hr3 k k0 k1).1 (hr3 k k0 k1).2,(by rw [<-hiN];exact hwO),(by rw [<-hiN] at hS⊢;exact hS.pk [2,1])⟩
end Go.Proofs.Ytopmifmfecfaaaa
namespace Go.Proofs.Ytopmifmfecfaaaa
open Go Go.RowKit Go.Proofs.Gw
set_option maxRecDepth 20000 in
theorem R2{vV:Value}{u:Int}{pv:Int->Value}{ln:Int->Int}{pt:Int->Int->Int}{cnt:Int->Int}{vL vD:Value}{p:Prob}(w0:World)(hV:VAt w0 vV u pv ln pt cnt)(h:PAt w0 vL vD p):
    Calls Try.prog 67 [.agg #[vL,vD,.int .i64 p.stock,.int .i64 p.kerf],vV].toArray w0 fun e w=>∃v,e= .returned v/\v=B (PlanOk p u ln pt cnt)/\Sat w0 w []:=by
  have hm:=h.L.slh.n0;have hm1:=h.L.slh.n1;have hd:=h.D.slh.n0;have hd1:=h.D.slh.n1;have hs:=h.is;have hk:=h.ik
  have hu:=hV.row.slh.n0;have hu1:=hV.row.slh.n1
  refine Zn Try.func67 Try.ntmps67 fun w hS=> ?_
  refine zsr ?_
  refine zla (xbx (cs:= [_,_,_,_]) hS) ?_;rintro _ w ⟨g1,rfl,hS⟩
  replace hS:=hS.n1
  refine zlv xas ?_
  refine zx5 ?_
  refine zlv (xls 0 st_24 hS) ?_
  refine zlc (xc0 cl_10) (c_rvalid28 (p:=p) w (h.below hS.below)) ?_;rintro _ w ⟨rfl,hS'⟩
  replace hS:=hS.cmp hS';clear hS'
  refine zs2 ?_
  refine zlb 9 ?_ ?_<;>intro hc
  ·
   iterate 3 refine zlo ?_
   refine zlv xpt ?_
   refine zlt<|zct<|zsr ?_
   refine zlv xas ?_
   refine zx14<|zf1 ⟨_,rfl,?_⟩
   refine⟨Zc (fun hh=> ?_),hS.nl⟩
   first
   |exact absurd hh.1 ‹¬p.Ok›
   |(have:=hh.2.1;omega)
   |(have h9:=hh.2.2 i h0 (by omega);first|exact absurd h9.2.2 ‹_›|omega)
  refine zlv xmv ?_
  refine zlv (xln sl_25 hV.row.slh) ?_
  refine zs2 ?_
  refine zlt ?_
  refine zcif ?_ ?_<;>intro hc
  ·
   refine zsr ?_
   refine zlv xas ?_
   refine zx14<|zf1 ⟨_,rfl,?_⟩
   refine⟨Zc (fun hh=> ?_),hS.nl⟩
   first
   |exact absurd hh.1 ‹¬p.Ok›
   |(have:=hh.2.1;omega)
   |(have h9:=hh.2.2 i h0 (by omega);first|exact absurd h9.2.2 ‹_›|omega)
  refine zsk<|ztn<|zsq<|zsr ?_
  refine zlv xas ?_
  refine zx6 ?_
  have hok9:p.Ok:=by first|assumption|exact Classical.not_not.1 ‹_›
  refine zlp (fun mm M w=>∃(i:Int),mm=((u-i).toNat)/\(0<=i)/\(i<=u)/\(∀k,0<=k->k<i->1<=cnt k/\cnt k<=1000/\FitsP p (ln k) (pt k))/\M= [(1,vV),(2,.pointer (some ⟨g1,0,none⟩)),(5,.int .i64 i)]/\Sat w0 w [.blk g1 [vL,vD,.int .i64 p.stock,.int .i64 p.kerf]]) ⟨0,rfl,(by omega),(by omega),?_,rfl,hS⟩ ?_
  ·
   intro k h0 h1;omega
  clear hS w
  rintro mm M w ⟨i,rfl,h0,h1,hall,rfl,hS⟩
  refine zsq<|zsr ?_
  refine zs2 ?_
  refine zlv (xln sl_25 hV.row.slh) ?_
  refine zlv Zk ?_
  refine zlt ?_
  refine zcif ?_ ?_<;>intro hc
  ·
   refine zsk<|ztn<|zsq<|zbk<|zsq ?_
   refine zdst [0] [0] 1000 mx_ hS ?_;clear hS;intro w hS
   refine zdla 0 (fun w hS=>(xls 0 st_24 hS)) ?_
   refine zDrv 1 xmv ?_
   refine zDrv 2 xmv ?_
   refine zDrv 3 (xix (kk:=2*i) sl_25 hV.row.slh) ?_
   refine zDrv 4 (xfc (kk:=2*i) Yi hV.row.slh) ?_
   refine zdla 5 (fun w hS=>(xlr (u:=(pv i)) pl_22 (hV.row.below hS.below) (e:=(Yh pv cnt (by omega))))) ?_
   refine zdc 6 (xc0 Zb9) (ZbE (p:=p) w (h.below hS.below) ((hV.p i (by omega) (by omega)).below hS.below)) ?_;rintro _ w ⟨rfl,hS'⟩
   replace hS:=hS.cmp hS';clear hS'
   refine⟨⟨fun _=>hS,hS⟩,?_⟩
   refine zDrv 7 ZX ?_
   refine zDrv 8 xmv ?_
   refine zdb 28 ?_ ?_<;>intro hc
   ·
    refine zdof 9 ?_
    refine zdof 10 ?_
    refine zdof 11 ?_
    refine zdof 12 ?_
    refine zdof 13 ?_
    refine zdof 14 ?_
    refine zDrv 15 xpt ?_
    refine zDrv 16 xmv ?_
    refine zdof 17 ?_
    refine zdof 18 ?_
    refine zdof 19 ?_
    refine zdof 20 ?_
    refine zdof 21 ?_
    refine zdof 22 ?_
    refine zDrv 23 xpt ?_
    refine zdd<|ztn<|zct<|zsr ?_
    refine zlv xas ?_
    refine zx2<|zf1 ⟨_,rfl,?_⟩
    refine⟨Zc (fun hh=> ?_),hS.nl⟩
    first
    |exact absurd hh.1 ‹¬p.Ok›
    |(have:=hh.2.1;omega)
    |(have h9:=hh.2.2 i h0 (by omega);first|exact absurd h9.2.2 ‹_›|omega)
   refine zDrv 9 xmv ?_
   refine zDrv 10 xmv ?_
   refine zDrv 11 (xix (kk:=2*i) sl_25 hV.row.slh) ?_
   refine zDrv 12 (xfc (kk:=2*i+1) ZU hV.row.slh) ?_
   refine zdla 13 (fun w hS=>(xlr (u:= .int .i64 (cnt i)) pl_3 (hV.row.below hS.below) (e:=(Z0 pv cnt (by omega))))) ?_
   refine zDrv 14 Zk ?_
   refine zDrv 15 xpf ?_
   refine zDrv 16 xmv ?_
   refine zdb 36 ?_ ?_<;>intro hc
   ·
    refine zdof 17 ?_
    refine zdof 18 ?_
    refine zdof 19 ?_
    refine zdof 20 ?_
    refine zdof 21 ?_
    refine zdof 22 ?_
    refine zDrv 23 xpt ?_
    refine zdd<|ztn<|zct<|zsr ?_
    refine zlv xas ?_
    refine zx2<|zf1 ⟨_,rfl,?_⟩
    refine⟨Zc (fun hh=> ?_),hS.nl⟩
    first
    |exact absurd hh.1 ‹¬p.Ok›
    |(have:=hh.2.1;omega)
    |(have h9:=hh.2.2 i h0 (by omega);first|exact absurd h9.2.2 ‹_›|omega)
   refine zDrv 17 xmv ?_
   refine zDrv 18 xmv ?_
   refine zDrv 19 (xix (kk:=2*i) sl_25 hV.row.slh) ?_
   refine zDrv 20 (xfc (kk:=2*i+1) ZU hV.row.slh) ?_
   refine zdla 21 (fun w hS=>(xlr (u:= .int .i64 (cnt i)) pl_3 (hV.row.below hS.below) (e:=(Z0 pv cnt (by omega))))) ?_
   refine zDrv 22 xgtr ?_
   refine zDrv 23 xpf ?_
   refine zdd<|ztn ?_
   refine zcif ?_ ?_<;>intro hc
   ·
    refine zsr ?_
    refine zlv xas ?_
    refine zx2<|zf1 ⟨_,rfl,?_⟩
    refine⟨Zc (fun hh=> ?_),hS.nl⟩
    first
    |exact absurd hh.1 ‹¬p.Ok›
    |(have:=hh.2.1;omega)
    |(have h9:=hh.2.2 i h0 (by omega);first|exact absurd h9.2.2 ‹_›|omega)
   refine zx4 ?_
   refine zlv xmv ?_
   refine zlv (xadd (r:=i+1)) ?_
   refine zlv xas ?_
   refine zln<|zlq ⟨i+1,rfl,(by omega),(by omega),?_,rfl,hS⟩
   ·
    intro k h0' h1';rcases Int.lt_or_eq_of_le (show k<=i by omega) with hk|hk;exact hall k h0' hk;rw [hk];exact⟨by omega,by omega,by first|assumption|exact Classical.not_not.1 ‹_›⟩
  refine zx8 ?_
  refine zlv xas ?_
  refine zx1<|zf1 ⟨_,rfl,?_⟩
  exact⟨ZW ⟨hok9,by omega,fun k k0 k1=>hall k k0 (by omega)⟩,hS.nl⟩
set_option maxHeartbeats 4000000 in
set_option maxRecDepth 20000 in
theorem Tx{vV:Value}{u:Int}{pv:Int->Value}{ln:Int->Int}{pt:Int->Int->Int}{cnt:Int->Int}{vL vD:Value}{p:Prob}(w0:World)(hV:VAt w0 vV u pv ln pt cnt)(h:PAt w0 vL vD p):
    Calls Try.prog 31 [.agg #[vL,vD,.int .i64 p.stock,.int .i64 p.kerf],vV].toArray w0 fun e w=>∃v,e= .returned v/\∃r n f e,v= .tuple #[r,.int .i64 e]/\((¬PlanOk p u ln pt cnt/\n=0/\e=1)\/(PlanOk p u ln pt cnt/\n=p.m/\f=Zs u pt cnt/\e=0))/\Slh r n/\Sat w0 w [.own r 1 3 n (ints f)]:=by
  have hm:=h.L.slh.n0;have hm1:=h.L.slh.n1;have hd:=h.D.slh.n0;have hd1:=h.D.slh.n1;have hs:=h.is;have hk:=h.ik
  have hu:=hV.row.slh.n0;have hu1:=hV.row.slh.n1
  refine Zn Try.func31 Try.ntmps31 fun w hS=> ?_
  refine zsr ?_
  refine zla (xbx (cs:= [_,_,_,_]) hS) ?_;rintro _ w ⟨g1,rfl,hS⟩
  replace hS:=hS.n1
  refine zs2 ?_
  refine zx5 ?_
  refine zlv (xls 0 st_24 hS) ?_
  refine zlv xmv ?_
  refine zlc (xc0 Zcg) (R2 (u:=u) (pv:=pv) (ln:=ln) (pt:=pt) (cnt:=cnt) (p:=p) w (hV.below hS.below) (h.below hS.below)) ?_;rintro _ w ⟨rfl,hS'⟩
  replace hS:=hS.cmp hS';clear hS'
  refine zlv ZX ?_
  refine zlt ?_
  refine zcif ?_ ?_<;>intro hc
  ·
   refine zsr ?_
   refine zs2 ?_
   refine zx14<|zf2 ⟨_,rfl,?_⟩
   exact⟨_,0,fun _=>0,1,rfl,.inl ⟨‹¬PlanOk p u ln pt cnt›,rfl,rfl⟩,slh_nil,(hS.sub (.cons _ .slnil)).addnil 1 3 (ints fun _=>0)⟩
  refine zsk<|ztn<|zsr ?_
  refine zlv (xfb 0 fd_24_0) ?_
  have hplo:PlanOk p u ln pt cnt:=by first|assumption|exact Classical.not_not.1 ‹_›
  have hpm1:=hplo.1.m1;have hpm2:=hplo.1.m2;have hu3:=hplo.2.1
  refine zlv (xlb 0 pl_22 hS) ?_
  refine zlv (xln sl_22 h.L.slh) ?_
  refine zla (xmk sl_22 ZG hS) ?_;rintro v1 w ⟨hS,hv1⟩
  replace hS:=hS.n2
  refine zlv xas ?_
  refine zx5 ?_
  refine zlv xas ?_
  refine zx6<|zlp (fun mm M w=>∃(f:Int->Int) (i:Int),mm=((u-i).toNat)/\(0<=i)/\(i<=u)/\(∀k,0<=k->k<p.m->f k=Zs i pt cnt k)/\M= [(1,vV),(4,.slice none 0 0),(5,.int .i64 0),(6,v1),(7,.int .i64 i)]/\Sat w0 w [.blk g1 [vL,vD,.int .i64 p.stock,.int .i64 p.kerf],.own v1 1 3 p.m (ints f)]) ⟨(fun _=>0),0,rfl,(by omega),(by omega),?_,rfl,hS⟩ ?_
  ·
   intro k _ _;rfl
  clear hS w
  rintro mm M w ⟨f,i,rfl,h0,h1,hf,rfl,hS⟩
  refine zsq<|zsr ?_
  refine zs2 ?_
  refine zlv (xln sl_25 hV.row.slh) ?_
  refine zlv Zk ?_
  refine zlt ?_
  refine zcif ?_ ?_<;>intro hc
  ·
   refine zx3 ?_
   refine zlv xas ?_
   refine zx6<|zlp (fun mm M w=>∃(f2:Int->Int) (j:Int),mm=((p.m-j).toNat)/\(0<=j)/\(j<=p.m)/\(∀k,0<=k->k<p.m->f2 k=(if k<j then Zs (i+1) pt cnt k else Zs i pt cnt k))/\M= [(1,vV),(4,.slice none 0 0),(5,.int .i64 0),(6,v1),(7,.int .i64 i),(8,.int .i64 j)]/\Sat w0 w [.blk g1 [vL,vD,.int .i64 p.stock,.int .i64 p.kerf],.own v1 1 3 p.m (ints f2)]) ⟨f,0,rfl,(by omega),(by omega),?_,rfl,hS⟩ ?_
   ·
    intro k k0 k1;rw [if_neg (by omega)];exact hf k k0 k1
   clear hS w
   rintro mm M w ⟨f2,j,rfl,j0,j1,hf2,rfl,hS⟩
   refine zsq<|zsr ?_
   refine zs2 ?_
   refine zlv (xln sl_22 hv1) ?_
   refine zlv Zk ?_
   refine zlt ?_
   refine zcif ?_ ?_<;>intro hc
   ·
    refine zsk<|ztn<|zsq<|zbk ?_
    refine zdst [0,1] [0] 20 mx_ hS ?_;clear hS;intro w hS
    refine zDrv 0 xmv ?_
    refine zDrv 1 xmv ?_
    refine zDrv 2 (xix (kk:=j) sl_22 hv1) ?_
    refine zdl 3 (fun w hS=>(xlr (u:= .int .i64 (f2 j)) pl_3 (hS.rowN 1 rfl))) ?_
    obtain⟨hq1,hq2,hq3⟩:=hplo.2.2 i h0 (by omega)
    have hq4:=hq3.eq
    have hpj:=hq3.all j j0 (by omega)
    have hmr:=WR hplo.2.2 h0 (by omega) (j:=j) j0 (by omega)
    have hfj:=hf2 j j0 (by omega)
    rw [if_neg (by omega)] at hfj
    have hmj:=Xx hpj.1 hpj.2 (show 0<=cnt i by omega) hq2
    refine zDrv 4 xmv ?_
    refine zDrv 5 xmv ?_
    refine zDrv 6 (xix (kk:=2*i) sl_25 hV.row.slh) ?_
    refine zDrv 7 (xfc (kk:=2*i) Yi hV.row.slh) ?_
    refine zdla 8 (fun w hS=>(xlr (u:=(pv i)) pl_22 (hV.row.below hS.below) (e:=(Yh pv cnt (by omega))))) ?_
    refine zDrv 9 xmv ?_
    refine zDrv 10 (xix (kk:=j) sl_22 (hV.p i (by omega) (by omega)).slh) ?_
    refine zdla 11 (fun w hS=>(xlr (u:= .int .i64 ((pt i) j)) pl_3 ((hV.p i (by omega) (by omega)).below hS.below))) ?_
    refine zDrv 12 xmv ?_
    refine zDrv 13 xmv ?_
    refine zDrv 14 (xix (kk:=2*i) sl_25 hV.row.slh) ?_
    refine zDrv 15 (xfc (kk:=2*i+1) ZU hV.row.slh) ?_
    refine zdla 16 (fun w hS=>(xlr (u:= .int .i64 (cnt i)) pl_3 (hV.row.below hS.below) (e:=(Z0 pv cnt (by omega))))) ?_
    refine zdv 17 (fun _=>(Xp (r:=(((pt i) j)*(cnt i))) (e:=rfl))) ?_
    refine zdv 18 (fun _=>(xadd (r:=f2 j+(((pt i) j)*(cnt i))))) ?_
    refine zDrv 19 (xix (kk:=j) sl_22 hv1) ?_
    refine zde 20 (xso 1 pl_3 hS (ZZ _ _ _)) ?_;clear hS;rintro w hS
    replace hS:=hS.n2
    refine⟨⟨fun h=>absurd h (by decide),hS.pk [0]⟩,?_⟩
    refine zdd<|zbn<|ztn<|zrg ?_
    refine zlv xmv ?_
    refine zlv (xadd (r:=j+1)) ?_
    refine zlv xas ?_
    refine zln<|zlq ⟨(upd f2 j (f2 j+(((pt i) j)*(cnt i)))),j+1,rfl,(by omega),(by omega),?_,rfl,hS⟩
    ·
     intro k k0 k1;unfold upd;by_cases e:k=j
     · rw [if_pos e,if_pos (by omega),e,Wj h0];omega
     · rw [if_neg e,hf2 k k0 k1];by_cases e2:k<j
       · rw [if_pos e2,if_pos (by omega)]
       · rw [if_neg e2,if_neg (by omega)]
   refine zxt<|ztx<|ztx<|zbh<|zbn<|ztn<|zrg ?_
   refine zlv xmv ?_
   refine zlv (xadd (r:=i+1)) ?_
   refine zlv xas ?_
   refine zln<|zlq ⟨f2,i+1,rfl,(by omega),(by omega),?_,rfl,hS⟩
   ·
    intro k k0 k1;rw [hf2 k k0 k1,if_pos (by omega)]
  refine zx8 ?_
  refine zs3 ?_
  refine zx1<|zf2 ⟨_,rfl,?_⟩
  have hiu:i=u:=by omega
  rw [hiu] at hf
  replace hS:=hS.recont 1 rfl (d:=ints (Zs u pt cnt)) (fun k k0 k1=>congrArg (Value.int .i64) (hf k k0 (by omega)))
  exact⟨_,_,_,0,rfl,.inr ⟨hplo,rfl,rfl,rfl⟩,hv1,hS.pk [1]⟩
set_option maxHeartbeats 4000000 in
set_option maxRecDepth 20000 in
theorem R3{vV:Value}{u:Int}{pv:Int->Value}{ln:Int->Int}{pt:Int->Int->Int}{cnt:Int->Int}{vL vD:Value}{p:Prob}(w0:World)(hV:VAt w0 vV u pv ln pt cnt)(h:PAt w0 vL vD p):
    Calls Try.prog 32 [.agg #[vL,vD,.int .i64 p.stock,.int .i64 p.kerf],vV].toArray w0 fun e w=>∃v,e= .returned v/\v=B (PlanOk p u ln pt cnt/\∀j,0<=j->j<p.m->p.D j<=Zs u pt cnt j)/\Sat w0 w []:=by
  have hm:=h.L.slh.n0;have hm1:=h.L.slh.n1;have hd:=h.D.slh.n0;have hd1:=h.D.slh.n1;have hs:=h.is;have hk:=h.ik
  refine Zn Try.func32 Try.ntmps32 fun w hS=> ?_
  refine zsr ?_
  refine zla (xbx (cs:= [_,_,_,_]) hS) ?_;rintro _ w ⟨g1,rfl,hS⟩
  replace hS:=hS.n1
  refine zlv xas ?_
  refine zlz ?_
  refine zlv (xls 0 st_24 hS) ?_
  refine zlv xmv ?_
  refine zlc (xc0 ZaD) (Tx (u:=u) (pv:=pv) (ln:=ln) (pt:=pt) (cnt:=cnt) (p:=p) w (hV.below hS.below) (h.below hS.below)) ?_;rintro _ w ⟨vdmd1,ndmd1,fdmd1,edmd1,rfl,hmdmd1,hvdmd1,hS'⟩
  replace hS:Sat w0 w [.blk g1 [vL,vD,.int .i64 p.stock,.int .i64 p.kerf],.own vdmd1 1 3 ndmd1 (ints fdmd1)]:=hS.comp hS';clear hS'
  refine zs5 ?_
  refine zx5 ?_
  refine zs2 ?_
  refine zlt ?_
  refine zcif ?_ ?_<;>intro hc
  ·
   refine zsr ?_
   refine zlv xas ?_
   refine zx14<|zf1 ⟨_,rfl,?_⟩
   refine⟨Zc ?_,hS.nl⟩
   first
   |(intro hh;have h9:=hh.2 i h0 (by omega);rw [<-hA3] at h9;omega)
   |(rcases hmdmd1 with⟨q1,_⟩|⟨_,_,_,q4⟩;exact fun hh=>q1 hh.1;omega)
  refine zsk<|ztn<|zsq<|zsr ?_
  refine zlv xas ?_
  refine zx6 ?_
  obtain⟨hA1,hA2,hA3⟩:PlanOk p u ln pt cnt/\ndmd1=p.m/\fdmd1=Zs u pt cnt:=by rcases hmdmd1 with⟨_,_,q3⟩|⟨q1,q2,q3,_⟩;omega;exact⟨q1,q2,q3⟩
  have hpd:=hA1.1.d
  refine zlp (fun mm M w=>∃(i:Int),mm=((ndmd1-i).toNat)/\(0<=i)/\(i<=ndmd1)/\(∀k,0<=k->k<i->p.D k<=fdmd1 k)/\M= [(2,.pointer (some ⟨g1,0,none⟩)),(5,vdmd1),(7,.int .i64 i)]/\Sat w0 w [.blk g1 [vL,vD,.int .i64 p.stock,.int .i64 p.kerf],.own vdmd1 1 3 ndmd1 (ints fdmd1)]) ⟨0,rfl,(by omega),(by omega),?_,rfl,hS⟩ ?_
  ·
   intro k h0 h1;omega
  clear hS w
  rintro mm M w ⟨i,rfl,h0,h1,hall,rfl,hS⟩
  refine zsq<|zsr ?_
  refine zs2 ?_
  refine zlv (xln sl_22 hvdmd1) ?_
  refine zlv Zk ?_
  refine zlt ?_
  refine zcif ?_ ?_<;>intro hc
  ·
   refine zsk<|ztn<|zsq<|zbk<|zsq ?_
   refine zdst [0,1] [0,1] 1000 mx_ hS ?_;clear hS;intro w hS
   refine zDrv 0 xmv ?_
   refine zDrv 1 xmv ?_
   refine zDrv 2 (xix (kk:=i) sl_22 hvdmd1) ?_
   refine zdla 3 (fun w hS=>(xlr (u:= .int .i64 (fdmd1 i)) pl_3 (hS.rowN 1 rfl))) ?_
   refine zDrv 4 (xfb 1 fd_24_1) ?_
   refine zdla 5 (fun w hS=>(xlb 0 pl_22 hS)) ?_
   refine zDrv 6 xmv ?_
   refine zDrv 7 (xix (kk:=i) sl_22 h.D.slh) ?_
   refine zdla 8 (fun w hS=>(xlr (u:= .int .i64 (p.D i)) pl_3 (h.D.below hS.below))) ?_
   have hbv:=h.iD i
   refine zDrv 9 Zk ?_
   refine zdd<|ztn ?_
   refine zcif ?_ ?_<;>intro hc
   ·
    refine zsr ?_
    refine zlv xas ?_
    refine zx2<|zf1 ⟨_,rfl,?_⟩
    refine⟨Zc ?_,hS.nl⟩
    first
    |(intro hh;have h9:=hh.2 i h0 (by omega);rw [<-hA3] at h9;omega)
    |(rcases hmdmd1 with⟨q1,_⟩|⟨_,_,_,q4⟩;exact fun hh=>q1 hh.1;omega)
   refine zx4 ?_
   refine zlv xmv ?_
   refine zlv (xadd (r:=i+1)) ?_
   refine zlv xas ?_
   refine zln<|zlq ⟨i+1,rfl,(by omega),(by omega),?_,rfl,hS⟩
   ·
    intro k h0' h1';rcases Int.lt_or_eq_of_le (show k<=i by omega) with hk|hk;exact hall k h0' hk;rw [hk];omega
  refine zx8 ?_
  refine zlv xas ?_
  refine zx1<|zf1 ⟨_,rfl,?_⟩
  refine⟨ZW ⟨hA1,fun j j0 j1=> ?_⟩,hS.nl⟩
  have:=hall j j0 (by omega);rw [hA3] at this;exact this
set_option maxRecDepth 20000 in
theorem c_vbars{vV:Value}{u:Int}{pv:Int->Value}{ln:Int->Int}{pt:Int->Int->Int}{cnt:Int->Int}(w0:World)(hV:VAt w0 vV u pv ln pt cnt)(hu6:u<=1000000)(hbc:∀k,0<=k->k<u->0<=cnt k/\cnt k<=1000000000):
    Calls Try.prog 15 [vV].toArray w0 fun e w=>∃v,e= .returned v/\v= .int .i64 (psum (fun _=>1) cnt u.toNat)/\Sat w0 w []:=by
  have hn:=hV.row.slh.n0;have hn1:=hV.row.slh.n1
  refine Zn Try.func15 Try.ntmps15 fun w hS=> ?_
  refine zsr ?_
  refine zlv xas ?_
  refine zlz ?_
  refine zlv xas ?_
  refine zx5 ?_
  refine zlv xas ?_
  refine zx6<|zlp (fun mm M w=>∃(s:Int) (i:Int),mm=((u-i).toNat)/\(0<=i)/\(i<=u)/\(s=psum (fun _=>1) cnt i.toNat)/\(0<=s/\s<=1000000000*i)/\M= [(0,vV),(2,.int .i64 0),(3,.int .i64 s),(4,.int .i64 i)]/\Sat w0 w []) ⟨0,0,rfl,(by omega),(by omega),?_,(by omega),rfl,hS⟩ ?_
  ·
   rfl
  clear hS w
  rintro mm M w ⟨s,i,rfl,h0,h1,hs9,hsb,rfl,hS⟩
  refine zsq<|zsr ?_
  refine zs2 ?_
  refine zlv (xln sl_25 hV.row.slh) ?_
  refine zlv Zk ?_
  refine zlt ?_
  refine zcif ?_ ?_<;>intro hc
  ·
   refine zsk<|ztn<|zsq<|zbk<|zrg ?_
   refine zs3 ?_
   refine zlv (xix (kk:=2*i) sl_25 hV.row.slh) ?_
   refine zlv (xfc (kk:=2*i+1) ZU hV.row.slh) ?_
   refine zlv (xlr (u:= .int .i64 (cnt i)) pl_3 (hV.row.below hS.below) (e:=(Z0 pv cnt (by omega)))) ?_
   have hci:=hbc i h0 (by omega)
   refine zlv (xadd (r:=s+(cnt i))) ?_
   refine zlv xas ?_
   refine zx10 ?_
   refine zlv xmv ?_
   refine zlv (xadd (r:=i+1)) ?_
   refine zlv xas ?_
   refine zln<|zlq ⟨s+(cnt i),i+1,rfl,(by omega),(by omega),?_,(by omega),rfl,hS⟩
   ·
    rw [Z3 _ _ h0,<-hs9];omega
  refine zx8 ?_
  refine zs2 ?_
  refine zx1<|zf1 ⟨_,rfl,?_⟩
  obtain rfl:i=u:=by omega
  exact⟨congrArg (Value.int .i64) hs9,hS⟩
end Go.Proofs.Ytopmifmfecfaaaa
