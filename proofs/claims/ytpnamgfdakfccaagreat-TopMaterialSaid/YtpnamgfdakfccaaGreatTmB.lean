import Derived.Test.YtpnamgfdakfccaaGreatTmA
import Derived.RangeFuncBox
import Derived.RangeFuncLeaves
import Derived.Shelf.Abstract
import Derived.WalkKit
import Derived.OwnWalkIn
import Derived.TacticsInMore
import Derived.LoopNIn
import Derived.LoopIn
import Derived.Maps.AppendAt
import Derived.Test.YtpnamgfdakfccaaGreatProg
set_option linter.unusedVariables false
set_option linter.unusedSimpArgs false
set_option maxRecDepth 20000
set_option maxHeartbeats 4000000
namespace Go.Proofs.YtpnamgfdakfccaaGreat
open Go Go.RowKit Go.Shelf
attribute [local go_sem] Oper.semAt_some
def It.upto{α:Type}(f:Nat->α)(k:Nat):List α:=(List.range k).map f
theorem It.upto_succ{α:Type}(f:Nat->α)(k:Nat):It.upto f (k+1)=It.upto f k++ [f k]:=by simp [It.upto,List.range_succ]
theorem It.upto_length{α:Type}(f:Nat->α)(k:Nat):(It.upto f k).length=k:=by simp [It.upto]
theorem It.upto_all(zs:List Int):It.upto (fun j=>zs[j]?.getD 0) zs.length=zs:=by
 apply List.ext_getElem
 · simp [It.upto]
 · intro i h1 h2
   simp [It.upto,h2]
set_option maxRecDepth 100000 in
theorem It.values1_in (F:Fence) (n:Nat) (h7:F.fn 294) (hro:F.round=none) (hn:1<=n) (l Bs n₀ b off len cap:Nat) (zs:List Int) (yR:len*8<=140737488351232) (hb:b<n₀) (J Jx:List Int->World->Prop)
   (hY:∀pre x W,J pre W->pre.length<len->YieldAt F (n-1) Om l #[.int Gw.Oi x] W fun e W'=>
     (e= .returned (.bool true)/\J (pre++ [x]) W'/\Below n₀ W W')\/(e= .returned (.bool false)/\Jx (pre++ [x]) W'))
   (W:World) (hBs:W.cell? ⟨Bs,0,none⟩=some (.slice (some ⟨b,off,none⟩) len cap)) (hc:∀j,j<len->W.cell? ⟨b,off+j,none⟩=some (.int Gw.Oi (zs[j]?.getD 0))) (h0:J [] W):
   CallsIn F n Om 294 #[.func (.yield l) #[] #[],Gw.Or Bs] W fun e W'=>(∃v,e= .returned v)/\
     ((∃ys,ys=It.upto (fun j=>zs[j]?.getD 0) len/\J ys W')\/(∃pre,(∃k,k<=len/\pre=It.upto (fun j=>zs[j]?.getD 0) k)/\Jx pre W')):=by
 refine callsIn_of_wp Tryz.func294 rfl h7 ?_ hro
 simp only [Tryz.ntmps294,List.size_toArray,List.length_cons,List.length_nil,Nat.reduceAdd,Nat.reduceSub,Array.replicate_succ,Array.replicate_zero,List.push_toArray,List.append_toArray,List.nil_append,List.cons_append]
 gi_wp2
 gi_loopw [7] (fun i wr=>∃k:Nat,k<=len/\i= .int Gw.Oi k/\J (It.upto (fun j=>zs[j]?.getD 0) k) wr/\Below n₀ W wr)
   (fun i _=>len-(intOf i).toNat)
 case atStart=>exact⟨0,Nat.zero_le _,rfl,h0,Below.refl _ _⟩
 case round=>
   obtain⟨k,hk,rfl,hJs,hnx⟩:=hrel
   have hcx:k<len->wr.cell? ⟨b,off+k,none⟩=some (.int Gw.Oi (zs[k]?.getD 0)):=fun h=>(hnx.cell (p:=⟨b,off+k,none⟩) hb).trans (hc k h)
   by_cases hlt:k<len
   · obtain⟨fn,tmps,assign,body,hy,hR⟩:=hY _ (zs[k]?.getD 0) wr hJs (by rw [It.upto_length];exact hlt)
     have mq:=hcx hlt
     gi_wp2
     refine hR.mono ?_
     rintro e W3 (⟨rfl,hJ3,hk3⟩|⟨rfl,jI⟩)
     ·
       gi_wp2
       go_roundw
       case rel=>exact⟨k+1,Gw.Oa,by simp,by rw [It.upto_succ];exact hJ3,hnx.trans hk3⟩
       case measure=>simp [intOf];omega
     · gi_wp2
       refine bodyPost_ret (results_none rfl _ _ _) rfl ?_
       exact⟨⟨_,rfl⟩,.inr ⟨_,⟨k+1,Gw.Oa,(It.upto_succ _ _).symm⟩,jI⟩⟩
   · obtain rfl:k=len:=Gw.Oa
     gi_wp2
     go_end0
     exact⟨⟨_,rfl⟩,.inl ⟨_,rfl,hJs⟩⟩
theorem It.upto_take(zs:List Int){k:Nat}(hk:k<=zs.length):It.upto (fun j=>zs[j]?.getD 0) k=zs.take k:=by
 apply List.ext_getElem
 · simp [It.upto,hk]
 · intro i h1 h2
   have:i<zs.length:=by simp [It.upto] at h1;omega
   simp [It.upto,this]
def It.Ints(n₀:Nat)(W:World)(sv:Value)(zs:List Int):Prop:=
  (sv=Gw.Oh/\zs= [])\/∃b off cap,sv= .slice (some ⟨b,off,none⟩) zs.length cap/\b<n₀/\∀j,j<zs.length->W.cell? ⟨b,off+j,none⟩=some (.int Gw.Oi (zs[j]?.getD 0))
theorem It.Ints.below{n₀:Nat}{A B:World}(h:Below n₀ A B){sv:Value}{zs:List Int}:It.Ints n₀ A sv zs->It.Ints n₀ B sv zs
 | .inl e=> .inl e
 | .inr ⟨b,off,cap,e,hb,hc⟩=> .inr ⟨b,off,cap,e,hb,fun j hj=>(h.cell (p:=⟨b,off+j,none⟩) hb).trans (hc j hj)⟩
set_option maxRecDepth 100000 in
theorem It.values1_nil_in(F:Fence)(n:Nat)(h7:F.fn 294)(hro:F.round=none)(l Bs:Nat)(J:List Int->World->Prop)(W:World)(hBs:W.cell? ⟨Bs,0,none⟩=some Gw.Oh)(h0:J [] W):
   CallsIn F n Om 294 #[.func (.yield l) #[] #[],Gw.Or Bs] W fun e W'=>(∃v,e= .returned v)/\J [] W':=by
 refine callsIn_of_wp Tryz.func294 rfl h7 ?_ hro
 simp only [Tryz.ntmps294,List.size_toArray,List.length_cons,List.length_nil,Nat.reduceAdd,Nat.reduceSub,Array.replicate_succ,Array.replicate_zero,List.push_toArray,List.append_toArray,List.nil_append,List.cons_append]
 gi_wp2
 gi_loopw [7] (fun i wr=>i= .int Gw.Oi 0/\J [] wr) (fun _ _=>0)
 case atStart=>exact⟨rfl,h0⟩
 case round=>
   obtain⟨rfl,hJs⟩:=hrel
   gi_wp2
   go_end0
   exact⟨⟨_,rfl⟩,hJs⟩
theorem It.values_stops(F:Fence)(n:Nat)(h7:F.fn 294)(hro:F.round=none)(hn:1<=n)(Bs n₀:Nat)(sv:Value)(zs:List Int)(yR:zs.length*8<=140737488351232)(w:World)(hBs:Bs<w.heap.size)(hn₀:n₀<=w.heap.size)
   (hc:w.cell? ⟨Bs,0,none⟩=some sv) (hI:It.Ints n₀ w sv zs):
   SeqStopsK F n Om 294 #[Gw.Or Bs] (fun x:Int=> #[Value.int Gw.Oi x]) (Below n₀) (fun ys=>ys=zs) (fun pre=>pre<+:zs) zs.length w:=fun l J Jx W hW _ _ hY h0=>by
 have hc':=(hW.cell (p:=⟨Bs,0,none⟩) hBs).trans hc
 rcases hI.below (hW.mono hn₀) with⟨rfl,rfl⟩|⟨b,off,cap,rfl,hb,hcs⟩
 · exact(It.values1_nil_in F n h7 hro l Bs J W hc' h0).mono fun e W' ⟨he,hj⟩=>⟨he,.inl ⟨_,rfl,hj⟩⟩
 · refine(It.values1_in F n h7 hro hn l Bs n₀ b off zs.length cap zs yR hb J Jx hY W hc' hcs h0).mono ?_
   rintro e W' ⟨he,⟨ys,rfl,hj⟩|⟨pre,⟨k,hk,rfl⟩,hj⟩⟩
   · exact⟨he,.inl ⟨_,It.upto_all zs,hj⟩⟩
   · exact⟨he,.inr ⟨_,by rw [It.upto_take zs hk];exact List.take_prefix _ _,hj⟩⟩
theorem It.info3:(Tryz.prog.info? 3).map (fun i=>(i.zero,i.size,i.bytes))=some (some (.int Gw.Oi 0),1,8):=Gw.Oc
set_option maxRecDepth 100000 in
theorem It.appendSeq_in(F:Fence)(n:Nat)(h3:F.fn 313)(h5:F.fn 294)(hro:F.round=none)(hn:3<=n)(Bs:Nat)(sv:Value)(zs:List Int)(xg:zs.length<=maxLen)(yR:zs.length*8<=140737488351232)(w:World)
   (hBs:Bs<w.heap.size) (hcs:w.cell? ⟨Bs,0,none⟩=some sv) (hI:It.Ints w.heap.size w sv zs):
   CallsIn F n Om 313 #[Gw.Oh,.func (.func 294) #[] #[Gw.Or Bs]] w fun e W'=>∃v,e= .returned v/\W'.ownsRow w.heap.size 3 1 v zs.length (zs.map (Value.int .i64))/\Below w.heap.size w W':=by
 have h1:1<=n:=Gw.Oa
 obtain⟨i0,hi,hz0,hz1,hz2⟩:=info_parts It.info3
 refine callsIn_of_wp_marks Tryz.func313 rfl h3 ?_ hro
 simp only [Tryz.ntmps313,List.size_toArray,List.length_cons,List.length_nil,Nat.reduceAdd,Nat.reduceSub,Array.replicate_succ,Array.replicate_zero,List.push_toArray,List.append_toArray,List.nil_append,List.cons_append]
 gi_wp2
 have bO:=Boxed.new w 22 Gw.Oh
 have hB0:Below w.heap.size w (w.alloc (.cells #[Gw.Oh] 22)):=(Below.refl _ w).alloc (Nat.le_refl _) _
 refine wpIn_rangeFunc_ownG hro h1 (gf:=294) (lb:= #[Gw.Or Bs]) rfl h5 (enters_of Tryz.func294 (by kernel_rfl) rfl)
   (It.values_stops F (n-1) h5 hro Gw.Oa Bs w.heap.size sv zs yR _ (by simp;omega) (by simp) ((hB0.cell (p:=⟨Bs,0,none⟩) hBs).trans hcs) (hI.below hB0)) belowK_t (belowK_b (by simp)) (Below.refl _ _) (fun _=>rfl)
   (fun pre W=>(∃v,Boxed W w.heap.size 22 v/\W.ownsRow w.heap.size 3 1 v pre.length (pre.map (Value.int .i64))/\True)/\Below w.heap.size w W)
   (fun _ _ _=>False)
   (OwnFrom.and (Own.from (holdsRow_own w.heap.size w.heap.size 22 3 1 (fun pre:List Int=>pre.length) (fun pre=>pre.map (Value.int .i64)) (fun pre v=>True)) _) (ownFrom_below (Nat.le_refl _) (by simp)))
   (fun _ _ _ _ _ hs _ _=>hs)
   ⟨⟨_,bO,World.ownsRow_nil _ _ _ _,trivial⟩,hB0⟩
   (fun x=>{tmps:= #[Gw.Oh,.func (.func 294) #[] #[Gw.Or Bs],.pointer (some ⟨w.heap.size,0,none⟩),undef,Gw.Oh,.int Gw.Oi x,.func (.func 294) #[] #[Gw.Or Bs],.int Gw.Oi x,undef,undef,undef,undef,undef],defers:= []}) ?assign ?body ?done ?stop
 case assign=>
   intro l x W K hK
   gi_wp2
   exact hK
 case body=>
   rintro l pre x W ⟨⟨v,hv,qv,_⟩,hB⟩ hlt
   have hc:=hv.cell
   gi_wp2_with (gi_at_builtin;refine wpListIn_append_own _ rfl _ _ 22 rfl w.heap.size 3 i0 (.int Gw.Oi 0) 1 8 Tryz.underlying22 hi hz0 hz1 hz2 rfl (by decide) _ _ _ rfl (qv.alloc _) ⟨W.heap.size,0,none⟩ 1 1 [.int Gw.Oi x] rfl rfl (cell_one_new _ _ _) (by simp [Value.oneCell']) Gw.Oa Gw.Oa (by have:=hB.size;simp;omega) ?_;intro v' w1 cz fD _;obtain⟨g',cap',rfl⟩:=ownsRow_succ cz;obtain⟨hv1,hv2,hr2,hk2,hb2⟩:=hv.appended (by decide) qv hB.size (Nat.le_refl _) cz fD;have hc1:=hv1.cell;have hf1:=hv1.frozen)
   exact⟨hk2.from _,hb2,⟨_,hv2,by simpa using hr2,trivial⟩,hB.trans hb2⟩
 case done=>
   rintro D ys W hD rfl ⟨⟨v,hv,qv,_⟩,hB⟩ hK
   have hc:=hv.cell
   gi_wp2
   refine⟨by simp,.inl ⟨_,_,rfl,run_takeDeferred hK,?_⟩⟩
   exact⟨_,results_tmp rfl _ _ _,v,rfl,ownsRow_putObj qv _ hK rfl,hB.trans (belowK_b (w:=w) (Nat.le_refl _) W D _ _ (by simp at hD;omega) hK rfl rfl)⟩
 case stop=>
   rintro D c pre W _ _ h _
   exact h.elim
open Go.Proofs.Gw in
theorem c_appendSeq{v:Value}{n:Int}{f:Of}{Bs:Nat}{E:TypeId}(w0:World)(hc:w0.cell? ⟨Bs,0,none⟩=some v)(ho:(Ent.own v 1 E n (ints f)).holds w0)(hn:n<=1000000):
   Calls Om 313 [Oh,.func (.func 294) #[] #[Or Bs]].toArray w0 fun e w=>∃u,e= .returned u/\∃r,u=r/\Slh r n/\Sat w0 w [.own r 1 3 n (ints f)]:=by
 have hR:=ho.row
 have hn0:=hR.slh.n0
 have hl:=ZZ f n
 have hI:It.Ints w0.heap.size w0 v (Zo f n):=by
   obtain⟨_,_,⟨rfl,h0⟩|⟨g,cap,cur,rfl,hg,_⟩⟩:=ho
   · exact .inl ⟨rfl,List.eq_nil_of_length_eq_zero Oa⟩
   · refine .inr ⟨g,0,cap,by rw [hl],(Array.getElem?_eq_some_iff.1 hg).1,fun j hj=> ?_⟩
     rw [hl] at hj
     have:=hR.2 j Oa
     rw [List.getElem?_eq_getElem Oa]
     simp only [Option.getD_some]
     rw [Nat.zero_add]
     simp only [cad,Int.toNat_natCast,Nat.zero_add] at this
     rw [this]
     simp [ints,Zo]
 have hmx:maxLen=9223372036854775807\/1000000<=maxLen:= .inr (by unfold maxLen;omega)
 refine(callsIn_wide.1 (It.appendSeq_in Fence.wide 3 trivial trivial rfl (Nat.le_refl _) Bs v (Zo f n) (by rw [hl];unfold maxLen;omega) (by rw [hl];omega) w0 (World.block_lt_of_cell? w0 _ hc) hc hI)).mono fun e w h=> ?_
 obtain⟨r,rfl,qv,hB⟩:=h
 rw [hl] at qv
 have hE:(Ent.own r 1 3 n (ints f)).holds w:=Ent.holds.of_owns hn0 Oa (by rw [Nat.mul_one,UD];exact qv)
 refine⟨r,rfl,r,rfl,hE.row.slh,hB,fun e he=> ?_,fun e he g hg=> ?_,List.pairwise_singleton _ _⟩
 · obtain rfl:=List.mem_singleton.1 he;exact hE
 · obtain rfl:=List.mem_singleton.1 he
   exact(qv.lt g hg).1
end Go.Proofs.YtpnamgfdakfccaaGreat
namespace Go.Proofs.YtpnamgfdakfccaaGreat
open Go Go.RowKit Go.Proofs.Gw
variable {m:Int} {f:Of} {v:Value}
theorem WX:Zd Om 147=true:=Oc
theorem Zmz:Zd Om 290=true:=Oc
theorem U2:Zd Om 90=true:=Oc
theorem pl_3:ZG Om 3=true:=Oc
theorem Zb:Zu Om 22=some (3,1):=Oc
theorem Zob{x:Int}{a1:Addr}(w0:World)(hp1:w0.cell? a1=some (.int Oi m))(hm:0<=m/\m<=1099511627776):
   Calls Om 290 [.int Oi x,.pointer (some a1)].toArray w0 fun e w=>∃v,e= .returned v/\v=B (¬(-m<=x/\x<=m))/\Sat w0 w []:=by
 refine zenG Tryz.func290 Tryz.ntmps290 fun w hS=> ?_
 refine zsr<|(zP)<|zlz<|(zP)<|(zV (xlf pl_3 hp1 hS))<|(zV (ZfR (r:= -m)))<|(On)<|zlb 8 ?_ ?_<;>intro hc
 ·
  iterate 3 refine zlo ?_
  refine(On)<|zx1<|Oj ?_
  exact⟨Yn Oa,hS⟩
 refine(zP)<|(zV (xlf pl_3 hp1 hS))<|(Oo)<|zx1<|Oj ?_
 exact⟨Zm Oa,hS⟩
theorem Zko{n:Int}{a1:Addr}(w0:World)(hR:Row w0 v 1 n (ints f))(hp1:w0.cell? a1=some (.int Oi m))(hm:0<=m/\m<=1099511627776):
   Calls Om 147 [v,.func (.func 290) #[] #[.pointer (some a1)]].toArray w0 fun e w=>∃v,e= .returned v/\∃r:Int,v= .int Oi r/\((r= -1/\∀k,0<=k->k<n->¬(¬(-m<=f k/\f k<=m)))\/(0<=r/\r<n/\(¬(-m<=f r/\f r<=m))))/\Sat w0 w []:=by
 have hn:=hR.slh.n0;have hn1:=hR.slh.n1
 refine zenG Tryz.func147 Tryz.ntmps147 fun w hS=> ?_
 refine zsr<|(zP)<|zx5<|(zP)<|(zV (xln Zb hR.slh))<|(zP)<|zx6<|zlp (fun mm M w=>∃(i:Int),mm=((n-i).toNat)/\(0<=i)/\(i<=n)/\(∀k,0<=k->k<i->¬(¬(-m<=f k/\f k<=m)))/\M= [(0,v),(1,.func (.func 290) #[] #[.pointer (some a1)]),(7,.int Oi n),(8,.int Oi i)]/\Sat w0 w []) ⟨0,rfl,Oa,Oa,?_,rfl,hS⟩ ?_
 ·
  intro k h0 h1;omega
 clear hS w
 rintro mm M w ⟨i,rfl,h0,h1,qa,rfl,hS⟩
 refine zsr<|(zP)<|zx7<|Zf ?_ ?_<;>intro hc
 ·
  refine zx3<|(On)<|zlz<|(Oo)<|(zV (xix (kk:=i) Zb hR.slh))<|(zV (xlr (u:= .int Oi (f i)) pl_3 (hR.below hS.below)))<|zlc (xcc (vs:= [_]) Zmz) (Zob (x:=(f i)) (m:=m) w (hS.ref hp1) hm) ?_;rintro _ w ⟨rfl,hS'⟩
  replace hS:=hS.cmp hS';clear hS'
  refine zlt<|Zf ?_ ?_<;>intro hc
  ·
   refine zsr<|(On)<|zx2<|Oj ?_
   exact⟨i,rfl,.inr ⟨by omega,Oa,‹¬(-m<=f i/\f i<=m)›⟩,hS⟩
  refine zx4<|(zV (Zh (r:=i+1)))<|(zP)<|zln<|zlq ⟨i+1,rfl,Oa,Oa,?_,rfl,hS⟩
  ·
   intro k h0' h1';rcases Int.lt_or_eq_of_le (show k<=i by omega) with hk|hk;exact qa k h0' hk;rw [hk];assumption
 refine zx8<|(zP)<|zx1<|Oj ?_
 exact⟨-1,rfl,.inl ⟨rfl,fun k h0 h1=>qa k h0 Oa⟩,hS⟩
theorem Zkw{n:Int}{a1:Addr}(w0:World)(hR:Row w0 v 1 n (ints f))(hp1:w0.cell? a1=some (.int Oi m))(hm:0<=m/\m<=1099511627776):
   Calls Om 90 [v,.func (.func 290) #[] #[.pointer (some a1)]].toArray w0 fun e w=>∃v,e= .returned v/\v=B (∃k,0<=k/\k<n/\(¬(-m<=f k/\f k<=m)))/\Sat w0 w []:=by
 refine zenG Tryz.func90 Tryz.ntmps90 fun w hS=> ?_
 refine zsr<|(zP)<|zlz<|(On)<|zlc (xc0 WX) (Zko w (hR.below hS.below) (hS.ref hp1) hm) ?_;rintro _ w ⟨r1,rfl,hr1,hS'⟩
 replace hS:=hS.cmp hS';clear hS'
 refine(On)<|zx1<|Oj ?_
 exact⟨Zm (by
  rcases hr1 with⟨h1,h2⟩|⟨h1,h2,h3⟩
  · exact⟨fun h=>Oa,fun⟨k,h4,h5,h6⟩=>absurd h6 (h2 k h4 h5)⟩
  · exact⟨fun _=>⟨_,h1,h2,h3⟩,fun _=>h1⟩),hS⟩
theorem Vo{n:Int}(w0:World)(hR:Row w0 v 1 n (ints f))(hm:0<=m/\m<=1099511627776):
   Calls Om 236 [v,.int Oi m].toArray w0 fun e w=>∃v,e= .returned v/\v=B (Btw f n m)/\Sat w0 w []:=by
 refine zenG Tryz.func236 Tryz.ntmps236 fun w hS=> ?_
 refine zsr<|zla (xbx (cs:= [_]) hS) ?_;rintro _ w ⟨g1,rfl,hS⟩
 refine(zP)<|zlz<|(zP)<|(zV xmf)<|zlc (xc0 U2) (Zkw (m:=m) w (hR.below hS.below) (hS.cellN 0 rfl rfl) hm) ?_;rintro _ w ⟨rfl,hS'⟩
 replace hS:=hS.cmp hS';clear hS'
 refine(On)<|zx1<|Oj ?_
 exact⟨Zm ⟨fun h k k0 k1=>Od fun hh=>h ⟨k,k0,k1,hh⟩,fun h ⟨k,k0,k1,hh⟩=>hh (h k k0 k1)⟩,hS.nl⟩
theorem Zk7{n:Int}(w0:World)(hR:Row w0 v 1 n (ints f))(hn:1<=n):
   Calls Om 238 [v].toArray w0 fun e w=>∃v,e= .returned v/\∃x:Int,v= .int Oi x/\(∃k,0<=k/\k<n/\f k=x)/\(∀k,0<=k->k<n->x<=f k)/\Sat w0 w []:=by
 have hn1:=hR.slh.n1
 refine zenG Tryz.func238 Tryz.ntmps238 fun w hS=> ?_
 refine zsr<|(zP)<|zx5<|(zP)<|(zV (xln Zb hR.slh))<|(zV (xkf Yc))<|zlt<|zcf<|zsk<|ztn<|zsr ?_
 refine(zP)<|(zV (xix (kk:=0) Zb hR.slh))<|(zV (xlr (u:= .int Oi (f 0)) pl_3 (hR.below hS.below)))<|(zP)<|zx5<|(zP)<|zx6<|zlp (fun mm M w=>∃(x:Int) (i:Int),mm=((n-i).toNat)/\(1<=i)/\(i<=n)/\(∃k,0<=k/\k<n/\f k=x)/\(∀k,0<=k->k<i->x<=f k)/\M= [(0,v),(2,.int Oi 0),(3,.int Oi x),(4,.int Oi i)]/\Sat w0 w []) ⟨(f 0),1,rfl,Oa,Oa,?_,?_,rfl,hS⟩ ?_
 ·
  exact⟨0,Oa,Oa,rfl⟩
 ·
  intro k k0 k1;rw [show k=0 by omega];exact Int.le_refl _
 clear hS w
 rintro mm M w ⟨x,i,rfl,h0,h1,hex,qa,rfl,hS⟩
 refine zsq<|zsr<|(On)<|(zV (xln Zb hR.slh))<|(zP)<|zlt<|Zf ?_ ?_<;>intro hc
 ·
  refine zsk<|ztn<|zsq<|zbk<|zrg<|(Oo)<|(zV (xix (kk:=i) Zb hR.slh))<|(zV (xlr (u:= .int Oi (f i)) pl_3 (hR.below hS.below)))<|(zV (Rr (r:=(min x (f i)))))<|(zP)<|zx10<|(zP)<|(zV (Zh (r:=i+1)))<|(zP)<|zln<|zlq ⟨(min x (f i)),i+1,rfl,Oa,Oa,?_,?_,rfl,hS⟩
  ·
   rcases Int.le_total x (f i) with hh|hh
   · first|(rw [Int.min_eq_left hh];exact hex)|(rw [Int.min_eq_right hh];exact⟨i,Oa,Oa,rfl⟩)
   · first|(rw [Int.min_eq_right hh];exact⟨i,Oa,Oa,rfl⟩)|(rw [Int.min_eq_left hh];exact hex)
  ·
   intro k k0 k1;rcases Int.lt_or_eq_of_le (show k<=i by omega) with hk|hk
   · have:=qa k k0 hk;omega
   · rw [hk];omega
 refine zx8<|(On)<|zx1<|Oj ?_
 exact⟨_,rfl,hex,fun k k0 k1=>qa k k0 Oa,hS⟩
theorem Zic{n:Int}(w0:World)(hR:Row w0 v 1 n (ints f))(hn:1<=n):
   Calls Om 91 [v].toArray w0 fun e w=>∃v,e= .returned v/\∃x:Int,v= .int Oi x/\(∃k,0<=k/\k<n/\f k=x)/\(∀k,0<=k->k<n->f k<=x)/\Sat w0 w []:=by
 have hn1:=hR.slh.n1
 refine zenG Tryz.func91 Tryz.ntmps91 fun w hS=> ?_
 refine zsr<|(zP)<|zx5<|(zP)<|(zV (xln Zb hR.slh))<|(zV (xkf Yc))<|zlt<|zcf<|zsk<|ztn<|zsr ?_
 refine(zP)<|(zV (xix (kk:=0) Zb hR.slh))<|(zV (xlr (u:= .int Oi (f 0)) pl_3 (hR.below hS.below)))<|(zP)<|zx5<|(zP)<|zx6<|zlp (fun mm M w=>∃(x:Int) (i:Int),mm=((n-i).toNat)/\(1<=i)/\(i<=n)/\(∃k,0<=k/\k<n/\f k=x)/\(∀k,0<=k->k<i->f k<=x)/\M= [(0,v),(2,.int Oi 0),(3,.int Oi x),(4,.int Oi i)]/\Sat w0 w []) ⟨(f 0),1,rfl,Oa,Oa,?_,?_,rfl,hS⟩ ?_
 ·
  exact⟨0,Oa,Oa,rfl⟩
 ·
  intro k k0 k1;rw [show k=0 by omega];exact Int.le_refl _
 clear hS w
 rintro mm M w ⟨x,i,rfl,h0,h1,hex,qa,rfl,hS⟩
 refine zsq<|zsr<|(On)<|(zV (xln Zb hR.slh))<|(zP)<|zlt<|Zf ?_ ?_<;>intro hc
 ·
  refine zsk<|ztn<|zsq<|zbk<|zrg<|(Oo)<|(zV (xix (kk:=i) Zb hR.slh))<|(zV (xlr (u:= .int Oi (f i)) pl_3 (hR.below hS.below)))<|(zV (ZfS (r:=(max x (f i)))))<|(zP)<|zx10<|(zP)<|(zV (Zh (r:=i+1)))<|(zP)<|zln<|zlq ⟨(max x (f i)),i+1,rfl,Oa,Oa,?_,?_,rfl,hS⟩
  ·
   rcases Int.le_total x (f i) with hh|hh
   · first|(rw [Int.max_eq_left hh];exact hex)|(rw [Int.max_eq_right hh];exact⟨i,Oa,Oa,rfl⟩)
   · first|(rw [Int.max_eq_right hh];exact⟨i,Oa,Oa,rfl⟩)|(rw [Int.max_eq_left hh];exact hex)
  ·
   intro k k0 k1;rcases Int.lt_or_eq_of_le (show k<=i by omega) with hk|hk
   · have:=qa k k0 hk;omega
   · rw [hk];omega
 refine zx8<|(On)<|zx1<|Oj ?_
 exact⟨_,rfl,hex,fun k k0 k1=>qa k k0 Oa,hS⟩
theorem c_clone {n:Int} (w0:World) (hR:Row w0 v 1 n (ints f)) (hn:n<=1000000):Calls Om 66 [v].toArray w0 fun e w=>∃u,e= .returned u/\∃r,u=r/\Slh r n/\Sat w0 w [.own r 1 3 n (ints f)]:=by
 have hn0:=hR.slh.n0
 have hl:=ZZ f n
 have fin:∀{r:Value} {w:World} {xs:List Value},w.ownsRow w0.heap.size 3 1 r n.toNat xs->xs=cellsOf (ints f) n.toNat->Below w0.heap.size w0 w->Slh r n/\Sat w0 w [.own r 1 3 n (ints f)]:=fun {r w xs} qv hxs hB=>by
   subst hxs
   have hE:(Ent.own r 1 3 n (ints f)).holds w:=Ent.holds.of_owns hn0 Oa (by rw [Nat.mul_one];exact qv)
   exact⟨hE.row.slh,hB,fun e he=>by obtain rfl:=List.mem_singleton.1 he;exact hE,fun e he g hg=>by obtain rfl:=List.mem_singleton.1 he;exact(qv.lt g hg).1,List.pairwise_singleton _ _⟩
 obtain⟨_,_,a,cap,rfl,h⟩:=hR.slh
 cases a with
 | none=>
   have h0:n=0:=by rcases h with h|⟨_,_,h⟩;exact h;cases h
   subst h0
   refine(slices_Clone_int_nil 0 cap w0).mono fun e w ⟨he,hw⟩=>⟨_,he,_,rfl,slh_nil,?_⟩
   rw [hw]
   exact(Sat.start w0).addnil 1 3 (ints f)
 | some ad=>
   rcases h with h|⟨b,off,h⟩
   · subst h
     refine(slices_Clone_int_zero ad cap w0).mono fun e w ⟨r,he,qv,_,hB⟩=>⟨r,he,r,rfl,?_⟩
     exact fin qv rfl hB
   · cases h
     refine(slices_Clone_int b off n.toNat cap (Zo f n) w0 Oa Oa (fun j hj=> ?_)).mono fun e w ⟨r,he,qv,_,hB⟩=>⟨r,he,r,rfl,fin qv ?_ hB⟩
     · have:=hR.2 j Oa
       simp only [cad,Int.toNat_natCast] at this
       rw [this]
       rw [hl] at hj
       simp [ints,Zo,hj]
     · rw [List.take_of_length_le Oa,UD];rfl
end Go.Proofs.YtpnamgfdakfccaaGreat
namespace Go.Proofs.YtpnamgfdakfccaaGreat
open Go Go.RowKit Go.Proofs.Gw
variable {v:Value}
theorem Zmy:Zd Om 292=true:=Oc
theorem Zmx:Zd Om 293=true:=Oc
theorem Zmw:Zd Om 295=true:=Oc
theorem Zms:Zd Om 313=true:=Oc
theorem ZJ:ZN Om 3=some (.int Oi 0,1,8):=Oc
theorem pl_22:ZG Om 22=true:=Oc
theorem Zk:Zu Om 52=some (22,1):=Oc
theorem ZnY{n:Int}(w0:World)(h0:0<=n)(h1:n<=1000000):
   Calls Om 295 [Oh,.int Oi n].toArray w0 fun e w=>∃v,e= .returned v/\∃r,v=r/\Slh r 0/\Sat w0 w [.own r 1 3 0 (ints (fun _=>0))]:=by
 refine zenG Tryz.func295 Tryz.ntmps295 fun w hS=> ?_
 refine zsr<|(zP)<|zx5<|(zP)<|(zV (xkf Yc))<|zlt<|zcf<|zsk<|ztn<|zsq<|zsr ?_
 refine(On)<|KP rfl rfl rfl (WB rfl Zb rfl) ?_
 refine(zP)<|(zV (xln Zb slh_nil))<|(zV (Zp (r:=0)))<|(zV (Zp (r:=n)))<|(zP)<|zlz<|(On)<|zlt<|Zf ?_ ?_<;>intro hc
 ·
  refine zrg<|(On)<|KP rfl rfl rfl (WB rfl Zb rfl) ?_
  refine(zV (xany (v:=Oh)))<|(zP)<|KQ rfl rfl rfl (T8 rfl Zb Tryz.underlying3 ZJ rfl Oa rfl rfl Oa Oa hS) ?_;rintro v1 w ⟨hS,hv1⟩
  refine(zP)<|(zV (xln Zb slh_nil))<|KP rfl rfl rfl (V7 rfl Zb rfl rfl hv1) ?_
  replace hS:=hS.cut 0 rfl (ints (fun _=>0))
  refine(zP)<|zlz<|(On)<|zx1<|Oj ?_
  exact⟨_,rfl,(Zes hv1),hS⟩
 refine ZV<|(On)<|zx1<|Oj ?_
 exact⟨_,rfl,slh_nil,(hS.addnil 1 3 (ints fun _=>0)).sub (.cons_cons _ .slnil)⟩
theorem Zip{n:Int}{vv:Int->Value}{ln:Of}{f:Og}(w0:World)(hM:NAt w0 v n vv ln f)(ht:∀k,0<=k->k<=n->tot ln k.toNat<=100000):
   Calls Om 243 [v].toArray w0 fun e w=>∃v,e= .returned v/\∃r,v=r/\Slh r (tot ln n.toNat)/\Sat w0 w [.own r 1 3 (tot ln n.toNat) (ints (Vq ln f n.toNat))]:=by
 have hn:=hM.row.slh.n0;have hn1:=hM.row.slh.n1
 refine zenG Tryz.func243 Tryz.ntmps243 fun w hS=> ?_
 refine zsr<|(zP)<|zlz<|(zP)<|zx5<|(zP)<|(zV (xln Zk hM.row.slh))<|(zP)<|zx6<|zlp (fun mm M w=>∃(s:Int) (i:Int),mm=((n-i).toNat)/\(0<=i)/\(i<=n)/\(s=tot ln i.toNat)/\(0<=s)/\M= [(0,v),(2,Oh),(3,.int Oi s),(9,v),(10,.int Oi n),(11,.int Oi i)]/\Sat w0 w []) ⟨0,0,rfl,Oa,Oa,?_,Oa,rfl,hS⟩ ?_
 ·
  rfl
 clear hS w
 rintro mm M w ⟨s,i,rfl,h0,h1,hs,hs0,rfl,hS⟩
 refine zsr<|(zP)<|zx7<|Zf ?_ ?_<;>intro hc
 ·
  refine zx3<|(zV (xix (kk:=i) Zk hM.row.slh))<|zlv (xlr (u:=(vv i)) pl_22 (hM.row.below hS.below)) ?_
  have hl:=(hM.p i h0 Oa).slh.n0;have ht1:=ht (i+1) Oa Oa;rw [Xq ln h0] at ht1
  refine(zP)<|zlz<|(On)<|(zV (xln Zb (hM.p i Oa Oa).slh))<|(zV (Zh (r:=s+(ln i))))<|(zP)<|zlz<|(zP)<|(zV (xkf Yc))<|zlt<|zcf<|zsk<|zbn<|ztn<|zrg ?_
  refine(zV (Zh (r:=i+1)))<|(zP)<|zln<|zlq ⟨s+(ln i),i+1,rfl,Oa,Oa,?_,Oa,rfl,hS⟩
  ·
   rw [Xq ln h0,hs]
 refine zx8<|zlv xmv ?_
 have hin:i=n:=Oa
 have ht2:=ht n hn (Int.le_refl _);rw [<-hin] at ht2
 refine zlc (xc0 Zmw) (ZnY (n:=s) w Oa Oa) ?_;rintro vq1 w ⟨_,rfl,qb,hS'⟩
 replace hS:=(hS.comp hS').n1;clear hS'
 refine(zP)<|zx5<|(zP)<|(zV (xln Zk hM.row.slh))<|(zP)<|zx6<|zlp (fun mm M w=>∃(m:Int) (j:Int) (vb:Value) (g:Of),mm=((n-j).toNat)/\(0<=j)/\(j<=n)/\(m=tot ln j.toNat)/\(0<=m)/\(g=Vq ln f j.toNat)/\(Slh vb m)/\M= [(2,Oh),(6,vb),(25,v),(26,.int Oi n),(27,.int Oi j)]/\Sat w0 w [.own vb 1 3 m (ints g)]) ⟨0,0,vq1,(fun _=>0),rfl,Oa,Oa,?_,Oa,?_,?_,rfl,hS⟩ ?_
 ·
  rfl
 ·
  rfl
 ·
  exact qb
 clear hS w
 rintro mm M w ⟨m,j,vb,g,rfl,h0,h1,hm,hm0,hg,hvb,rfl,hS⟩
 refine zsr<|(zP)<|zx7<|Zf ?_ ?_<;>intro hc
 ·
  refine zx3<|(zV (xix (kk:=j) Zk hM.row.slh))<|zlv (xlr (u:=(vv j)) pl_22 (hM.row.below hS.below)) ?_
  have hl:=(hM.p j h0 Oa).slh.n0;have ht1:=ht (j+1) Oa Oa;rw [Xq ln h0] at ht1
  refine(zP)<|zlt<|zrg<|(On)<|zla (xap 0 (r:=m+(ln j)) (f:=ints (cat m g (f j))) Zb ZJ hS ((hM.p j Oa Oa).below hS.below) (by exact Xo _ _ _)) ?_;rintro v1 w ⟨hS,hv1⟩
  refine(zP)<|zx10<|(zV (Zh (r:=j+1)))<|(zP)<|zln<|zlq ⟨m+(ln j),j+1,v1,(cat m g (f j)),rfl,Oa,Oa,?_,Oa,?_,?_,rfl,hS⟩
  ·
   rw [Xq ln h0,hm]
  ·
   rw [catN_next ln f h0,<-hg,<-hm]
  ·
   exact hv1
 refine zx8<|(On)<|zx1<|Oj ?_
 obtain rfl:j=n:=Oa
 subst hg;subst hm
 exact⟨_,rfl,hvb,hS⟩
theorem ZhV{vs:Value}{n:Int}(w0:World)(hsl:Slh vs n):
   Calls Om 242 [vs].toArray w0 fun e w=>∃v,e= .returned v/\∃g,v= .func (.func 294) #[] #[Or g]/\Sat w0 w [.blk g [vs]]:=by
 refine zenG Tryz.func242 Tryz.ntmps242 fun w hS=> ?_
 refine zsr<|zla (xbx (cs:= [_]) hS (hc:=Slh.cells hsl)) ?_;rintro _ w ⟨g1,rfl,hS⟩
 refine(zP)<|zlz<|(zV xmf)<|(zP)<|zx1<|Oj ?_
 exact⟨_,rfl,hS⟩
theorem ZfJ{n:Int}{f:Of}{Bs:Nat}{E:TypeId}(w0:World)(hcs:w0.cell? ⟨Bs,0,none⟩=some v)(ho:(Ent.own v 1 E n (ints f)).holds w0)(hn:n<=1000000):
   Calls Om 292 [.func (.func 294) #[] #[.pointer (some (⟨Bs,0,none⟩))]].toArray w0 fun e w=>∃v,e= .returned v/\∃r,v=r/\Slh r n/\Sat w0 w [.own r 1 3 n (ints f)]:=by
 refine zenG Tryz.func292 Tryz.ntmps292 fun w hS=> ?_
 refine zsr<|(zP)<|zlz<|(zP)<|zlc (xc0 Zms) (c_appendSeq (f:=f) w (hS.ref hcs) (hS.kept ho) hn) ?_;rintro vq1 w ⟨_,rfl,qb,hS'⟩
 replace hS:=(hS.comp hS').n1;clear hS'
 refine(zP)<|zx1<|Oj ?_
 exact⟨_,rfl,qb,hS⟩
theorem Zh1{n:Int}{f:Of}{Bs:Nat}{E:TypeId}(w0:World)(hcs:w0.cell? ⟨Bs,0,none⟩=some v)(ho:(Ent.own v 1 E n (ints f)).holds w0)(hn:n<=1000000):
   Calls Om 241 [.func (.func 294) #[] #[.pointer (some (⟨Bs,0,none⟩))]].toArray w0 fun e w=>∃v,e= .returned v/\∃r g,v=r/\Slh r n/\Zo g n=((Zo f n).mergeSort fun x y=>decide (x<=y))/\Sat w0 w [.own r 1 3 n (ints g)]:=by
 refine zenG Tryz.func241 Tryz.ntmps241 fun w hS=> ?_
 refine zsr<|(zP)<|zlz<|(zP)<|zlc (xc0 Zmy) (ZfJ (f:=f) w (hS.ref hcs) (hS.kept ho) hn) ?_;rintro vq1 w ⟨_,rfl,qb,hS'⟩
 replace hS:=(hS.comp hS').n1;clear hS'
 refine(zP)<|zlz<|(zP)<|zlc (xc0 Zmx) (ZeX (fun p cap w=>slices_Sort_int_none p cap w) (fun blk off cap zs w=>slices_Sort_int blk off cap zs w) (l1:= []) (l2:= []) hS) ?_;rintro _ w ⟨rfl,sg1,dp,hS⟩
 refine zlz<|(On)<|zx1<|Oj ?_
 exact⟨_,_,rfl,qb,dp,hS⟩
end Go.Proofs.YtpnamgfdakfccaaGreat
namespace Go.Proofs.YtpnamgfdakfccaaGreat
open Go Go.RowKit Go.Proofs.Gw
variable {ln:Of} {f:Og} {vv:Int->Value} {v:Value}
theorem Zdy:Zd Om 159=true:=Oc
theorem Zdx:Zd Om 230=true:=Oc
theorem ZaW:Zd Om 236=true:=Oc
theorem ZmP:Zd Om 237=true:=Oc
theorem ZmM:Zd Om 241=true:=Oc
theorem ZmL:Zd Om 242=true:=Oc
theorem ZmK:Zd Om 243=true:=Oc
theorem Zmt:Zd Om 312=true:=Oc
theorem Yl:ZN Om 22=some (Oh,1,24):=Oc
theorem fd_107_0:Zv Om 107 0=some 0:=Oc
theorem fd_107_1:Zv Om 107 1=some 1:=Oc
theorem fd_107_2:Zv Om 107 2=some 2:=Oc
theorem fd_107_3:Zv Om 107 3=some 3:=Oc
theorem fd_107_4:Zv Om 107 4=some 4:=Oc
theorem mx_:Tryz.prog.follows .mixedOrders=true:=Oc
theorem ZM:ZG Om 52=true:=Oc
theorem Zny{n q:Int}{f:Of}{a1:Addr}(w0:World)(hR:Row w0 v 1 n (ints f))(hp1:w0.cell? a1=some (.int Oi q))(hq:0<=q/\q<=100):
   Calls Om 312 [v,.pointer (some a1)].toArray w0 fun e w=>∃v,e= .returned v/\v=B (¬(n=q+1/\Btw f n 1073741824))/\Sat w0 w []:=by
 have hn1:=hR.slh.n1
 refine zenG Tryz.func312 Tryz.ntmps312 fun w hS=> ?_
 refine zsr<|(zP)<|zlz<|(zP)<|(zV (xln Zb hR.slh))<|(zV (xlf pl_3 hp1 hS))<|(zV (Zh (r:=q+1)))<|(On)<|zlb 9 ?_ ?_<;>intro hc
 ·
  iterate 3 refine zlo ?_
  refine(On)<|zx1<|Oj ?_
  exact⟨Yn Oa,hS⟩
 refine(zP)<|zlc (xc0 ZaW) (Vo (n:=n) (m:=1073741824) (f:=f) w (hR.below hS.below) Oa) ?_;rintro _ w ⟨rfl,hS'⟩
 replace hS:=hS.cmp hS';clear hS'
 refine(Oo)<|zx1<|Oj ?_
 exact⟨Zm (by exact⟨fun h hh=>h hh.2,fun h hh=>h ⟨by omega,hh⟩⟩),hS⟩
theorem ZnV{n q:Int}{a1:Addr}(w0:World)(hM:MAt w0 v n vv ln f)(hp1:w0.cell? a1=some (.int Oi q))(hq:0<=q/\q<=100):
   Calls Om 230 [v,.func (.func 312) #[] #[.pointer (some a1)]].toArray w0 fun e w=>∃v,e= .returned v/\∃r:Int,v= .int Oi r/\((r= -1/\∀k,0<=k->k<n->¬(¬((ln k)=q+1/\Btw (f k) (ln k) 1073741824)))\/(0<=r/\r<n/\(¬((ln r)=q+1/\Btw (f r) (ln r) 1073741824))))/\Sat w0 w []:=by
 have hn:=hM.row.slh.n0;have hn1:=hM.row.slh.n1
 refine zenG Tryz.func230 Tryz.ntmps230 fun w hS=> ?_
 refine zsr<|(zP)<|zx5<|(zP)<|(zV (xln Zk hM.row.slh))<|(zP)<|zx6<|zlp (fun mm M w=>∃(i:Int),mm=((n-i).toNat)/\(0<=i)/\(i<=n)/\(∀k,0<=k->k<i->¬(¬((ln k)=q+1/\Btw (f k) (ln k) 1073741824)))/\M= [(0,v),(1,.func (.func 312) #[] #[.pointer (some a1)]),(7,.int Oi n),(8,.int Oi i)]/\Sat w0 w []) ⟨0,rfl,Oa,Oa,?_,rfl,hS⟩ ?_
 ·
  intro k h0 h1;omega
 clear hS w
 rintro mm M w ⟨i,rfl,h0,h1,qa,rfl,hS⟩
 refine zsr<|(zP)<|zx7<|Zf ?_ ?_<;>intro hc
 ·
  refine zx3<|(On)<|zlz<|(Oo)<|(zV (xix (kk:=i) Zk hM.row.slh))<|(zV (xlr (u:=(vv i)) pl_22 (hM.row.below hS.below)))<|zlc (xcc (vs:= [_]) Zmt) (Zny (n:=(ln i)) (q:=q) (f:=(f i)) w ((hM.p i Oa Oa).below hS.below) (hS.ref hp1) hq) ?_;rintro _ w ⟨rfl,hS'⟩
  replace hS:=hS.cmp hS';clear hS'
  refine zlt<|Zf ?_ ?_<;>intro hc
  ·
   refine zsr<|(On)<|zx2<|Oj ?_
   exact⟨i,rfl,.inr ⟨by omega,Oa,‹¬((ln i)=q+1/\Btw (f i) (ln i) 1073741824)›⟩,hS⟩
  refine zx4<|(zV (Zh (r:=i+1)))<|(zP)<|zln<|zlq ⟨i+1,rfl,Oa,Oa,?_,rfl,hS⟩
  ·
   intro k h0' h1';rcases Int.lt_or_eq_of_le (show k<=i by omega) with hk|hk;exact qa k h0' hk;rw [hk];assumption
 refine zx8<|(zP)<|zx1<|Oj ?_
 exact⟨-1,rfl,.inl ⟨rfl,fun k h0 h1=>qa k h0 Oa⟩,hS⟩
theorem Zn6{n q:Int}{a1:Addr}(w0:World)(hM:MAt w0 v n vv ln f)(hp1:w0.cell? a1=some (.int Oi q))(hq:0<=q/\q<=100):
   Calls Om 159 [v,.func (.func 312) #[] #[.pointer (some a1)]].toArray w0 fun e w=>∃v,e= .returned v/\v=B (∃k,0<=k/\k<n/\(¬((ln k)=q+1/\Btw (f k) (ln k) 1073741824)))/\Sat w0 w []:=by
 refine zenG Tryz.func159 Tryz.ntmps159 fun w hS=> ?_
 refine zsr<|(zP)<|zlz<|(On)<|zlc (xc0 Zdx) (ZnV w (hM.below hS.below) (hS.ref hp1) hq) ?_;rintro _ w ⟨r1,rfl,hr1,hS'⟩
 replace hS:=hS.cmp hS';clear hS'
 refine(On)<|zx1<|Oj ?_
 exact⟨Zm (by
  rcases hr1 with⟨h1,h2⟩|⟨h1,h2,h3⟩
  · exact⟨fun h=>Oa,fun⟨k,h4,h5,h6⟩=>absurd h6 (h2 k h4 h5)⟩
  · exact⟨fun _=>⟨_,h1,h2,h3⟩,fun _=>h1⟩),hS⟩
theorem Znx{n q:Int}{f:Of}{a1:Addr}(w0:World)(hR:Row w0 v 1 n (ints f))(hp1:w0.cell? a1=some (.int Oi q))(hq:0<=q/\q<=100):
   Calls Om 237 [v,.pointer (some a1)].toArray w0 fun e w=>∃v,e= .returned v/\v=B (¬(n=q/\Btw f n 1000000))/\Sat w0 w []:=by
 have hn1:=hR.slh.n1
 refine zenG Tryz.func237 Tryz.ntmps237 fun w hS=> ?_
 refine zsr<|(zP)<|zlz<|(zP)<|(zV (xln Zb hR.slh))<|(zV (xlf pl_3 hp1 hS))<|(On)<|zlb 8 ?_ ?_<;>intro hc
 ·
  iterate 3 refine zlo ?_
  refine(On)<|zx1<|Oj ?_
  exact⟨Yn Oa,hS⟩
 refine(zP)<|zlc (xc0 ZaW) (Vo (n:=n) (m:=1000000) (f:=f) w (hR.below hS.below) Oa) ?_;rintro _ w ⟨rfl,hS'⟩
 replace hS:=hS.cmp hS';clear hS'
 refine(Oo)<|zx1<|Oj ?_
 exact⟨Zm (by exact⟨fun h hh=>h hh.2,fun h hh=>h ⟨by omega,hh⟩⟩),hS⟩
theorem ZnT{n q:Int}{a1:Addr}(w0:World)(hM:MAt w0 v n vv ln f)(hp1:w0.cell? a1=some (.int Oi q))(hq:0<=q/\q<=100):
   Calls Om 230 [v,.func (.func 237) #[] #[.pointer (some a1)]].toArray w0 fun e w=>∃v,e= .returned v/\∃r:Int,v= .int Oi r/\((r= -1/\∀k,0<=k->k<n->¬(¬((ln k)=q/\Btw (f k) (ln k) 1000000)))\/(0<=r/\r<n/\(¬((ln r)=q/\Btw (f r) (ln r) 1000000))))/\Sat w0 w []:=by
 have hn:=hM.row.slh.n0;have hn1:=hM.row.slh.n1
 refine zenG Tryz.func230 Tryz.ntmps230 fun w hS=> ?_
 refine zsr<|(zP)<|zx5<|(zP)<|(zV (xln Zk hM.row.slh))<|(zP)<|zx6<|zlp (fun mm M w=>∃(i:Int),mm=((n-i).toNat)/\(0<=i)/\(i<=n)/\(∀k,0<=k->k<i->¬(¬((ln k)=q/\Btw (f k) (ln k) 1000000)))/\M= [(0,v),(1,.func (.func 237) #[] #[.pointer (some a1)]),(7,.int Oi n),(8,.int Oi i)]/\Sat w0 w []) ⟨0,rfl,Oa,Oa,?_,rfl,hS⟩ ?_
 ·
  intro k h0 h1;omega
 clear hS w
 rintro mm M w ⟨i,rfl,h0,h1,qa,rfl,hS⟩
 refine zsr<|(zP)<|zx7<|Zf ?_ ?_<;>intro hc
 ·
  refine zx3<|(On)<|zlz<|(Oo)<|(zV (xix (kk:=i) Zk hM.row.slh))<|(zV (xlr (u:=(vv i)) pl_22 (hM.row.below hS.below)))<|zlc (xcc (vs:= [_]) ZmP) (Znx (n:=(ln i)) (q:=q) (f:=(f i)) w ((hM.p i Oa Oa).below hS.below) (hS.ref hp1) hq) ?_;rintro _ w ⟨rfl,hS'⟩
  replace hS:=hS.cmp hS';clear hS'
  refine zlt<|Zf ?_ ?_<;>intro hc
  ·
   refine zsr<|(On)<|zx2<|Oj ?_
   exact⟨i,rfl,.inr ⟨by omega,Oa,‹¬((ln i)=q/\Btw (f i) (ln i) 1000000)›⟩,hS⟩
  refine zx4<|(zV (Zh (r:=i+1)))<|(zP)<|zln<|zlq ⟨i+1,rfl,Oa,Oa,?_,rfl,hS⟩
  ·
   intro k h0' h1';rcases Int.lt_or_eq_of_le (show k<=i by omega) with hk|hk;exact qa k h0' hk;rw [hk];assumption
 refine zx8<|(zP)<|zx1<|Oj ?_
 exact⟨-1,rfl,.inl ⟨rfl,fun k h0 h1=>qa k h0 Oa⟩,hS⟩
theorem Zn4{n q:Int}{a1:Addr}(w0:World)(hM:MAt w0 v n vv ln f)(hp1:w0.cell? a1=some (.int Oi q))(hq:0<=q/\q<=100):
   Calls Om 159 [v,.func (.func 237) #[] #[.pointer (some a1)]].toArray w0 fun e w=>∃v,e= .returned v/\v=B (∃k,0<=k/\k<n/\(¬((ln k)=q/\Btw (f k) (ln k) 1000000)))/\Sat w0 w []:=by
 refine zenG Tryz.func159 Tryz.ntmps159 fun w hS=> ?_
 refine zsr<|(zP)<|zlz<|(On)<|zlc (xc0 Zdx) (ZnT w (hM.below hS.below) (hS.ref hp1) hq) ?_;rintro _ w ⟨r1,rfl,hr1,hS'⟩
 replace hS:=hS.cmp hS';clear hS'
 refine(On)<|zx1<|Oj ?_
 exact⟨Zm (by
  rcases hr1 with⟨h1,h2⟩|⟨h1,h2,h3⟩
  · exact⟨fun h=>Oa,fun⟨k,h4,h5,h6⟩=>absurd h6 (h2 k h4 h5)⟩
  · exact⟨fun _=>⟨_,h1,h2,h3⟩,fun _=>h1⟩),hS⟩
theorem Ud{vB vF vC:Value}{t:Tb}(w0:World)(hT:TAt w0 vB vF vC vv t):
   Calls Om 291 [.agg #[.int Oi t.vars,.int Oi t.den,vB,vF,vC]].toArray w0 fun e w=>∃v,e= .returned v/\v=B (TPrp t)/\Sat w0 w []:=by
 have hn:=hT.F.slh.n0;have hn1:=hT.F.slh.n1;have hb:=hT.B.slh.n0;have hb1:=hT.B.slh.n1;have hc0:=hT.C.row.slh.n0;have hc1:=hT.C.row.slh.n1
 refine zenG Tryz.func291 Tryz.ntmps291 fun w hS=> ?_
 refine zsr<|zla (xbx (cs:= [_,_,_,_,_]) hS) ?_;rintro _ w ⟨g1,rfl,hS⟩
 refine(zP)<|zx7<|zdst [0] [0] 7 mx_ hS ?_;clear hS;intro w hS
 refine(zDw 0 (xfb 3 fd_107_3))<|(zDl 1 (fun w hS=>(xlb 0 pl_22 hS)))<|(zDw 2 (xln Zb hT.F.slh))<|(zDw 3 (xfb 2 fd_107_2))<|(zDl 4 (fun w hS=>(xlb 0 pl_22 hS)))<|(zDw 5 (xln Zb hT.B.slh))<|zda 6 (xal (cs:= [_]) ZJ hS) ?_;rintro _ w ⟨g2,rfl,hS⟩
 refine⟨⟨fun _=>hS.pk [0],hS.pk [0]⟩,?_⟩
 refine zde 7 (xsb 1 pl_3 hS) ?_;clear hS;rintro w hS
 refine⟨⟨fun h=>absurd h (by decide),hS.pk [0]⟩,?_⟩
 refine(zDw 8 xas)<|zdd<|ztn<|zsq<|zsr ?_
 refine(zV (xlb 1 pl_3 hS))<|(On)<|zlb 16 ?_ ?_<;>intro hc;rotate_left
 refine(zV (xlb 1 pl_3 hS))<|(Oo)<|zlb 20 ?_ ?_<;>intro hc;rotate_left
 refine zs4 ?_
 refine zlb 24 ?_ ?_<;>intro hc;rotate_left
 refine(zV (xfb 0 fd_107_0))<|(zV (xlb 0 pl_3 hS))<|(zV (xlb 1 pl_3 hS))<|(Oo)<|zlb 30 ?_ ?_<;>intro hc;rotate_left
 refine(zV (xfb 1 fd_107_1))<|(zV (xlb 0 pl_3 hS))<|(Oo)<|zlb 35 ?_ ?_<;>intro hc;rotate_left
 refine(zV (xfb 1 fd_107_1))<|(zV (xlb 0 pl_3 hS))<|(Oo)<|zlb 40 ?_ ?_<;>intro hc;rotate_left
 refine(zV (xfb 4 fd_107_4))<|(zV (xlb 0 ZM hS))<|(zV (xln Zk hT.C.row.slh))<|(zP)<|(zV (Zh (r:=t.nb+1)))<|(On)<|zlt<|Zf ?_ ?_<;>intro hc
 ·
  refine zsr<|(zP)<|zx14<|Oj ?_
  exact⟨Zj (by intro hp;have b1:=hp.n1;have b2:=hp.n2;have b3:=hp.m2;have b4:=hp.v;have b5:=hp.d1;have b6:=hp.d2;have b7:=hp.c;first|omega|(have hq1:=(XY Oa yd).2 (hp.perm.congr fun k k0 k1=>(KA t.nf t.nb t.F t.B k0).symm) i Oa Oa;omega)),hS.nl⟩
 refine ZV<|(zV (xfb 3 fd_107_3))<|(zV (xlb 0 pl_22 hS))<|(zV (xfb 2 fd_107_2))<|(zV (xlb 0 pl_22 hS))<|zla (xli (n:=2) (len:=2) (pv:= [(0,vF),(1,vB)]) (cs:= [vF,vB]) (c:=(ZX vF vB)) Zk Yl hS (hf:=by obtain⟨_,_,_,_,rfl,_⟩:=hT.F.slh;obtain⟨_,_,_,_,rfl,_⟩:=hT.B.slh;kernel_rfl)) ?_;rintro v1 w ⟨hS,hv1⟩
 have hna:=Zp1 (w:=w) (a:=vF) (b:=vB) (n:=t.nf) (m:=t.nb) (f:=t.F) (g:=t.B) (hS.rowN 2 rfl) (hT.F.below hS.below) (hT.B.below hS.below)
 have htt:∀k:Int,0<=k->k<=2->tot (ZX t.nf t.nb) k.toNat<=100000:=fun k k0 k1=>by
   have:k=0\/k=1\/k=2:=Oa
   rcases this with rfl|rfl|rfl
   · simp [tot]
   · simp [tot,ZX];omega
   · have e2:=ZiS t.nf t.nb;rw [show(2:Int).toNat=2 from rfl,e2];omega
 refine zlc (xc0 ZmK) (Zip w hna htt) ?_;rintro vq1 w ⟨_,rfl,qb,hS'⟩
 rw [show(2:Int).toNat=2 from rfl,ZiS] at qb hS'
 replace hS:Sat w0 w [.blk g1 [.int Oi t.vars,.int Oi t.den,vB,vF,vC],.blk g2 [.int Oi t.nf],.own v1 1 22 2 (ZX vF vB),.own vq1 1 3 (t.nf+t.nb) (ints (Vq (ZX t.nf t.nb) (ZX t.F t.B) 2))]:=hS.comp hS'
 clear hS'
 refine zlc (xc0 ZmL) (ZhV (n:=(t.nf+t.nb)) w qb) ?_;rintro _ w ⟨gv1,rfl,hS'⟩
 replace hS:=(hS.comp hS').n5;clear hS'
 refine zlc (xc0 ZmM) (Zh1 (n:=(t.nf+t.nb)) (f:=(Vq (ZX t.nf t.nb) (ZX t.F t.B) 2)) w (hS.cellN 4 rfl rfl) (hS.holds _ (List.mem_of_getElem? (i:=3) rfl)) Oa) ?_;rintro vq2 w ⟨_,cV,rfl,qg,yd,hS'⟩
 replace hS:=(hS.comp hS').n6;clear hS'
 refine(zP)<|zx5<|(zP)<|(zV (xln Zb qg))<|(zP)<|zx6<|zlp (fun mm M w=>∃(i:Int),mm=((t.nf+t.nb-i).toNat)/\(0<=i)/\(i<=t.nf+t.nb)/\(∀k,0<=k->k<i->cV k=k)/\M= [(1,Or g1),(3,Or g2),(56,vq2),(57,.int Oi (t.nf+t.nb)),(58,.int Oi i)]/\Sat w0 w [.blk g1 [.int Oi t.vars,.int Oi t.den,vB,vF,vC],.blk g2 [.int Oi t.nf],.own v1 1 22 2 (ZX vF vB),.own vq1 1 3 (t.nf+t.nb) (ints (Vq (ZX t.nf t.nb) (ZX t.F t.B) 2)),.blk gv1 [vq1],.own vq2 1 3 (t.nf+t.nb) (ints cV)]) ⟨0,rfl,Oa,Oa,?_,rfl,hS⟩ ?_
 ·
  intro k h0 h1;omega
 clear hS w
 rintro mm M w ⟨i,rfl,h0,h1,qa,rfl,hS⟩
 refine zsr<|(zP)<|zx7<|Zf ?_ ?_<;>intro hc
 ·
  refine zx3<|(zP)<|(zV (xix (kk:=i) Zb qg))<|(zV (xlr (u:= .int Oi (cV i)) pl_3 (hS.rowN 5 rfl)))<|(On)<|zlz<|(Oo)<|zlt<|Zf ?_ ?_<;>intro hc
  ·
   refine zsr<|(zP)<|zx2<|Oj ?_
   exact⟨Zj (by intro hp;have b1:=hp.n1;have b2:=hp.n2;have b3:=hp.m2;have b4:=hp.v;have b5:=hp.d1;have b6:=hp.d2;have b7:=hp.c;first|omega|(have hq1:=(XY Oa yd).2 (hp.perm.congr fun k k0 k1=>(KA t.nf t.nb t.F t.B k0).symm) i Oa Oa;omega)),hS.nl⟩
  refine zx4<|(zV (Zh (r:=i+1)))<|(zP)<|zln<|zlq ⟨i+1,rfl,Oa,Oa,?_,rfl,hS⟩
  ·
   intro k h0' h1';rcases Int.lt_or_eq_of_le (show k<=i by omega) with hk|hk;exact qa k h0' hk;rw [hk];omega
 refine zx8<|(zV (xfb 4 fd_107_4))<|(zV (xlb 0 ZM hS))<|(zV xmf)<|zlc (xc0 Zdy) (Zn6 (n:=t.nc) (q:=t.nf) (vv:=vv) (ln:=t.ln) (f:=t.C) w (hT.C.below hS.below) (hS.cellN 1 rfl rfl) Oa) ?_;rintro _ w ⟨rfl,hS'⟩
 replace hS:=hS.cmp hS';clear hS'
 refine(On)<|zx1<|Oj ?_
 refine⟨Zm ⟨fun hx=> ?_,fun hp hx=> ?_⟩,hS.nl⟩
 · refine⟨by omega,Oa,Oa,Oa,Oa,Oa,Oa,((XY Oa yd).1 fun k k0 k1=>qa k k0 Oa).congr fun k k0 k1=>KA t.nf t.nb t.F t.B k0,fun k k0 k1=> ?_⟩
   have hy:=Od fun hh=>hx ⟨k,k0,k1,hh⟩
   exact⟨hy.1,hy.2⟩
 · obtain⟨k,k0,k1,hh⟩:=hx
   have hr:=hp.rows k k0 k1
   exact hh ⟨hr.1,hr.2⟩
 all_goals
  refine zOps ?_
  refine zlt<|zct<|zsr ?_
  refine zOps ?_
  refine zx14<|Oj ?_
  exact⟨Zj (by intro hp;have b1:=hp.n1;have b2:=hp.n2;have b3:=hp.m2;have b4:=hp.v;have b5:=hp.d1;have b6:=hp.d2;have b7:=hp.c;first|omega|(have hq1:=(XY Oa yd).2 (hp.perm.congr fun k k0 k1=>(KA t.nf t.nb t.F t.B k0).symm) i Oa Oa;omega)),hS.nl⟩
end Go.Proofs.YtpnamgfdakfccaaGreat
namespace Go.Proofs.YtpnamgfdakfccaaGreat
open Go Go.RowKit Go.Proofs.Gw
theorem ZhG:Zd Om 238=true:=Oc
theorem ZaU:Zd Om 291=true:=Oc
theorem Zn:Zx Om 107=some 5:=Oc
theorem Uf{v:Value}{n:Int}{vv:Int->Value}{ln:Of}{f:Og}(w0:World)(hM:MAt w0 v n vv ln f)(hn2:n<=1000)(hll:∀k,0<=k->k<n->ln k<=1000):
   Calls Om 170 [v].toArray w0 fun e w=>∃v,e= .returned v/\∃vo vw,v=vo/\Slh vo n/\Sat w0 w [.own vo 1 22 n vw,.sem (Frame.rows 3 n vw ln f)]:=by
 have hn:=hM.row.slh.n0;have hn1:=hM.row.slh.n1
 refine zenG Tryz.func170 Tryz.ntmps170 fun w hS=> ?_
 refine zsr<|(zP)<|zlz<|(zP)<|(zV (xln Zk hM.row.slh))<|zla (xmk Zk Yl hS) ?_;rintro v1 w ⟨hS,hv1⟩
 refine(zP)<|zx5<|(zP)<|(zV (xln Zk hM.row.slh))<|(zP)<|zx6 ?_
 replace hS:=hS.addrows 3 (fun _=>Oh) ln f
 refine zlp (fun mm M w=>∃(c:Int->Value) (i:Int),mm=((n-i).toNat)/\(0<=i)/\(i<=n)/\M= [(2,Oh),(3,v1),(9,v),(10,.int Oi n),(11,.int Oi i)]/\Sat w0 w [.own v1 1 22 n c,.sem (Frame.rows 3 i c ln f)]) ⟨(fun _=>Oh),0,rfl,Oa,Oa,rfl,hS⟩ ?_
 clear hS w
 rintro mm M w ⟨c,i,rfl,h0,h1,rfl,hS⟩
 have xp:=fun k (k0:0<=k) (k1:k<i)=>hS.slhIn 1 rfl k0 k1
 refine zsr<|(zP)<|zx7<|Zf ?_ ?_<;>intro hc
 ·
  refine zx3<|(zP)<|(zV (xix (kk:=i) Zk hM.row.slh))<|zlv (xlr (u:=(vv i)) pl_22 (hM.row.below hS.below)) ?_
  have hli:=hll i h0 Oa;have hl0:=(hM.p i h0 Oa).slh.n0
  refine(On)<|zlz<|(Oo)<|(zV (xln Zb (hM.p i Oa Oa).slh))<|zla (xmk Zb ZJ hS) ?_;rintro v2 w ⟨hS,hv2⟩
  refine(zV (xix (kk:=i) Zk hv1))<|zle (xso 0 pl_22 hS rfl (hv:=hv2.one)) ?_;clear hS;rintro w hS
  refine zlt<|zrg<|(On)<|(zV (xix (kk:=i) Zk hv1))<|(zV (xlr (u:=v2) pl_22 (hS.rowN 0 rfl) (e:=(gu_self _ _ _))))<|(zP)<|KQ rfl rfl rfl (V9 2 rfl Zb rfl rfl hS rfl ((hM.p i Oa Oa).below hS.below) (fun _ _ _=>rfl)) ?_;rintro _ w ⟨rfl,hS⟩
  replace hS:=Sat.merge (l1:= [.own v1 1 22 n (upd c i (v2))]) (l2:= []) (l3:= []) hS Oa
  replace hS:=hS.rerows (vv':=upd c i (v2)) (ln':=ln) (f':=f) 1 rfl (fun k k0 k1=>by
    by_cases e:k<i
    · rw [Zq e,Zq e,Zq e];exact⟨(gu_ne Oa).symm,rfl,fun _ _ _=>rfl⟩
    · obtain rfl:i=k:=Oa;rw [Y1,Y1,Y1];exact⟨(gu_self _ _ _).symm,rfl,fun _ _ _=>rfl⟩)
  refine zx10<|(zV (Zh (r:=i+1)))<|(zP)<|zln<|zlq ⟨upd c i (v2),i+1,rfl,Oa,Oa,rfl,hS⟩
 refine zx8<|(On)<|zx1<|Oj ?_
 obtain rfl:i=n:=Oa
 exact⟨_,_,rfl,hv1,hS⟩
theorem ZnK{vB vF vC:Value}{vv:Int->Value}{t:Tb}(w0:World)(hT:TAt w0 vB vF vC vv t):
   Calls Om 239 [.agg #[.int Oi t.vars,.int Oi t.den,vB,vF,vC]].toArray w0 fun e w=>∃v,e= .returned v/\∃r c d e,v= .tuple #[.int Oi r,.int Oi c,.bool d,.int Oi e]/\NextR t r c d e/\Sat w0 w []:=by
 have hn:=hT.F.slh.n0;have hn1:=hT.F.slh.n1;have hb:=hT.B.slh.n0;have hb1:=hT.B.slh.n1;have hc0:=hT.C.row.slh.n0;have hc1:=hT.C.row.slh.n1
 refine zenG Tryz.func239 Tryz.ntmps239 fun w hS=> ?_
 refine zsr<|zla (xbx (cs:= [_,_,_,_,_]) hS) ?_;rintro _ w ⟨g1,rfl,hS⟩
 refine zs4 ?_
 refine zx5<|(zV (xls 0 Zn hS))<|zlc (xc0 ZaU) (Ud (t:=t) w (hT.below hS.below)) ?_;rintro _ w ⟨rfl,hS'⟩
 replace hS:=hS.cmp hS';clear hS'
 refine(On)<|zlb 17 ?_ ?_<;>intro hc
 ·
  iterate 7 refine zlo ?_
  refine(zP)<|zlt<|zct<|zsr ?_
  refine zs4 ?_
  refine zx14<|zf4 ⟨_,rfl,?_⟩
  refine⟨_,_,_,_,rfl,.inl ⟨?_,rfl,rfl,rfl,rfl⟩,hS.nl⟩
  first|exact fun hh=>absurd hh.1 ‹_›|(rintro⟨_,hco⟩;obtain⟨k,k0,k1,k2⟩:=ya;have:=hco (k+1) Oa Oa;omega)
 refine zlv (xfb 4 fd_107_4) ?_
 have hp:=(Od ‹¬¬(TPrp t)›)
 have b1:=hp.n1
 have b2:=hp.n2
 have b3:=hp.m2
 have b4:=hp.v
 have b5:=hp.d1
 have b6:=hp.d2
 have b7:=hp.c
 have hl0:=hp.len (i:=0) Oa Oa
 refine(zV (xlb 0 ZM hS))<|(zV (xix (kk:=0) Zk hT.C.row.slh))<|(zV (xlr (u:=(vv 0)) pl_22 (hT.C.row.below hS.below)))<|KP rfl rfl rfl (YS (q:=1) rfl Zb rfl rfl rfl (hT.C.p 0 Oa Oa).slh rfl Oa Oa) ?_
 refine zlc (xc0 ZhG) (Zk7 (n:=((t.ln 0)-1)) (f:=(fun k=>(t.C 0) (k+1))) w ((YV (q:=1) (hT.C.p 0 Oa Oa).slh (hT.C.room 0 Oa Oa) Oa).row Oa ((hT.C.p 0 Oa Oa).below hS.below)) Oa) ?_;rintro _ w ⟨x1,rfl,ya,yA,hS'⟩
 replace hS:=hS.cmp hS';clear hS'
 refine(On)<|zlt<|Zf ?_ ?_<;>intro hc
 ·
  refine zsr<|zs4 ?_
  refine zx14<|zf4 ⟨_,rfl,?_⟩
  refine⟨_,_,_,_,rfl,.inl ⟨?_,rfl,rfl,rfl,rfl⟩,hS.nl⟩
  first|exact fun hh=>absurd hh.1 ‹_›|(rintro⟨_,hco⟩;obtain⟨k,k0,k1,k2⟩:=ya;have:=hco (k+1) Oa Oa;omega)
 refine ZV<|(zP)<|zx5<|(zV (xfb 2 fd_107_2))<|(zV (xlb 0 pl_22 hS))<|(zV (xln Zb hT.B.slh))<|(zP)<|zx6<|zlp (fun mm M w=>∃(r:Int) (i:Int),mm=((t.nb-i).toNat)/\(0<=i)/\(i<=t.nb)/\(r=YA t i.toNat)/\M= [(1,Or g1),(2,.int Oi r),(3,.int Oi 0),(4,.bool false),(5,.int Oi 0),(27,vB),(28,.int Oi t.nb),(29,.int Oi i)]/\Sat w0 w [.blk g1 [.int Oi t.vars,.int Oi t.den,vB,vF,vC]]) ⟨(-1),0,rfl,Oa,Oa,?_,rfl,hS⟩ ?_
 ·
  rfl
 clear hS w
 rintro mm M w ⟨r,i,rfl,h0,h1,hr,rfl,hS⟩
 have hrr:=YZ t i.toNat;rw [<-hr] at hrr
 refine zsr<|(zP)<|zx7<|Zf ?_ ?_<;>intro hc
 ·
  refine zx3<|(zP)<|(zV (xix (kk:=i) Zb hT.B.slh))<|(zV (xlr (u:= .int Oi (t.B i)) pl_3 (hT.B.below hS.below)))<|(On)<|zlz<|(zV (xfb 4 fd_107_4))<|(zV (xlb 0 ZM hS))<|(zP)<|(zV (Zh (r:=i+1)))<|(zV (xix (kk:=i+1) Zk hT.C.row.slh))<|zlv (xlr (u:=(vv (i+1))) pl_22 (hT.C.row.below hS.below)) ?_
  have xg:=hp.len (i:=i+1) Oa Oa
  refine(zV (xix (kk:=0) Zb (hT.C.p (i+1) Oa Oa).slh))<|(zV (xlr (u:= .int Oi ((t.C (i+1)) 0)) pl_3 ((hT.C.p (i+1) Oa Oa).below hS.below)))<|(On)<|zlb 43 ?_ ?_<;>intro hc
  ·
   refine zs3 ?_
   have hrr:=YZ t i.toNat;rw [<-hr] at hrr
   refine zlb 46 ?_ ?_<;>intro hc
   ·
    iterate 7 refine zlo ?_
    refine(On)<|zlt<|zct<|zrg ?_
    refine(On)<|zx10<|(zV (Zh (r:=i+1)))<|(zP)<|zln<|zlq ⟨i,i+1,rfl,Oa,Oa,?_,rfl,hS⟩
    ·
     rw [Vf t h0,<-hr];split<;>omega
   refine(zP)<|(zV (xfb 2 fd_107_2))<|(zV (xlb 0 pl_22 hS))<|(zP)<|(zV (xix (kk:=r) Zb hT.B.slh))<|(zV (xlr (u:= .int Oi (t.B r)) pl_3 (hT.B.below hS.below)))<|(Oo)<|zlt<|Zf ?_ ?_<;>intro hc
   ·
    refine zrg<|(On)<|zx10<|(zV (Zh (r:=i+1)))<|(zP)<|zln<|zlq ⟨i,i+1,rfl,Oa,Oa,?_,rfl,hS⟩
    ·
     rw [Vf t h0,<-hr];split<;>omega
   refine zx4<|(zV (Zh (r:=i+1)))<|(zP)<|zln<|zlq ⟨r,i+1,rfl,Oa,Oa,?_,rfl,hS⟩
   ·
    rw [Vf t h0,<-hr];split<;>omega
  iterate 11 refine zlo ?_
  refine(zP)<|zlt<|zcf<|zsk<|zbn<|ztn<|zrg ?_
  refine(zV (Zh (r:=i+1)))<|(zP)<|zln<|zlq ⟨r,i+1,rfl,Oa,Oa,?_,rfl,hS⟩
  ·
   rw [Vf t h0,<-hr];split<;>omega
 refine zx18<|(On)<|zlt<|Zf ?_ ?_<;>intro hc
 ·
  refine zsr<|zs4 ?_
  refine zx14<|zf4 ⟨_,rfl,?_⟩
  obtain rfl:i=t.nb:=Oa
  exact⟨_,_,_,_,rfl,.inr (.inl ⟨hp,(fun j j0 j1=>by have:=yA (j-1) Oa Oa;rw [show j-1+1=j by omega] at this;omega),Oa,rfl,rfl,rfl,rfl⟩),hS.nl⟩
 refine ZV<|(zP)<|zx7<|zdst [0] [0] 1000 mx_ hS ?_;clear hS;intro w hS
 refine zDrv 0 (xfb 4 fd_107_4) ?_
 have hin:i=t.nb:=Oa
 have hrr:=YZ t i.toNat;rw [<-hr] at hrr;have hlr:=hp.len (i:=r+1) Oa Oa
 refine(zDl 1 (fun w hS=>(xlb 0 ZM hS)))<|(zDw 2 (xix (kk:=0) Zk hT.C.row.slh))<|(zDl 3 (fun w hS=>(xlr (u:=(vv 0)) pl_22 (hT.C.row.below hS.below))))<|Zld 4 rfl rfl rfl rfl (by kernel_rfl) rfl (fun w=>(YS (q:=1) rfl Zb rfl rfl rfl (hT.C.p 0 Oa Oa).slh rfl Oa Oa)) ?_
 refine(zDw 5 (xfb 4 fd_107_4))<|(zDl 6 (fun w hS=>(xlb 0 ZM hS)))<|(zDw 7 xmv)<|(zDw 8 (Zh (r:=r+1)))<|(zDw 9 (xix (kk:=r+1) Zk hT.C.row.slh))<|(zDl 10 (fun w hS=>(xlr (u:=(vv (r+1))) pl_22 (hT.C.row.below hS.below))))<|Zld 11 rfl rfl rfl rfl (by kernel_rfl) rfl (fun w=>(YS (q:=1) rfl Zb rfl rfl rfl (hT.C.p (r+1) Oa Oa).slh rfl Oa Oa)) ?_
 refine(zDw 12 xas)<|(zDw 13 xas)<|zdd<|ztn<|zsq<|zsr ?_
 refine(zP)<|(zV (xln Zb (YV (q:=1) (hT.C.p (r+1) Oa Oa).slh (hT.C.room (r+1) Oa Oa) Oa).slh))<|(zP)<|zx6<|zlp (fun mm M w=>∃(c:Int) (j:Int),mm=((t.nf-j).toNat)/\(0<=j)/\(j<=t.nf)/\(c=Z9 t r j.toNat)/\M= [(1,Or g1),(2,.int Oi r),(3,.int Oi c),(4,.bool false),(5,.int Oi 0),(8,(Xv (vv 0) 1)),(9,(Xv (vv (r+1)) 1)),(72,(Xv (vv (r+1)) 1)),(73,.int Oi ((t.ln (r+1))-1)),(74,.int Oi j)]/\Sat w0 w [.blk g1 [.int Oi t.vars,.int Oi t.den,vB,vF,vC]]) ⟨(-1),0,rfl,Oa,Oa,?_,rfl,hS⟩ ?_
 ·
  rfl
 clear hS w
 rintro mm M w ⟨c,j,rfl,j0,j1,hcc,rfl,hS⟩
 have hcr:=Wk t r j.toNat;rw [<-hcc] at hcr
 refine zsr<|(zP)<|zx7<|Zf ?_ ?_<;>intro hc
 ·
  refine zx3<|(zP)<|(zV (xix (kk:=j) Zb (YV (q:=1) (hT.C.p (r+1) Oa Oa).slh (hT.C.room (r+1) Oa Oa) Oa).slh))<|(zV (xlr (u:= .int Oi ((t.C (r+1)) (j+1))) pl_3 ((YV (q:=1) (hT.C.p (r+1) Oa Oa).slh (hT.C.room (r+1) Oa Oa) Oa).row Oa ((hT.C.p (r+1) Oa Oa).below hS.below))))<|(On)<|zx5<|(On)<|zlt<|Zf ?_ ?_<;>intro hc
  ·
   refine zxt<|ztx<|zbh<|ztn<|zrg<|(zV (Zh (r:=j+1)))<|(zP)<|zln<|zlq ⟨c,j+1,rfl,Oa,Oa,?_,rfl,hS⟩
   ·
    rw [XB t r j0,<-hcc];(repeat' split)<;>omega
  refine zsk<|ztn<|zsq<|zsr<|zs2 ?_
  have hcr:=Wk t r j.toNat;rw [<-hcc] at hcr
  refine zlt<|Zf ?_ ?_<;>intro hc
  ·
   refine zsq<|zdst [0] [0] 1000 mx_ hS ?_;clear hS;intro w hS
   refine zDrv 0 xmv ?_
   have hm1:=Wx (hp.cell (i:=0) (j:=j+1) Oa Oa Oa Oa) (hp.cell (i:=r+1) (j:=c+1) Oa Oa Oa Oa);have hm2:=Wx (hp.cell (i:=0) (j:=c+1) Oa Oa Oa Oa) (hp.cell (i:=r+1) (j:=j+1) Oa Oa Oa Oa)
   have hne:t.F j≠t.F c:=fun hh=>by have:=hp.injF (i:=j) (j:=c) Oa Oa Oa Oa Oa hh;omega
   refine(zDw 1 xmv)<|(zDw 2 (xix (kk:=j) Zb (YV (q:=1) (hT.C.p 0 Oa Oa).slh (hT.C.room 0 Oa Oa) Oa).slh))<|(zDl 3 (fun w hS=>(xlr (u:= .int Oi ((t.C 0) (j+1))) pl_3 ((YV (q:=1) (hT.C.p 0 Oa Oa).slh (hT.C.room 0 Oa Oa) Oa).row Oa ((hT.C.p 0 Oa Oa).below hS.below)))))<|(zDw 4 xmv)<|(zDw 5 xmv)<|(zDw 6 (xix (kk:=c) Zb (YV (q:=1) (hT.C.p (r+1) Oa Oa).slh (hT.C.room (r+1) Oa Oa) Oa).slh))<|(zDl 7 (fun w hS=>(xlr (u:= .int Oi ((t.C (r+1)) (c+1))) pl_3 ((YV (q:=1) (hT.C.p (r+1) Oa Oa).slh (hT.C.room (r+1) Oa Oa) Oa).row Oa ((hT.C.p (r+1) Oa Oa).below hS.below)))))<|zdv 8 (fun _=>(Yi (r:=(((t.C 0) (j+1))*((t.C (r+1)) (c+1)))) (e:=rfl) (hr:=(by unfold I64;omega)))) ?_
   refine(zDw 9 xmv)<|(zDw 10 xmv)<|(zDw 11 (xix (kk:=c) Zb (YV (q:=1) (hT.C.p 0 Oa Oa).slh (hT.C.room 0 Oa Oa) Oa).slh))<|(zDl 12 (fun w hS=>(xlr (u:= .int Oi ((t.C 0) (c+1))) pl_3 ((YV (q:=1) (hT.C.p 0 Oa Oa).slh (hT.C.room 0 Oa Oa) Oa).row Oa ((hT.C.p 0 Oa Oa).below hS.below)))))<|(zDw 13 xmv)<|zdv 14 (fun _=>(Yi (r:=(((t.C 0) (c+1))*((t.C (r+1)) (j+1)))) (e:=rfl) (hr:=(by unfold I64;omega)))) ?_
   refine(zDw 15 xas)<|(zDw 16 xas)<|zdd<|ztn<|zsq ?_
   refine zdst [0] [0] 1000 mx_ hS ?_;clear hS;intro w hS
   refine(zDw 0 xmv)<|(zDw 1 xmv)<|(zDw 2 Yw)<|(zDw 3 xmv)<|zdb 101 ?_ ?_<;>intro hc
   ·
    refine(zDo 4)<|(zDo 5)<|(zDo 6)<|(zDo 7)<|(zDo 8)<|(zDo 9)<|(zDo 10)<|(zDo 11)<|(zDo 12)<|(zDo 13)<|(zDo 14)<|(zDo 15)<|(zDo 16)<|(zDo 17)<|Zbj 18 ?_
    refine(zDo 19)<|(zDw 20 xpt)<|zdd<|ztn<|zct<|zxt<|ztx<|zbh<|ztn<|zrg ?_
    refine(zV (Zh (r:=j+1)))<|(zP)<|zln<|zlq ⟨c,j+1,rfl,Oa,Oa,?_,rfl,hS⟩
    ·
     rw [XB t r j0,<-hcc];(repeat' split)<;>omega
   refine(zDw 4 xmv)<|(zDw 5 xmv)<|(zDw 6 YT)<|(zDw 7 xmv)<|zdb 105 ?_ ?_<;>intro hc
   ·
    refine(zDw 8 (xfb 3 fd_107_3))<|(zDl 9 (fun w hS=>(xlb 0 pl_22 hS)))<|(zDw 10 xmv)<|(zDw 11 (xix (kk:=j) Zb hT.F.slh))<|(zDl 12 (fun w hS=>(xlr (u:= .int Oi (t.F j)) pl_3 (hT.F.below hS.below))))<|(zDw 13 (xfb 3 fd_107_3))<|(zDl 14 (fun w hS=>(xlb 0 pl_22 hS)))<|(zDw 15 xmv)<|(zDw 16 (xix (kk:=c) Zb hT.F.slh))<|(zDl 17 (fun w hS=>(xlr (u:= .int Oi (t.F c)) pl_3 (hT.F.below hS.below))))<|(zDw 18 Yw)<|(zDw 19 xpt)<|(zDw 20 xpf)<|zdd<|ztn ?_
    refine Zf ?_ ?_<;>intro hc
    ·
     refine zxt<|ztx<|zbh<|ztn<|zrg<|(zV (Zh (r:=j+1)))<|(zP)<|zln<|zlq ⟨c,j+1,rfl,Oa,Oa,?_,rfl,hS⟩
     ·
      rw [XB t r j0,<-hcc];(repeat' split)<;>omega
    refine zsk<|ztn<|zrg<|(On)<|zx10<|(zV (Zh (r:=j+1)))<|(zP)<|zln<|zlq ⟨j,j+1,rfl,Oa,Oa,?_,rfl,hS⟩
    ·
     rw [XB t r j0,<-hcc];(repeat' split)<;>omega
   refine(zDo 8)<|(zDo 9)<|(zDo 10)<|(zDo 11)<|(zDo 12)<|(zDo 13)<|(zDo 14)<|(zDo 15)<|(zDo 16)<|(zDo 17)<|(zDo 18)<|(zDw 19 xpf)<|(zDw 20 xpf)<|zdd<|ztn<|zcf<|zsk<|ztn<|zrg ?_
   refine(On)<|zx10<|(zV (Zh (r:=j+1)))<|(zP)<|zln<|zlq ⟨j,j+1,rfl,Oa,Oa,?_,rfl,hS⟩
   ·
    rw [XB t r j0,<-hcc];(repeat' split)<;>omega
  refine zsk<|ztn<|zrg<|(On)<|zx10<|(zV (Zh (r:=j+1)))<|(zP)<|zln<|zlq ⟨j,j+1,rfl,Oa,Oa,?_,rfl,hS⟩
  ·
   rw [XB t r j0,<-hcc];(repeat' split)<;>omega
 refine zx18<|(On)<|zlt<|Zf ?_ ?_<;>intro hc
 ·
  refine zsr<|zs4 ?_
  refine zx14<|zf4 ⟨_,rfl,?_⟩
  obtain rfl:i=t.nb:=Oa
  obtain rfl:j=t.nf:=Oa
  subst hr;exact⟨_,_,_,_,rfl,.inr (.inr (.inl ⟨hp,(fun j j0 j1=>by have:=yA (j-1) Oa Oa;rw [show j-1+1=j by omega] at this;omega),Oa,Oa,rfl,rfl,rfl,rfl⟩)),hS.nl⟩
 refine ZV<|zs6 ?_
 refine zx1<|zf4 ⟨_,rfl,?_⟩
 obtain rfl:i=t.nb:=Oa
 obtain rfl:j=t.nf:=Oa
 subst hr;exact⟨_,_,_,_,rfl,.inr (.inr (.inr ⟨hp,(fun j j0 j1=>by have:=yA (j-1) Oa Oa;rw [show j-1+1=j by omega] at this;omega),Oa,Oa,rfl,hcc,rfl,rfl⟩)),hS.nl⟩
theorem ZaY:Zd Om 170=true:=Oc
theorem cl_66:Zd Om 66=true:=Oc
theorem Xk:ZN Om 107=some (.agg #[.int Oi 0,.int Oi 0,Oh,Oh,Oh],5,88):=Oc
theorem Zkg{vB vF vC:Value}{vv:Int->Value}{t:Tb}{row col:Int}(w0:World)(hT:TAt w0 vB vF vC vv t)(kr: -9223372036854775808<=row/\row<=9223372036854775807)(kA: -9223372036854775808<=col/\col<=9223372036854775807):
   Calls Om 240 [.agg #[.int Oi t.vars,.int Oi t.den,vB,vF,vC],.int Oi row,.int Oi col].toArray w0 fun e w=>∃v,e= .returned v/\∃vB vF vC vv t' e,v= .tuple #[.agg #[.int Oi t'.vars,.int Oi t'.den,vB,vF,vC],.int Oi e]/\PivR t row col t' e/\Slh vB t'.nb/\Slh vF t'.nf/\Slh vC t'.nc/\Sat w0 w [.own vB 1 3 t'.nb (ints t'.B),.own vF 1 3 t'.nf (ints t'.F),.own vC 1 22 t'.nc vv,.sem (Frame.rows 3 t'.nc vv t'.ln t'.C)]:=by
 have hn:=hT.F.slh.n0;have hn1:=hT.F.slh.n1;have hb:=hT.B.slh.n0;have hb1:=hT.B.slh.n1;have hc0:=hT.C.row.slh.n0;have hc1:=hT.C.row.slh.n1
 refine zenG Tryz.func240 Tryz.ntmps240 fun w hS=> ?_
 refine zsr<|zla (xbx (cs:= [_,_,_,_,_]) hS) ?_;rintro _ w ⟨g1,rfl,hS⟩
 refine zla (xal (cs:= [_,_,_,_,_]) Xk hS) ?_;rintro _ w ⟨g2,rfl,hS⟩
 refine(zP)<|zx5<|(zV (xls 0 Zn hS))<|zlc (xc0 ZaU) (Ud (t:=t) w (hT.below hS.below)) ?_;rintro _ w ⟨rfl,hS'⟩
 replace hS:=hS.cmp hS';clear hS'
 refine(On)<|zlb 23 ?_ ?_<;>intro hc;rotate_left
 refine zlv xmv ?_
 have hp:=(Od ‹¬¬(TPrp t)›)
 have b1:=hp.n1
 have b2:=hp.n2
 have b3:=hp.m2
 have b4:=hp.v
 have b5:=hp.d1
 have b6:=hp.d2
 have b7:=hp.c
 refine(Oo)<|zlb 27 ?_ ?_<;>intro hc;rotate_left
 refine(zP)<|(zV (xfb 2 fd_107_2))<|(zV (xlb 0 pl_22 hS))<|(zV (xln Zb hT.B.slh))<|(Oo)<|zlb 34 ?_ ?_<;>intro hc;rotate_left
 refine zs4 ?_
 refine zlb 38 ?_ ?_<;>intro hc;rotate_left
 refine(zP)<|(zV (xfb 3 fd_107_3))<|(zV (xlb 0 pl_22 hS))<|(zV (xln Zb hT.F.slh))<|(Oo)<|zlb 45 ?_ ?_<;>intro hc;rotate_left
 refine(zV (xfb 4 fd_107_4))<|(zV (xlb 0 ZM hS))<|(zP)<|(zV (Zh (r:=row+1)))<|(zV (xix (kk:=row+1) Zk hT.C.row.slh))<|zlv (xlr (u:=(vv (row+1))) pl_22 (hT.C.row.below hS.below)) ?_
 have hlr:=hp.len (i:=row+1) Oa Oa
 refine(zP)<|(zV (Zh (r:=col+1)))<|(zV (xix (kk:=col+1) Zb (hT.C.p (row+1) Oa Oa).slh))<|(zV (xlr (u:= .int Oi ((t.C (row+1)) (col+1))) pl_3 ((hT.C.p (row+1) Oa Oa).below hS.below)))<|(On)<|zlt<|Zf ?_ ?_<;>intro hc
 ·
  refine zsr<|(zV (xany (v:= .agg #[.int Oi 0,.int Oi 0,Oh,Oh,Oh])))<|zle (xsw 1 Zn hS) ?_;clear hS;rintro w hS
  refine(zP)<|zx14<|Ym 1 Zn hS ⟨_,rfl,?_⟩
  exact⟨_,_,_,fun _=>undef,Tb.zero,1,rfl,.inl ⟨by first|exact fun hh=>absurd hh.1 ‹_›|(rintro⟨_,p1,p2,p3,p4,p5⟩;omega),rfl,rfl⟩,slh_nil,slh_nil,slh_nil,((((hS.sub (.cons _ (.cons _ .slnil))).addnil 1 3 (ints Tb.zero.B)).addnil 1 3 (ints Tb.zero.F)).addnil 1 22 (fun _=>undef)).addrows 3 (fun _=>undef) Tb.zero.ln Tb.zero.C⟩
 refine ZV<|(zP)<|zlv (Zh (r:=row+1)) ?_
 have hnz:t.C (row+1) (col+1)≠0:=Oa
 have hpb:=hp.cell (i:=row+1) (j:=col+1) Oa Oa Oa Oa
 refine(zP)<|(zV (Zh (r:=col+1)))<|(On)<|zx7<|zdst [0,1] [0,1] 1000 mx_ hS ?_;clear hS;intro w hS
 refine(zDw 0 (xfb 4 fd_107_4))<|(zDl 1 (fun w hS=>(xlb 0 ZM hS)))<|(zDw 2 xmv)<|(zDw 3 (xix (kk:=row+1) Zk hT.C.row.slh))<|(zDl 4 (fun w hS=>(xlr (u:=(vv (row+1))) pl_22 (hT.C.row.below hS.below))))<|(zDw 5 xmv)<|(zDw 6 (xix (kk:=col+1) Zb (hT.C.p (row+1) Oa Oa).slh))<|(zDl 7 (fun w hS=>(xlr (u:= .int Oi ((t.C (row+1)) (col+1))) pl_3 ((hT.C.p (row+1) Oa Oa).below hS.below))))<|(zDw 8 (xfb 1 fd_107_1))<|(zDl 9 (fun w hS=>(xlb 0 pl_3 hS)))<|(zDw 10 xas)<|(zDw 11 xas)<|zdd<|ztn<|zsq<| ?_
 refine VI (fun M w=>∃(g3:Nat) (vq1:Value) (vq2:Value) (qh:Value) (qn:Int->Value),(Slh vq1 t.nb)/\(Slh vq2 t.nf)/\(Slh qh t.nc)/\(∀k,0<=k->k<t.nc->Slh (qn k) (t.ln k))/\M= [(0,.agg #[.int Oi t.vars,.int Oi t.den,vB,vF,vC]),(1,.int Oi row),(2,.int Oi col),(3,Or g1),(6,Or g2),(7,.int Oi 0),(20,.agg #[.int Oi t.vars,.int Oi t.den,vB,vF,vC]),(21,B (TPrp t)),(22,B (¬(TPrp t))),(23,.bool false),(24,.int Oi row),(25,B (row<0)),(26,B (row<0)),(27,.bool false),(28,.int Oi row),(29,.pointer (some ⟨g1,2,none⟩)),(30,vB),(31,.int Oi t.nb),(32,B (t.nb<=row)),(33,B (t.nb<=row)),(34,.bool false),(35,.int Oi col),(36,B (col<0)),(37,B (col<0)),(38,.bool false),(39,.int Oi col),(40,.pointer (some ⟨g1,3,none⟩)),(41,vF),(42,.int Oi t.nf),(43,B (t.nf<=col)),(44,B (t.nf<=col)),(45,.bool false),(46,.pointer (some ⟨g1,4,none⟩)),(47,vC),(48,.int Oi row),(49,.int Oi (row+1)),(50,.pointer (some (cad vC (row+1)))),(51,(vv (row+1))),(52,.int Oi col),(53,.int Oi (col+1)),(54,.pointer (some (cad (vv (row+1)) (col+1)))),(55,.int Oi ((t.C (row+1)) (col+1))),(56,B (((t.C (row+1)) (col+1))=0)),(57,B (((t.C (row+1)) (col+1))=0)),(59,.int Oi row),(60,.int Oi (row+1)),(61,.int Oi col),(62,.int Oi (col+1)),(8,.int Oi (row+1)),(9,.int Oi (col+1)),(63,.pointer (some ⟨g1,4,none⟩)),(64,vC),(65,.int Oi (row+1)),(66,.pointer (some (cad vC (row+1)))),(67,(vv (row+1))),(68,.int Oi (col+1)),(69,.pointer (some (cad (vv (row+1)) (col+1)))),(70,.int Oi ((t.C (row+1)) (col+1))),(71,.pointer (some ⟨g1,1,none⟩)),(72,.int Oi t.den),(10,.int Oi ((t.C (row+1)) (col+1))),(11,.int Oi t.den),(73,Or g1),(74,.int Oi t.vars),(75,.int Oi ((t.C (row+1)) (col+1))),(76,.pointer (some ⟨g1,2,none⟩)),(77,vB),(79,.pointer (some ⟨g1,3,none⟩)),(80,vF),(82,.pointer (some ⟨g1,4,none⟩)),(83,vC),(78,vq1),(81,vq2),(84,qh),(85,.agg #[.int Oi t.vars,.int Oi ((t.C (row+1)) (col+1)),vq1,vq2,qh]),(12,Or g3)]/\Sat w0 w [.blk g1 [.int Oi t.vars,.int Oi t.den,vB,vF,vC],.blk g2 [.int Oi 0,.int Oi 0,Oh,Oh,Oh],.own vq1 1 3 t.nb (ints t.B),.own vq2 1 3 t.nf (ints t.F),.own qh 1 22 t.nc qn,.sem (Frame.rows 3 t.nc qn t.ln t.C),.blk g3 [.int Oi t.vars,.int Oi ((t.C (row+1)) (col+1)),vq1,vq2,qh]]) ?_ ?_
 ·
  refine zdst [0,1] [0,1] 14 mx_ hS ?_;clear hS;intro w hS
  refine(zDw 0 (xfb 0 fd_107_0))<|(zDl 1 (fun w hS=>(xlb 0 pl_3 hS)))<|(zDw 2 xmv)<|(zDw 3 (xfb 2 fd_107_2))<|(zDl 4 (fun w hS=>(xlb 0 pl_22 hS)))<|(zDw 6 (xfb 3 fd_107_3))<|(zDl 7 (fun w hS=>(xlb 0 pl_22 hS)))<|(zDw 9 (xfb 4 fd_107_4))<|(zDl 10 (fun w hS=>(xlb 0 ZM hS)))<|U4 (r:= [5,13]) ((Xt ?_ (Xt ?_ U3)))
  ·
   refine zkc (xc0 cl_66) (c_clone (n:=t.nb) (f:=t.B) w (hT.B.below hS.below) Oa) ?_;rintro vq1 w ⟨_,rfl,qb,hS'⟩
   replace hS:=(hS.comp hS').n3;clear hS'
   refine⟨⟨fun _=>hS.pk [0,1],hS.pk [0,1]⟩,?_⟩
   refine U4 (r:= [8,13]) ((Xt ?_ (Xt ?_ U3)))
   ·
    refine zkc (xc0 cl_66) (c_clone (n:=t.nf) (f:=t.F) w (hT.F.below hS.below) Oa) ?_;rintro vq2 w ⟨_,rfl,qg,hS'⟩
    replace hS:=(hS.comp hS').n4;clear hS'
    refine⟨⟨fun _=>hS.pk [0,1],hS.pk [0,1]⟩,?_⟩
    refine U4 (r:= [11,13]) ((Xt ?_ (Xt ?_ U3)))
    ·
     refine zkc (xc0 ZaY) (Uf (n:=t.nc) (vv:=vv) (ln:=t.ln) (f:=t.C) w (hT.C.below hS.below) Oa (fun k k0 k1=>by have:=hp.len (i:=k) Oa Oa;omega)) ?_;rintro qh w ⟨_,qn,rfl,qm,hS'⟩
     replace hS:=(hS.comp hS').n6;clear hS'
     have qL:=fun k (k0:0<=k) (k1:k<t.nc)=>hS.slhIn 5 rfl k0 k1
     refine⟨⟨fun _=>hS.pk [0,1],hS.pk [0,1]⟩,?_⟩
     refine zdv 12 (fun _=>(xany (v:= .agg #[.int Oi t.vars,.int Oi ((t.C (row+1)) (col+1)),vq1,vq2,qh]) (hr:=by obtain⟨_,_,_,_,rfl,_⟩:=qb;obtain⟨_,_,_,_,rfl,_⟩:=qg;obtain⟨_,_,_,_,rfl,_⟩:=qm;kernel_rfl))) ?_
     refine zda 13 (xal (cs:= [_,_,_,_,_]) Xk hS) ?_;rintro _ w ⟨g3,rfl,hS⟩
     refine⟨⟨fun _=>hS.pk [0,1],hS.pk [0,1]⟩,?_⟩
     refine zde 14 (xsw 6 Zn hS (hd:=(Za rfl (Za rfl (Za qb.one (Za qg.one (Za qm.one Zi))))))) ?_;clear hS;rintro w hS
     refine⟨⟨fun h=>absurd h (by decide),hS.pk [0,1]⟩,?_⟩
     refine zdd<|zgj ⟨g3,vq1,vq2,qh,qn,qb,qg,qm,qL,rfl,hS⟩
    refine zka (xal (cs:= [_,_,_,_,_]) Xk hS) ?_;rintro _ w ⟨g3,rfl,hS⟩
    refine⟨⟨fun _=>hS.pk [0,1],hS.pk [0,1]⟩,?_⟩
    refine zdc 11 (xc0 ZaY) (Uf (n:=t.nc) (vv:=vv) (ln:=t.ln) (f:=t.C) w (hT.C.below hS.below) Oa (fun k k0 k1=>by have:=hp.len (i:=k) Oa Oa;omega)) ?_;rintro qh w ⟨_,qn,rfl,qm,hS'⟩
    replace hS:=(hS.comp hS').n7;clear hS'
    have qL:=fun k (k0:0<=k) (k1:k<t.nc)=>hS.slhIn 6 rfl k0 k1
    refine⟨⟨fun _=>hS.pk [0,1],hS.pk [0,1]⟩,?_⟩
    refine zdv 12 (fun _=>(xany (v:= .agg #[.int Oi t.vars,.int Oi ((t.C (row+1)) (col+1)),vq1,vq2,qh]) (hr:=by obtain⟨_,_,_,_,rfl,_⟩:=qb;obtain⟨_,_,_,_,rfl,_⟩:=qg;obtain⟨_,_,_,_,rfl,_⟩:=qm;kernel_rfl))) ?_
    refine zde 14 (xsw 4 Zn hS (hd:=(Za rfl (Za rfl (Za qb.one (Za qg.one (Za qm.one Zi))))))) ?_;clear hS;rintro w hS
    refine⟨⟨fun h=>absurd h (by decide),hS.pk [0,1]⟩,?_⟩
    refine zdd<|zgj ⟨g3,vq1,vq2,qh,qn,qb,qg,qm,qL,rfl,hS.pk [0,1,2,3,5,6,4]⟩
   refine zka (xal (cs:= [_,_,_,_,_]) Xk hS) ?_;rintro _ w ⟨g3,rfl,hS⟩
   refine⟨⟨fun _=>hS.pk [0,1],hS.pk [0,1]⟩,?_⟩
   refine zdc 8 (xc0 cl_66) (c_clone (n:=t.nf) (f:=t.F) w (hT.F.below hS.below) Oa) ?_;rintro vq2 w ⟨_,rfl,qg,hS'⟩
   replace hS:=(hS.comp hS').n5;clear hS'
   refine⟨⟨fun _=>hS.pk [0,1],hS.pk [0,1]⟩,?_⟩
   refine zdc 11 (xc0 ZaY) (Uf (n:=t.nc) (vv:=vv) (ln:=t.ln) (f:=t.C) w (hT.C.below hS.below) Oa (fun k k0 k1=>by have:=hp.len (i:=k) Oa Oa;omega)) ?_;rintro qh w ⟨_,qn,rfl,qm,hS'⟩
   replace hS:=(hS.comp hS').n7;clear hS'
   have qL:=fun k (k0:0<=k) (k1:k<t.nc)=>hS.slhIn 6 rfl k0 k1
   refine⟨⟨fun _=>hS.pk [0,1],hS.pk [0,1]⟩,?_⟩
   refine zdv 12 (fun _=>(xany (v:= .agg #[.int Oi t.vars,.int Oi ((t.C (row+1)) (col+1)),vq1,vq2,qh]) (hr:=by obtain⟨_,_,_,_,rfl,_⟩:=qb;obtain⟨_,_,_,_,rfl,_⟩:=qg;obtain⟨_,_,_,_,rfl,_⟩:=qm;kernel_rfl))) ?_
   refine zde 14 (xsw 3 Zn hS (hd:=(Za rfl (Za rfl (Za qb.one (Za qg.one (Za qm.one Zi))))))) ?_;clear hS;rintro w hS
   refine⟨⟨fun h=>absurd h (by decide),hS.pk [0,1]⟩,?_⟩
   refine zdd<|zgj ⟨g3,vq1,vq2,qh,qn,qb,qg,qm,qL,rfl,hS.pk [0,1,2,4,5,6,3]⟩
  refine zka (xal (cs:= [_,_,_,_,_]) Xk hS) ?_;rintro _ w ⟨g3,rfl,hS⟩
  refine⟨⟨fun _=>hS.pk [0,1],hS.pk [0,1]⟩,?_⟩
  refine zdc 5 (xc0 cl_66) (c_clone (n:=t.nb) (f:=t.B) w (hT.B.below hS.below) Oa) ?_;rintro vq1 w ⟨_,rfl,qb,hS'⟩
  replace hS:=(hS.comp hS').n4;clear hS'
  refine⟨⟨fun _=>hS.pk [0,1],hS.pk [0,1]⟩,?_⟩
  refine zdc 8 (xc0 cl_66) (c_clone (n:=t.nf) (f:=t.F) w (hT.F.below hS.below) Oa) ?_;rintro vq2 w ⟨_,rfl,qg,hS'⟩
  replace hS:=(hS.comp hS').n5;clear hS'
  refine⟨⟨fun _=>hS.pk [0,1],hS.pk [0,1]⟩,?_⟩
  refine zdc 11 (xc0 ZaY) (Uf (n:=t.nc) (vv:=vv) (ln:=t.ln) (f:=t.C) w (hT.C.below hS.below) Oa (fun k k0 k1=>by have:=hp.len (i:=k) Oa Oa;omega)) ?_;rintro qh w ⟨_,qn,rfl,qm,hS'⟩
  replace hS:=(hS.comp hS').n7;clear hS'
  have qL:=fun k (k0:0<=k) (k1:k<t.nc)=>hS.slhIn 6 rfl k0 k1
  refine⟨⟨fun _=>hS.pk [0,1],hS.pk [0,1]⟩,?_⟩
  refine zdv 12 (fun _=>(xany (v:= .agg #[.int Oi t.vars,.int Oi ((t.C (row+1)) (col+1)),vq1,vq2,qh]) (hr:=by obtain⟨_,_,_,_,rfl,_⟩:=qb;obtain⟨_,_,_,_,rfl,_⟩:=qg;obtain⟨_,_,_,_,rfl,_⟩:=qm;kernel_rfl))) ?_
  refine zde 14 (xsw 2 Zn hS (hd:=(Za rfl (Za rfl (Za qb.one (Za qg.one (Za qm.one Zi))))))) ?_;clear hS;rintro w hS
  refine⟨⟨fun h=>absurd h (by decide),hS.pk [0,1]⟩,?_⟩
  refine zdd<|zgj ⟨g3,vq1,vq2,qh,qn,qb,qg,qm,qL,rfl,hS.pk [0,1,3,4,5,6,2]⟩
 clear hS w;rintro M w ⟨g3,vq1,vq2,qh,qn,qb,qg,qm,qL,rfl,hS⟩
 refine ztn<|zsq<|zdst [0,1,2,3,4,5,6] [0,1,4,5,6] 17 mx_ hS ?_;clear hS;intro w hS
 refine(zDw 0 (xfb 2 fd_107_2))<|(zDl 1 (fun w hS=>(xlb 4 pl_22 hS)))<|(zDw 2 xmv)<|(zDw 3 (xfb 3 fd_107_3))<|(zDl 4 (fun w hS=>(xlb 4 pl_22 hS)))<|(zDw 5 xmv)<|(zDw 6 (xfb 3 fd_107_3))<|(zDl 7 (fun w hS=>(xlb 0 pl_22 hS)))<|(zDw 8 xmv)<|(zDw 9 (xix (kk:=col) Zb hT.F.slh))<|(zDl 10 (fun w hS=>(xlr (u:= .int Oi (t.F col)) pl_3 (hT.F.below hS.below))))<|(zDw 11 (xfb 2 fd_107_2))<|(zDl 12 (fun w hS=>(xlb 0 pl_22 hS)))<|(zDw 13 xmv)<|zDrv 14 (xix (kk:=row) Zb hT.B.slh) ?_
 refine(zDl 15 (fun w hS=>(xlr (u:= .int Oi (t.B row)) pl_3 (hT.B.below hS.below))))<|(zDw 16 (xix (kk:=row) Zb qb))<|zde 17 (xso 2 pl_3 hS (ZD _ _ _)) ?_;clear hS;rintro w hS
 refine⟨⟨fun h=>absurd h (by decide),hS.pk [0,1,4,5,6]⟩,?_⟩
 refine(zDw 18 (xix (kk:=col) Zb qg))<|zde 19 (xso 3 pl_3 hS (ZD _ _ _)) ?_;clear hS;rintro w hS
 refine⟨⟨fun h=>absurd h (by decide),hS.pk [0,1,4,5,6]⟩,?_⟩
 refine zdd<|ztn<|zsq<|zsr ?_
 refine(zV (xfb 4 fd_107_4))<|(zV (xlb 0 ZM hS))<|(zV (xln Zk hT.C.row.slh))<|(zP)<|zx6<|zlp (fun mm M w=>∃(cf:Og) (i:Int),mm=((t.nc-i).toNat)/\(0<=i)/\(i<=t.nc)/\(∀a b,0<=a->a<i->0<=b->b<=t.nf->cf a b=Yg t (row+1) (col+1) a b)/\(∀a b,0<=a->a<i->0<=b->b<=t.nf->Zmp t (row+1) (col+1) a b)/\M= [(3,Or g1),(6,Or g2),(8,.int Oi (row+1)),(9,.int Oi (col+1)),(10,.int Oi ((t.C (row+1)) (col+1))),(11,.int Oi t.den),(12,Or g3),(105,vC),(106,.int Oi t.nc),(107,.int Oi i)]/\Sat w0 w [.blk g1 [.int Oi t.vars,.int Oi t.den,vB,vF,vC],.blk g2 [.int Oi 0,.int Oi 0,Oh,Oh,Oh],.own vq1 1 3 t.nb (ints (upd t.B row (t.F col))),.own vq2 1 3 t.nf (ints (upd t.F col (t.B row))),.own qh 1 22 t.nc qn,.sem (Frame.rows 3 t.nc qn t.ln cf),.blk g3 [.int Oi t.vars,.int Oi ((t.C (row+1)) (col+1)),vq1,vq2,qh]]) ⟨t.C,0,rfl,Oa,Oa,?_,?_,rfl,hS⟩ ?_
 ·
  intro a b a0 a1;omega
 ·
  intro a b a0 a1;omega
 clear hS w
 rintro mm M w ⟨cf,i,rfl,h0,h1,hcf,hdv,rfl,hS⟩
 refine zsr<|(zP)<|zx7<|Zf ?_ ?_<;>intro hc
 ·
  refine zx3<|(zP)<|(zV (xix (kk:=i) Zk hT.C.row.slh))<|zlv (xlr (u:=(vv i)) pl_22 (hT.C.row.below hS.below)) ?_
  have hli:=hp.len (i:=i) Oa Oa
  refine(On)<|zlz<|(zP)<|(zV (xln Zb (hT.C.p i Oa Oa).slh))<|(zP)<|zx6<|zlp (fun mm M w=>∃(cf:Og) (j:Int),mm=((t.nf+1-j).toNat)/\(0<=j)/\(j<=t.nf+1)/\(∀a b,0<=a->a<i->0<=b->b<=t.nf->cf a b=Yg t (row+1) (col+1) a b)/\(∀b,0<=b->b<j->cf i b=Yg t (row+1) (col+1) i b)/\(∀b,0<=b->b<j->Zmp t (row+1) (col+1) i b)/\M= [(3,Or g1),(6,Or g2),(8,.int Oi (row+1)),(9,.int Oi (col+1)),(10,.int Oi ((t.C (row+1)) (col+1))),(11,.int Oi t.den),(12,Or g3),(13,.int Oi i),(14,(vv i)),(105,vC),(106,.int Oi t.nc),(107,.int Oi i),(112,(vv i)),(113,.int Oi (t.ln i)),(114,.int Oi j)]/\Sat w0 w [.blk g1 [.int Oi t.vars,.int Oi t.den,vB,vF,vC],.blk g2 [.int Oi 0,.int Oi 0,Oh,Oh,Oh],.own vq1 1 3 t.nb (ints (upd t.B row (t.F col))),.own vq2 1 3 t.nf (ints (upd t.F col (t.B row))),.own qh 1 22 t.nc qn,.sem (Frame.rows 3 t.nc qn t.ln cf),.blk g3 [.int Oi t.vars,.int Oi ((t.C (row+1)) (col+1)),vq1,vq2,qh]]) ⟨cf,0,rfl,Oa,Oa,?_,?_,?_,rfl,hS⟩ ?_
  ·
   exact hcf
  ·
   intro b b0 b1;omega
  ·
   intro b b0 b1;omega
  clear hS w
  rintro mm M w ⟨cf,j,rfl,j0,j1,zC,qv,hdr,rfl,hS⟩
  refine zsr<|(zP)<|zx7<|Zf ?_ ?_<;>intro hc
  ·
   refine zx3<|(zP)<|(zV (xix (kk:=j) Zb (hT.C.p i Oa Oa).slh))<|zlv (xlr (u:= .int Oi ((t.C i) j)) pl_3 ((hT.C.p i Oa Oa).below hS.below)) ?_
   have hcb:=hp.cell (i:=i) (j:=j) Oa Oa Oa Oa
   refine(On)<|zlt<|zsq<|zbk<|zsr<|zs4 ?_
   refine zlb 123 ?_ ?_<;>intro hc
   ·
    refine zs5 ?_
    refine zlt<|Zf ?_ ?_<;>intro hc
    ·
     refine zrg<|(On)<|zx10<|(zV (xfb 4 fd_107_4))<|(zV (xlb 6 ZM hS))<|(zP)<|(zV (xix (kk:=i) Zk qm))<|zlv (xlr (u:=(qn i)) pl_22 (hS.rowN 4 rfl)) ?_
     skip
     refine(On)<|(zV (xix (kk:=j) Zb (qL i Oa Oa)))<|zle (xsr 5 pl_3 hS rfl) ?_;clear hS;rintro w hS
     refine zx10<|(zV (Zh (r:=j+1)))<|(zP)<|zln<|zlq ⟨upd cf i (upd (cf i) j t.den),j+1,rfl,Oa,Oa,?_,?_,?_,rfl,hS⟩
     ·
      intro a b a0 a1 b0 b1;rw [gu_ne Oa];exact zC a b a0 a1 b0 b1
     ·
      intro b b0 b1
      by_cases e:b=j
      · subst e;rw [gu_self,gu_self];unfold Yg;(repeat' split)<;>first|rfl|omega|(exfalso;omega)
      · rw [gu_self,gu_ne e];exact qv b b0 Oa
     ·
      intro b b0 b1
      by_cases e:b=j
      · subst e;intro e1 e2;first|omega|exact Od ‹_›
      · exact hdr b b0 Oa
    refine zsr<|(On)<|(zV (xkt YT))<|(zP)<|zlt<|zct<|zrg ?_
    refine(zP)<|zlv (ZfR (r:= -(((t.C i) j))) (hr:=(by unfold I64;omega))) ?_
    refine(zP)<|zx10<|(zV (xfb 4 fd_107_4))<|(zV (xlb 6 ZM hS))<|(zP)<|(zV (xix (kk:=i) Zk qm))<|zlv (xlr (u:=(qn i)) pl_22 (hS.rowN 4 rfl)) ?_
    skip
    refine(On)<|(zV (xix (kk:=j) Zb (qL i Oa Oa)))<|zle (xsr 5 pl_3 hS rfl) ?_;clear hS;rintro w hS
    refine zx10<|(zV (Zh (r:=j+1)))<|(zP)<|zln<|zlq ⟨upd cf i (upd (cf i) j (-(((t.C i) j)))),j+1,rfl,Oa,Oa,?_,?_,?_,rfl,hS⟩
    ·
     intro a b a0 a1 b0 b1;rw [gu_ne Oa];exact zC a b a0 a1 b0 b1
    ·
     intro b b0 b1
     by_cases e:b=j
     · subst e;rw [gu_self,gu_self];unfold Yg;(repeat' split)<;>first|rfl|omega|(exfalso;omega)
     · rw [gu_self,gu_ne e];exact qv b b0 Oa
    ·
     intro b b0 b1
     by_cases e:b=j
     · subst e;intro e1 e2;first|omega|exact Od ‹_›
     · exact hdr b b0 Oa
   iterate 3 refine zlo ?_
   refine(On)<|zlt<|zcf<|zsr ?_
   refine zs4 ?_
   refine zlt<|Zf ?_ ?_<;>intro hc
   ·
    exfalso;omega
   refine zsr<|zs4 ?_
   refine zlt<|Zf ?_ ?_<;>intro hc
   ·
    refine zsq<|zdst [0,1,2,3,4,5,6] [0,1,2,3,4,5,6] 1000 mx_ hS ?_;clear hS;intro w hS
    refine zDrv 0 xmv ?_
    have hm1:=Wx hpb hcb;have hm2:=Wx (hp.cell (i:=i) (j:=col+1) Oa Oa Oa Oa) (hp.cell (i:=row+1) (j:=j) Oa Oa Oa Oa)
    have hqd:=YU (a:=t.C (row+1) (col+1)*t.C i j-t.C i (col+1)*t.C (row+1) j) (d:=t.den) (A:=2305843009213693952) Oa Oa
    refine(zDw 1 xmv)<|zdv 2 (fun _=>(Yi (r:=(((t.C (row+1)) (col+1))*((t.C i) j))) (e:=rfl) (hr:=(by unfold I64;omega)))) ?_
    refine(zDw 3 xmv)<|(zDw 4 xmv)<|(zDw 5 (xix (kk:=col+1) Zb (hT.C.p i Oa Oa).slh))<|(zDl 6 (fun w hS=>(xlr (u:= .int Oi ((t.C i) (col+1))) pl_3 ((hT.C.p i Oa Oa).below hS.below))))<|(zDw 7 (xfb 4 fd_107_4))<|(zDl 8 (fun w hS=>(xlb 0 ZM hS)))<|(zDw 9 xmv)<|(zDw 10 (xix (kk:=row+1) Zk hT.C.row.slh))<|(zDl 11 (fun w hS=>(xlr (u:=(vv (row+1))) pl_22 (hT.C.row.below hS.below))))<|(zDw 12 xmv)<|(zDw 13 (xix (kk:=j) Zb (hT.C.p (row+1) Oa Oa).slh))<|(zDl 14 (fun w hS=>(xlr (u:= .int Oi ((t.C (row+1)) j)) pl_3 ((hT.C.p (row+1) Oa Oa).below hS.below))))<|zdv 15 (fun _=>(Yi (r:=(((t.C i) (col+1))*((t.C (row+1)) j))) (e:=rfl) (hr:=(by unfold I64;omega)))) ?_
    refine zdv 16 (fun _=>(Zp (r:=(((t.C (row+1)) (col+1))*((t.C i) j))-(((t.C i) (col+1))*((t.C (row+1)) j))) (hr:=(by unfold I64;omega)))) ?_
    refine(zDw 17 xas)<|zdd<|ztn<|zsq<|zsr ?_
    refine(On)<|(zV (ZfQ (r:=(Int.tmod ((((t.C (row+1)) (col+1))*((t.C i) j))-(((t.C i) (col+1))*((t.C (row+1)) j))) t.den)) (hn:=Oa)))<|(zP)<|zlt<|Zf ?_ ?_<;>intro hc
    ·
     refine zsr<|(zV (xany (v:= .agg #[.int Oi 0,.int Oi 0,Oh,Oh,Oh])))<|zle (xsw 1 Zn hS) ?_;clear hS;rintro w hS
     refine(zP)<|zlt<|zrt<|ztr<|zbr<|ztr<|zbr<|ztr<|ztr<|zbr<|zbr<|ztr<|ztr<|zbr<|ztr<|Ym 1 Zn hS ⟨_,rfl,?_⟩
     exact⟨_,_,_,fun _=>undef,Tb.zero,4,rfl,.inr (.inl ⟨⟨hp,Oa,Oa,Oa,Oa,hnz⟩,fun hd=>by have:=hd i j h0 Oa j0 Oa Oa Oa;omega,rfl,rfl⟩),slh_nil,slh_nil,slh_nil,((((hS.sub (.cons _ (.cons _ (.cons _ (.cons _ (.cons _ (.cons _ (.cons _ .slnil)))))))).addnil 1 3 (ints Tb.zero.B)).addnil 1 3 (ints Tb.zero.F)).addnil 1 22 (fun _=>undef)).addrows 3 (fun _=>undef) Tb.zero.ln Tb.zero.C⟩
    refine zsk<|ztn<|zrg<|(On)<|zlv (Uk (r:=(Int.tdiv ((((t.C (row+1)) (col+1))*((t.C i) j))-(((t.C i) (col+1))*((t.C (row+1)) j))) t.den)) (hn:=Oa) (hr:=(by unfold I64;omega))) ?_
    refine(zP)<|zx10<|(zV (xfb 4 fd_107_4))<|(zV (xlb 6 ZM hS))<|(zP)<|(zV (xix (kk:=i) Zk qm))<|zlv (xlr (u:=(qn i)) pl_22 (hS.rowN 4 rfl)) ?_
    skip
    refine(On)<|(zV (xix (kk:=j) Zb (qL i Oa Oa)))<|zle (xsr 5 pl_3 hS rfl) ?_;clear hS;rintro w hS
    refine zx10<|(zV (Zh (r:=j+1)))<|(zP)<|zln<|zlq ⟨upd cf i (upd (cf i) j (Int.tdiv ((((t.C (row+1)) (col+1))*((t.C i) j))-(((t.C i) (col+1))*((t.C (row+1)) j))) t.den)),j+1,rfl,Oa,Oa,?_,?_,?_,rfl,hS⟩
    ·
     intro a b a0 a1 b0 b1;rw [gu_ne Oa];exact zC a b a0 a1 b0 b1
    ·
     intro b b0 b1
     by_cases e:b=j
     · subst e;rw [gu_self,gu_self];unfold Yg;(repeat' split)<;>first|rfl|omega|(exfalso;omega)
     · rw [gu_self,gu_ne e];exact qv b b0 Oa
    ·
     intro b b0 b1
     by_cases e:b=j
     · subst e;intro e1 e2;first|omega|exact Od ‹_›
     · exact hdr b b0 Oa
   refine zx4<|(zV (xfb 4 fd_107_4))<|(zV (xlb 6 ZM hS))<|(zP)<|(zV (xix (kk:=i) Zk qm))<|zlv (xlr (u:=(qn i)) pl_22 (hS.rowN 4 rfl)) ?_
   skip
   refine(On)<|(zV (xix (kk:=j) Zb (qL i Oa Oa)))<|zle (xsr 5 pl_3 hS rfl) ?_;clear hS;rintro w hS
   refine zx10<|(zV (Zh (r:=j+1)))<|(zP)<|zln<|zlq ⟨upd cf i (upd (cf i) j ((t.C i) j)),j+1,rfl,Oa,Oa,?_,?_,?_,rfl,hS⟩
   ·
    intro a b a0 a1 b0 b1;rw [gu_ne Oa];exact zC a b a0 a1 b0 b1
   ·
    intro b b0 b1
    by_cases e:b=j
    · subst e;rw [gu_self,gu_self];unfold Yg;(repeat' split)<;>first|rfl|omega|(exfalso;omega)
    · rw [gu_self,gu_ne e];exact qv b b0 Oa
   ·
    intro b b0 b1
    by_cases e:b=j
    · subst e;intro e1 e2;first|omega|exact Od ‹_›
    · exact hdr b b0 Oa
  refine zxt<|ztx<|ztx<|zbh<|zbn<|ztn<|zrg<|(zV (Zh (r:=i+1)))<|(zP)<|zln<|zlq ⟨cf,i+1,rfl,Oa,Oa,?_,?_,rfl,hS⟩
  ·
   intro a b a0 a1 b0 b1
   by_cases e:a=i
   · subst e;exact qv b b0 Oa
   · exact zC a b a0 Oa b0 b1
  ·
   intro a b a0 a1 b0 b1
   by_cases e:a=i
   · subst e;exact hdr b b0 Oa
   · exact hdv a b a0 Oa b0 b1
 refine zx18<|zlv xmv ?_
 have hin:i=t.nc:=Oa
 have bR:Zc7 t row col:=fun a b a0 a1 b0 b1=>hdv a b a0 Oa b0 b1
 refine(zP)<|zlt<|Zf ?_ ?_<;>intro hc
 ·
  refine zsr<|(zP)<|zlv (ZfR (r:= -(((t.C (row+1)) (col+1)))) (hr:=(by unfold I64;omega))) ?_
  refine(zV (xfb 1 fd_107_1))<|zle (xsb 6 pl_3 hS) ?_;clear hS;rintro w hS
  refine zlz<|(zV (xfb 4 fd_107_4))<|(zV (xlb 6 ZM hS))<|(zV (xln Zk qm))<|(zP)<|zx6<|zlp (fun mm M w=>∃(cf:Og) (k:Int),mm=((t.nc-k).toNat)/\(0<=k)/\(k<=t.nc)/\(∀a b,0<=a->a<k->0<=b->b<=t.nf->cf a b= -Yg t (row+1) (col+1) a b)/\(∀a b,k<=a->a<t.nc->0<=b->b<=t.nf->cf a b=Yg t (row+1) (col+1) a b)/\M= [(6,Or g2),(12,Or g3),(180,qh),(181,.int Oi t.nc),(182,.int Oi k)]/\Sat w0 w [.blk g1 [.int Oi t.vars,.int Oi t.den,vB,vF,vC],.blk g2 [.int Oi 0,.int Oi 0,Oh,Oh,Oh],.own vq1 1 3 t.nb (ints (upd t.B row (t.F col))),.own vq2 1 3 t.nf (ints (upd t.F col (t.B row))),.own qh 1 22 t.nc qn,.sem (Frame.rows 3 t.nc qn t.ln cf),.blk g3 [.int Oi t.vars,.int Oi (-(((t.C (row+1)) (col+1)))),vq1,vq2,qh]]) ⟨cf,0,rfl,Oa,Oa,?_,?_,rfl,hS⟩ ?_
  ·
   intro a b a0 a1;omega
  ·
   intro a b a0 a1 b0 b1;exact hcf a b Oa Oa b0 b1
  clear hS w
  rintro mm M w ⟨cf,k,rfl,k0,k1,hng,hps,rfl,hS⟩
  refine zsr<|(zP)<|zx7<|Zf ?_ ?_<;>intro hc
  ·
   refine zx3<|(zV (xix (kk:=k) Zk qm))<|zlv (xlr (u:=(qn k)) pl_22 (hS.rowN 4 rfl)) ?_
   have hlk:=hp.len (i:=k) Oa Oa
   refine(zP)<|zlz<|(zP)<|(zV (xln Zb (qL k Oa Oa)))<|(zP)<|zx6<|zlp (fun mm M w=>∃(cf:Og) (q:Int),mm=((t.nf+1-q).toNat)/\(0<=q)/\(q<=t.nf+1)/\(∀a b,0<=a->a<k->0<=b->b<=t.nf->cf a b= -Yg t (row+1) (col+1) a b)/\(∀a b,k+1<=a->a<t.nc->0<=b->b<=t.nf->cf a b=Yg t (row+1) (col+1) a b)/\(∀b,0<=b->b<q->cf k b= -Yg t (row+1) (col+1) k b)/\(∀b,q<=b->b<=t.nf->cf k b=Yg t (row+1) (col+1) k b)/\M= [(6,Or g2),(12,Or g3),(18,(qn k)),(180,qh),(181,.int Oi t.nc),(182,.int Oi k),(187,.int Oi (t.ln k)),(188,.int Oi q)]/\Sat w0 w [.blk g1 [.int Oi t.vars,.int Oi t.den,vB,vF,vC],.blk g2 [.int Oi 0,.int Oi 0,Oh,Oh,Oh],.own vq1 1 3 t.nb (ints (upd t.B row (t.F col))),.own vq2 1 3 t.nf (ints (upd t.F col (t.B row))),.own qh 1 22 t.nc qn,.sem (Frame.rows 3 t.nc qn t.ln cf),.blk g3 [.int Oi t.vars,.int Oi (-(((t.C (row+1)) (col+1)))),vq1,vq2,qh]]) ⟨cf,0,rfl,Oa,Oa,?_,?_,?_,?_,rfl,hS⟩ ?_
   ·
    exact hng
   ·
    intro a b a0 a1 b0 b1;exact hps a b Oa a1 b0 b1
   ·
    intro b b0 b1;omega
   ·
    intro b b0 b1;exact hps k b (Int.le_refl _) Oa Oa b1
   clear hS w
   rintro mm M w ⟨cf,q,rfl,q0,q1,hng,hps,fe,ff,rfl,hS⟩
   refine zsr<|(zP)<|zx7<|Zf ?_ ?_<;>intro hc
   ·
    refine zx3<|(On)<|zlt<|zrg<|zs4 ?_
    refine(zV (xix (kk:=q) Zb (qL k Oa Oa)))<|zlv (xlr (u:= .int Oi (cf k q)) pl_3 (hS.rowIn (k:=k) 5 rfl Oa Oa)) ?_
    have fg:=ff q (Int.le_refl _) Oa
    have hpc: -9223372036854775807<=cf k q/\cf k q<=9223372036854775807:=by rw [fg];exact Zgm hp Oa Oa Oa Oa Oa Oa Oa Oa
    refine zlv (ZfR (r:= -((cf k q))) (hr:=(by unfold I64;omega))) ?_
    refine(zV (xix (kk:=q) Zb (qL k Oa Oa)))<|zle (xsr 5 pl_3 hS rfl) ?_;clear hS;rintro w hS
    refine zx10<|(zV (Zh (r:=q+1)))<|(zP)<|zln<|zlq ⟨upd cf k (upd (cf k) q (-((cf k q)))),q+1,rfl,Oa,Oa,?_,?_,?_,?_,rfl,hS⟩
    ·
     intro a b a0 a1 b0 b1;rw [gu_ne Oa];exact hng a b a0 a1 b0 b1
    ·
     intro a b a0 a1 b0 b1;rw [gu_ne Oa];exact hps a b a0 a1 b0 b1
    ·
     intro b b0 b1
     by_cases e:b=q
     · subst e;rw [gu_self,gu_self,fg]
     · rw [gu_self,gu_ne e];exact fe b b0 Oa
    ·
     intro b b0 b1;rw [gu_self,gu_ne Oa];exact ff b Oa b1
   refine zxt<|ztx<|ztx<|zbh<|zbn<|ztn<|zrg<|(zV (Zh (r:=k+1)))<|(zP)<|zln<|zlq ⟨cf,k+1,rfl,Oa,Oa,?_,?_,rfl,hS⟩
   ·
    intro a b a0 a1 b0 b1
    by_cases e:a=k
    · subst e;exact fe b b0 Oa
    · exact hng a b a0 Oa b0 b1
   ·
    intro a b a0 a1 b0 b1;exact hps a b Oa a1 b0 b1
  refine zx18<|zlv (xls 6 Zn hS) ?_
  have zd: -(((t.C (row+1)) (col+1)))=(piv t row col).den:=(if_pos Oa).symm
  replace hS:=hS.rerows (vv':=qn) (ln':=(piv t row col).ln) (f':=(piv t row col).C) 5 rfl (fun k k0 k1=>⟨rfl,rfl,fun j j0 j1=>by
    have hlk:=hp.len (i:=k) Oa Oa
    exact(hng k j k0 Oa j0 Oa).trans (if_pos Oa).symm⟩)
  rw [zd] at hS⊢
  obtain⟨u,huu⟩:∃u,u=piv t row col:=⟨_,rfl⟩
  have yo:Slh vq1 u.nb:=by subst huu;exact qb
  have ym:Slh vq2 u.nf:=by subst huu;exact qg
  have yn:Slh qh u.nc:=by subst huu;exact qm
  replace hS:Sat w0 w [.blk g1 [.int Oi t.vars,.int Oi t.den,vB,vF,vC],.blk g2 [.int Oi 0,.int Oi 0,Oh,Oh,Oh],.own vq1 1 3 u.nb (ints u.B),.own vq2 1 3 u.nf (ints u.F),.own qh 1 22 u.nc qn,.sem (Frame.rows 3 u.nc qn u.ln u.C),.blk g3 [.int Oi u.vars,.int Oi u.den,vq1,vq2,qh]]:=by subst huu;exact hS
  have gQ:=fun k (k0:0<=k) (k1:k<u.nc)=>hS.slhIn 5 rfl k0 k1
  refine Zor 201 (u:= .agg #[.int Oi u.vars,.int Oi u.den,vq1,vq2,qh]) (by subst huu;first|rfl|(congr 1)) ?_
  refine zlc (xc0 ZaU) (Ud (t:=u) w (⟨(hS.rowN 2 rfl),(hS.rowN 3 rfl),(⟨(hS.rowN 4 rfl),fun k k0 k1=>hS.rowIn 5 rfl k0 k1,fun k k0 k1=>hS.roomIn 5 rfl k0 k1⟩:MAt _ qh u.nc qn u.ln u.C)⟩:TAt _ vq1 vq2 qh qn u)) ?_;rintro _ w ⟨rfl,hS'⟩
  replace hS:=hS.cmp hS';clear hS'
  refine(zP)<|zlt<|Zf ?_ ?_<;>intro hc
  ·
   refine zsr<|(zV (xany (v:= .agg #[.int Oi 0,.int Oi 0,Oh,Oh,Oh])))<|zle (xsw 1 Zn hS) ?_;clear hS;rintro w hS
   refine(zP)<|zx14<|Ym 1 Zn hS ⟨_,rfl,?_⟩
   exact⟨_,_,_,fun _=>undef,Tb.zero,2,rfl,.inr (.inr (.inl ⟨⟨hp,Oa,Oa,Oa,Oa,hnz⟩,bR,huu▸‹¬TPrp u›,rfl,rfl⟩)),slh_nil,slh_nil,slh_nil,((((hS.sub (.cons _ (.cons _ (.cons _ (.cons _ (.cons _ (.cons _ (.cons _ .slnil)))))))).addnil 1 3 (ints Tb.zero.B)).addnil 1 3 (ints Tb.zero.F)).addnil 1 22 (fun _=>undef)).addrows 3 (fun _=>undef) Tb.zero.ln Tb.zero.C⟩
  refine ZV<|(zV (xls 6 Zn hS))<|zle (xsw 1 Zn hS (hd:=(Za rfl (Za rfl (Za yo.one (Za ym.one (Za yn.one Zi))))))) ?_;clear hS;rintro w hS
  refine(zP)<|zx1<|Ym 1 Zn hS ⟨_,rfl,?_⟩
  exact⟨_,_,_,_,u,0,rfl,.inr (.inr (.inr ⟨⟨hp,Oa,Oa,Oa,Oa,hnz⟩,bR,huu▸(Od ‹¬¬(TPrp u)›),huu,rfl⟩)),yo,ym,yn,hS.pk [2,3,4,5]⟩
 refine zsk<|ztn<|zsq<|zsr<|zlv (xls 6 Zn hS) ?_
 have zd:((t.C (row+1)) (col+1))=(piv t row col).den:=(if_neg Oa).symm
 replace hS:=hS.rerows (vv':=qn) (ln':=(piv t row col).ln) (f':=(piv t row col).C) 5 rfl (fun k k0 k1=>⟨rfl,rfl,fun j j0 j1=>by
   have hlk:=hp.len (i:=k) Oa Oa
   exact(hcf k j k0 Oa j0 Oa).trans (if_neg Oa).symm⟩)
 rw [zd] at hS⊢
 obtain⟨u,huu⟩:∃u,u=piv t row col:=⟨_,rfl⟩
 have yo:Slh vq1 u.nb:=by subst huu;exact qb
 have ym:Slh vq2 u.nf:=by subst huu;exact qg
 have yn:Slh qh u.nc:=by subst huu;exact qm
 replace hS:Sat w0 w [.blk g1 [.int Oi t.vars,.int Oi t.den,vB,vF,vC],.blk g2 [.int Oi 0,.int Oi 0,Oh,Oh,Oh],.own vq1 1 3 u.nb (ints u.B),.own vq2 1 3 u.nf (ints u.F),.own qh 1 22 u.nc qn,.sem (Frame.rows 3 u.nc qn u.ln u.C),.blk g3 [.int Oi u.vars,.int Oi u.den,vq1,vq2,qh]]:=by subst huu;exact hS
 have gQ:=fun k (k0:0<=k) (k1:k<u.nc)=>hS.slhIn 5 rfl k0 k1
 refine Zor 201 (u:= .agg #[.int Oi u.vars,.int Oi u.den,vq1,vq2,qh]) (by subst huu;first|rfl|(congr 1)) ?_
 refine zlc (xc0 ZaU) (Ud (t:=u) w (⟨(hS.rowN 2 rfl),(hS.rowN 3 rfl),(⟨(hS.rowN 4 rfl),fun k k0 k1=>hS.rowIn 5 rfl k0 k1,fun k k0 k1=>hS.roomIn 5 rfl k0 k1⟩:MAt _ qh u.nc qn u.ln u.C)⟩:TAt _ vq1 vq2 qh qn u)) ?_;rintro _ w ⟨rfl,hS'⟩
 replace hS:=hS.cmp hS';clear hS'
 refine(zP)<|zlt<|Zf ?_ ?_<;>intro hc
 ·
  refine zsr<|(zV (xany (v:= .agg #[.int Oi 0,.int Oi 0,Oh,Oh,Oh])))<|zle (xsw 1 Zn hS) ?_;clear hS;rintro w hS
  refine(zP)<|zx14<|Ym 1 Zn hS ⟨_,rfl,?_⟩
  exact⟨_,_,_,fun _=>undef,Tb.zero,2,rfl,.inr (.inr (.inl ⟨⟨hp,Oa,Oa,Oa,Oa,hnz⟩,bR,huu▸‹¬TPrp u›,rfl,rfl⟩)),slh_nil,slh_nil,slh_nil,((((hS.sub (.cons _ (.cons _ (.cons _ (.cons _ (.cons _ (.cons _ (.cons _ .slnil)))))))).addnil 1 3 (ints Tb.zero.B)).addnil 1 3 (ints Tb.zero.F)).addnil 1 22 (fun _=>undef)).addrows 3 (fun _=>undef) Tb.zero.ln Tb.zero.C⟩
 refine ZV<|(zV (xls 6 Zn hS))<|zle (xsw 1 Zn hS (hd:=(Za rfl (Za rfl (Za yo.one (Za ym.one (Za yn.one Zi))))))) ?_;clear hS;rintro w hS
 refine(zP)<|zx1<|Ym 1 Zn hS ⟨_,rfl,?_⟩
 exact⟨_,_,_,_,u,0,rfl,.inr (.inr (.inr ⟨⟨hp,Oa,Oa,Oa,Oa,hnz⟩,bR,huu▸(Od ‹¬¬(TPrp u)›),huu,rfl⟩)),yo,ym,yn,hS.pk [2,3,4,5]⟩
 all_goals
  refine zOps ?_
  refine zlt<|zct<|zsr ?_
  refine(zV (xany (v:= .agg #[.int Oi 0,.int Oi 0,Oh,Oh,Oh])))<|zle (xsw 1 Zn hS) ?_;clear hS;rintro w hS
  refine zOps ?_
  refine zx14<|Ym 1 Zn hS ⟨_,rfl,?_⟩
  exact⟨_,_,_,fun _=>undef,Tb.zero,1,rfl,.inl ⟨by first|exact fun hh=>absurd hh.1 ‹_›|(rintro⟨_,p1,p2,p3,p4,p5⟩;omega),rfl,rfl⟩,slh_nil,slh_nil,slh_nil,((((hS.sub (.cons _ (.cons _ .slnil))).addnil 1 3 (ints Tb.zero.B)).addnil 1 3 (ints Tb.zero.F)).addnil 1 22 (fun _=>undef)).addrows 3 (fun _=>undef) Tb.zero.ln Tb.zero.C⟩
theorem Zm6:Zd Om 168=true:=Oc
theorem fd_63_0:Zv Om 63 0=some 0:=Oc
theorem fd_63_1:Zv Om 63 1=some 1:=Oc
theorem fd_63_2:Zv Om 63 2=some 2:=Oc
theorem ZkO:Zx Om 63=some 3:=Oc
theorem Zj7{vc vA vb:Value}{vq:Int->Value}{p:Lp}(w0:World)(hL:LAt w0 vc vA vb vq p):
   Calls Om 168 [.agg #[vc,vA,vb]].toArray w0 fun e w=>∃v,e= .returned v/\v=B (LOk p)/\Sat w0 w []:=by
 have hn:=hL.c.slh.n0;have hn1:=hL.c.slh.n1;have hm:=hL.A.row.slh.n0;have hm1:=hL.A.row.slh.n1;have hk:=hL.b.slh.n0;have hk1:=hL.b.slh.n1
 refine zenG Tryz.func168 Tryz.ntmps168 fun w hS=> ?_
 refine zsr<|zla (xbx (cs:= [_,_,_]) hS) ?_;rintro _ w ⟨g1,rfl,hS⟩
 refine(zP)<|zlz<|(zV (xfb 0 fd_63_0))<|(zV (xlb 0 pl_22 hS))<|(zV (xln Zb hL.c.slh))<|zla (xal (cs:= [_]) ZJ hS) ?_;rintro _ w ⟨g2,rfl,hS⟩
 refine zle (xsb 1 pl_3 hS) ?_;clear hS;rintro w hS
 refine zx5<|(zV (xlb 1 pl_3 hS))<|(On)<|zlb 10 ?_ ?_<;>intro hc;rotate_left
 refine(zV (xlb 1 pl_3 hS))<|(Oo)<|zlb 14 ?_ ?_<;>intro hc;rotate_left
 refine(zV (xfb 1 fd_63_1))<|(zV (xlb 0 ZM hS))<|(zV (xln Zk hL.A.row.slh))<|(Oo)<|zlb 20 ?_ ?_<;>intro hc;rotate_left
 refine(zV (xfb 2 fd_63_2))<|(zV (xlb 0 pl_22 hS))<|(zV (xln Zb hL.b.slh))<|(zV (xfb 1 fd_63_1))<|(zV (xlb 0 ZM hS))<|(zV (xln Zk hL.A.row.slh))<|(Oo)<|zlb 29 ?_ ?_<;>intro hc;rotate_left
 refine(zV (xfb 0 fd_63_0))<|(zV (xlb 0 pl_22 hS))<|zlc (xc0 ZaW) (Vo (n:=p.n) (m:=1000000) (f:=p.c) w (hL.c.below hS.below) Oa) ?_;rintro _ w ⟨rfl,hS'⟩
 replace hS:=hS.cmp hS';clear hS'
 refine(Oo)<|zlb 35 ?_ ?_<;>intro hc;rotate_left
 refine(zV (xfb 2 fd_63_2))<|(zV (xlb 0 pl_22 hS))<|zlc (xc0 ZaW) (Vo (n:=p.k) (m:=1000000) (f:=p.b) w (hL.b.below hS.below) Oa) ?_;rintro _ w ⟨rfl,hS'⟩
 replace hS:=hS.cmp hS';clear hS'
 refine(On)<|zlt<|Zf ?_ ?_<;>intro hc
 ·
  refine zsr<|(zP)<|zx14<|Oj ?_
  exact⟨Zj (by intro hl;have b1:=hl.n1;have b2:=hl.n2;have b3:=hl.m2;have b4:=hl.k;first|omega|exact absurd (fun j j0 j1=>by have:=hl.c j j0 j1;omega) ‹¬Btw p.c p.n 1000000›|exact absurd (fun j j0 j1=>hl.b j j0 Oa) ‹¬Btw p.b p.k 1000000›|(obtain⟨j,j0,j1,j2⟩:=ya;have:=hl.c j j0 j1;omega)),hS.nl⟩
 refine ZV<|(zV xmf)<|(zP)<|zlz<|(zV (xfb 0 fd_63_0))<|(zV (xlb 0 pl_22 hS))<|zlc (xc0 ZhG) (Zk7 (n:=p.n) (f:=p.c) w (hL.c.below hS.below) Oa) ?_;rintro _ w ⟨x1,rfl,ya,yA,hS'⟩
 replace hS:=hS.cmp hS';clear hS'
 refine(On)<|zlb 46 ?_ ?_<;>intro hc
 ·
  refine(zV (xfb 1 fd_63_1))<|(zV (xlb 0 ZM hS))<|(zP)<|zlc (xc0 Zdy) (Zn4 (n:=p.m) (q:=p.n) (vv:=vq) (ln:=p.ln) (f:=p.A) w (hL.A.below hS.below) (hS.cellN 1 rfl rfl) Oa) ?_;rintro _ w ⟨rfl,hS'⟩
  replace hS:=hS.cmp hS';clear hS'
  refine(Oo)<|zx1<|Oj ?_
  refine⟨Zm ⟨fun hx=> ?_,fun hl hx=> ?_⟩,hS.nl⟩
  · have hc1:=(Od ‹¬¬(Btw p.c p.n 1000000)›);have hc2:=(Od ‹¬¬(Btw p.b p.k 1000000)›)
    refine⟨by omega,Oa,Oa,Oa,fun j j0 j1=>⟨by have:=yA j j0 j1;omega,(hc1 j j0 j1).2⟩,fun i i0 i1=>hc2 i i0 Oa,fun i i0 i1=> ?_⟩
    have hy:=Od fun hh=>hx ⟨i,i0,i1,hh⟩
    exact⟨hy.1,fun j j0 j1=>hy.2 j j0 (by have:=hy.1;omega)⟩
  · obtain⟨k,k0,k1,hh⟩:=hx
    have hr:=hl.rows k k0 k1
    exact hh ⟨hr.1,fun j j0 j1=>hr.2 j j0 (by have:=hr.1;omega)⟩
 iterate 5 refine zlo ?_
 refine(On)<|zx1<|Oj ?_
 exact⟨Zj (by intro hl;have b1:=hl.n1;have b2:=hl.n2;have b3:=hl.m2;have b4:=hl.k;first|omega|exact absurd (fun j j0 j1=>by have:=hl.c j j0 j1;omega) ‹¬Btw p.c p.n 1000000›|exact absurd (fun j j0 j1=>hl.b j j0 Oa) ‹¬Btw p.b p.k 1000000›|(obtain⟨j,j0,j1,j2⟩:=ya;have:=hl.c j j0 j1;omega)),hS.nl⟩
 all_goals
  refine zOps ?_
  refine zlt<|zct<|zsr ?_
  refine zOps ?_
  refine zx14<|Oj ?_
  exact⟨Zj (by intro hl;have b1:=hl.n1;have b2:=hl.n2;have b3:=hl.m2;have b4:=hl.k;first|omega|exact absurd (fun j j0 j1=>by have:=hl.c j j0 j1;omega) ‹¬Btw p.c p.n 1000000›|exact absurd (fun j j0 j1=>hl.b j j0 Oa) ‹¬Btw p.b p.k 1000000›|(obtain⟨j,j0,j1,j2⟩:=ya;have:=hl.c j j0 j1;omega)),hS.nl⟩
theorem Zkb{vc vA vb:Value}{vq:Int->Value}{p:Lp}(w0:World)(hL:LAt w0 vc vA vb vq p):
   Calls Om 94 [.agg #[vc,vA,vb]].toArray w0 fun e w=>∃v,e= .returned v/\∃vB vF vC vv t' e,v= .tuple #[.agg #[.int Oi t'.vars,.int Oi t'.den,vB,vF,vC],.int Oi e]/\StartR p t' e/\Slh vB t'.nb/\Slh vF t'.nf/\Slh vC t'.nc/\Sat w0 w [.own vB 1 3 t'.nb (ints t'.B),.own vF 1 3 t'.nf (ints t'.F),.own vC 1 22 t'.nc vv,.sem (Frame.rows 3 t'.nc vv t'.ln t'.C)]:=by
 have hn:=hL.c.slh.n0;have hn1:=hL.c.slh.n1;have hm:=hL.A.row.slh.n0;have hm1:=hL.A.row.slh.n1;have hk:=hL.b.slh.n0;have hk1:=hL.b.slh.n1
 refine zenG Tryz.func94 Tryz.ntmps94 fun w hS=> ?_
 refine zsr<|zla (xbx (cs:= [_,_,_]) hS) ?_;rintro _ w ⟨g1,rfl,hS⟩
 refine zla (xal (cs:= [_,_,_,_,_]) Xk hS) ?_;rintro _ w ⟨g2,rfl,hS⟩
 refine(zP)<|zx5<|(zV (xls 0 ZkO hS))<|zlc (xc0 Zm6) (Zj7 (p:=p) w (hL.below hS.below)) ?_;rintro _ w ⟨rfl,hS'⟩
 replace hS:=hS.cmp hS';clear hS'
 refine(zP)<|zlt<|Zf ?_ ?_<;>intro hc
 ·
  refine zsr<|(zV (xany (v:= .agg #[.int Oi 0,.int Oi 0,Oh,Oh,Oh])))<|zle (xsw 1 Zn hS) ?_;clear hS;rintro w hS
  refine(zP)<|zx14<|Ym 1 Zn hS ⟨_,rfl,?_⟩
  exact⟨_,_,_,fun _=>undef,Tb.zero,1,rfl,.inl ⟨‹_›,rfl,rfl⟩,slh_nil,slh_nil,slh_nil,((((hS.sub (.cons _ (.cons _ .slnil))).addnil 1 3 (ints Tb.zero.B)).addnil 1 3 (ints Tb.zero.F)).addnil 1 22 (fun _=>undef)).addrows 3 (fun _=>undef) Tb.zero.ln Tb.zero.C⟩
 refine zsk<|ztn<|zsq<| ?_
 refine VI (fun M w=>∃(g3:Nat) (v1:Value) (v2:Value) (v3:Value),(Slh v2 (p.n+1))/\(Slh v3 1)/\M= [(0,.agg #[vc,vA,vb]),(1,Or g1),(2,Or g2),(3,.int Oi 0),(8,.agg #[vc,vA,vb]),(9,B (LOk p)),(10,B (¬(LOk p))),(12,Or g1),(13,vc),(14,.int Oi p.n),(16,Or g1),(17,vc),(15,v1),(18,v2),(19,v3),(20,.agg #[.int Oi p.n,.int Oi 1,Oh,Oh,v3]),(4,Or g3)]/\Sat w0 w [.blk g1 [vc,vA,vb],.blk g2 [.int Oi 0,.int Oi 0,Oh,Oh,Oh],.own v2 1 3 (p.n+1) (ints (cat 1 (fun _=>0) p.c)),.own v3 1 22 1 (fun _=>v2),.blk g3 [.int Oi p.n,.int Oi 1,Oh,Oh,v3]]) ?_ ?_
 ·
  refine zdst [0,1] [0,1] 10 mx_ hS ?_;clear hS;intro w hS
  refine zDrv 0 (xfb 0 fd_63_0) ?_
  have hl:=(Od ‹¬¬(LOk p)›)
  have b1:=hl.n1
  have b2:=hl.n2
  have b3:=hl.m2
  have b4:=hl.k
  refine(zDl 1 (fun w hS=>(xlb 0 pl_22 hS)))<|(zDw 2 (xln Zb hL.c.slh))<|(zDw 4 (xfb 0 fd_63_0))<|(zDl 5 (fun w hS=>(xlb 0 pl_22 hS)))<|U4 (r:= [3,9]) ((Xt ?_ (Xt ?_ U3)))
  ·
   refine zka (xli (n:=1) (len:=1) (pv:= [(0,.int Oi 0)]) (cs:= [.int Oi 0]) (c:=ints (fun _=>0)) Zb ZJ hS) ?_;rintro v1 w ⟨hS,hv1⟩
   refine⟨⟨fun _=>hS.pk [0,1],hS.pk [0,1]⟩,?_⟩
   refine U4 (r:= [6,9]) ((Xt ?_ (Xt ?_ U3)))
   ·
    refine zka (xap 2 (r:=p.n+1) (f:=ints (cat 1 (fun _=>0) p.c)) Zb ZJ hS (hL.c.below hS.below) (by exact Xo _ _ _)) ?_;rintro v2 w ⟨hS,hv2⟩
    refine⟨⟨fun _=>hS.pk [0,1],hS.pk [0,1]⟩,?_⟩
    refine U4 (r:= [7,9]) ((Xt ?_ (Xt ?_ U3)))
    ·
     refine zka (xli (n:=1) (len:=1) (pv:= [(0,v2)]) (cs:= [v2]) (c:=(fun _=>v2)) Zk Yl hS (hf:=by obtain⟨_,_,_,_,rfl,_⟩:=hv2;kernel_rfl)) ?_;rintro v3 w ⟨hS,hv3⟩
     refine⟨⟨fun _=>hS.pk [0,1],hS.pk [0,1]⟩,?_⟩
     refine zDrv 8 (xany (v:= .agg #[.int Oi p.n,.int Oi 1,Oh,Oh,v3]) (hr:=by obtain⟨_,_,_,_,rfl,_⟩:=hv3;kernel_rfl)) ?_
     refine zda 9 (xal (cs:= [_,_,_,_,_]) Xk hS) ?_;rintro _ w ⟨g3,rfl,hS⟩
     refine⟨⟨fun _=>hS.pk [0,1],hS.pk [0,1]⟩,?_⟩
     refine zde 10 (xsw 4 Zn hS (hd:=(Za rfl (Za rfl (Za rfl (Za rfl (Za hv3.one Zi))))))) ?_;clear hS;rintro w hS
     refine⟨⟨fun h=>absurd h (by decide),hS.pk [0,1]⟩,?_⟩
     refine zdd<|zgj ⟨g3,v1,v2,v3,hv2,hv3,rfl,hS⟩
    refine zka (xal (cs:= [_,_,_,_,_]) Xk hS) ?_;rintro _ w ⟨g3,rfl,hS⟩
    refine⟨⟨fun _=>hS.pk [0,1],hS.pk [0,1]⟩,?_⟩
    refine zda 7 (xli (n:=1) (len:=1) (pv:= [(0,v2)]) (cs:= [v2]) (c:=(fun _=>v2)) Zk Yl hS (hf:=by obtain⟨_,_,_,_,rfl,_⟩:=hv2;kernel_rfl)) ?_;rintro v3 w ⟨hS,hv3⟩
    refine⟨⟨fun _=>hS.pk [0,1],hS.pk [0,1]⟩,?_⟩
    refine zDrv 8 (xany (v:= .agg #[.int Oi p.n,.int Oi 1,Oh,Oh,v3]) (hr:=by obtain⟨_,_,_,_,rfl,_⟩:=hv3;kernel_rfl)) ?_
    refine zde 10 (xsw 3 Zn hS (hd:=(Za rfl (Za rfl (Za rfl (Za rfl (Za hv3.one Zi))))))) ?_;clear hS;rintro w hS
    refine⟨⟨fun h=>absurd h (by decide),hS.pk [0,1]⟩,?_⟩
    refine zdd<|zgj ⟨g3,v1,v2,v3,hv2,hv3,rfl,hS.pk [0,1,2,4,3]⟩
   refine zka (xal (cs:= [_,_,_,_,_]) Xk hS) ?_;rintro _ w ⟨g3,rfl,hS⟩
   refine⟨⟨fun _=>hS.pk [0,1],hS.pk [0,1]⟩,?_⟩
   refine zda 6 (xap 2 (r:=p.n+1) (f:=ints (cat 1 (fun _=>0) p.c)) Zb ZJ hS (hL.c.below hS.below) (by exact Xo _ _ _)) ?_;rintro v2 w ⟨hS,hv2⟩
   refine⟨⟨fun _=>hS.pk [0,1],hS.pk [0,1]⟩,?_⟩
   refine zda 7 (xli (n:=1) (len:=1) (pv:= [(0,v2)]) (cs:= [v2]) (c:=(fun _=>v2)) Zk Yl hS (hf:=by obtain⟨_,_,_,_,rfl,_⟩:=hv2;kernel_rfl)) ?_;rintro v3 w ⟨hS,hv3⟩
   refine⟨⟨fun _=>hS.pk [0,1],hS.pk [0,1]⟩,?_⟩
   refine zDrv 8 (xany (v:= .agg #[.int Oi p.n,.int Oi 1,Oh,Oh,v3]) (hr:=by obtain⟨_,_,_,_,rfl,_⟩:=hv3;kernel_rfl)) ?_
   refine zde 10 (xsw 3 Zn hS (hd:=(Za rfl (Za rfl (Za rfl (Za rfl (Za hv3.one Zi))))))) ?_;clear hS;rintro w hS
   refine⟨⟨fun h=>absurd h (by decide),hS.pk [0,1]⟩,?_⟩
   refine zdd<|zgj ⟨g3,v1,v2,v3,hv2,hv3,rfl,hS.pk [0,1,2,4,3]⟩
  refine zka (xal (cs:= [_,_,_,_,_]) Xk hS) ?_;rintro _ w ⟨g3,rfl,hS⟩
  refine⟨⟨fun _=>hS.pk [0,1],hS.pk [0,1]⟩,?_⟩
  refine zda 3 (xli (n:=1) (len:=1) (pv:= [(0,.int Oi 0)]) (cs:= [.int Oi 0]) (c:=ints (fun _=>0)) Zb ZJ hS) ?_;rintro v1 w ⟨hS,hv1⟩
  refine⟨⟨fun _=>hS.pk [0,1],hS.pk [0,1]⟩,?_⟩
  refine zda 6 (xap 3 (r:=p.n+1) (f:=ints (cat 1 (fun _=>0) p.c)) Zb ZJ hS (hL.c.below hS.below) (by exact Xo _ _ _)) ?_;rintro v2 w ⟨hS,hv2⟩
  refine⟨⟨fun _=>hS.pk [0,1],hS.pk [0,1]⟩,?_⟩
  refine zda 7 (xli (n:=1) (len:=1) (pv:= [(0,v2)]) (cs:= [v2]) (c:=(fun _=>v2)) Zk Yl hS (hf:=by obtain⟨_,_,_,_,rfl,_⟩:=hv2;kernel_rfl)) ?_;rintro v3 w ⟨hS,hv3⟩
  refine⟨⟨fun _=>hS.pk [0,1],hS.pk [0,1]⟩,?_⟩
  refine zDrv 8 (xany (v:= .agg #[.int Oi p.n,.int Oi 1,Oh,Oh,v3]) (hr:=by obtain⟨_,_,_,_,rfl,_⟩:=hv3;kernel_rfl)) ?_
  refine zde 10 (xsw 2 Zn hS (hd:=(Za rfl (Za rfl (Za rfl (Za rfl (Za hv3.one Zi))))))) ?_;clear hS;rintro w hS
  refine⟨⟨fun h=>absurd h (by decide),hS.pk [0,1]⟩,?_⟩
  refine zdd<|zgj ⟨g3,v1,v2,v3,hv2,hv3,rfl,hS.pk [0,1,3,4,2]⟩
 clear hS w;rintro M w ⟨g3,v1,v2,v3,hv2,hv3,rfl,hS⟩
 refine ztn<|zsq<|zsr<|(zV (xfb 0 fd_63_0))<|(zV (xlb 0 pl_22 hS))<|zlv (xln Zb hL.c.slh) ?_
 have hl:=(Od ‹¬¬(LOk p)›)
 have b1:=hl.n1
 have b2:=hl.n2
 have b3:=hl.m2
 have b4:=hl.k
 refine(zP)<|zx6 ?_
 replace hS:=hS.addrows 3 (fun _=>Oh) (fun _=>0) (fun _ _=>0)
 replace hS:=Sat.merge2 (l1:= [.blk g1 [vc,vA,vb],.blk g2 [.int Oi 0,.int Oi 0,Oh,Oh,Oh]]) (l2:= [.own v3 1 22 1 (fun _=>v2),.blk g3 [.int Oi p.n,.int Oi 1,Oh,Oh,v3]]) (l3:= []) hS Oa
 replace hS:=hS.rerows (vv':=(fun _=>v2)) (ln':=(Zw p).ln) (f':=(Zw p).C) 4 rfl (fun k k0 k1=>by
   obtain rfl:k=0:=Oa
   refine⟨Y1 _ _ _,?_,fun j j0 j1=> ?_⟩
   · rw [Y1];show _=p.n+1;omega
   · rw [Y1];unfold Zw cat;dsimp only;(repeat' split)<;>first|rfl|omega)
 have aV:=fun k (k0:0<=k) (k1:k<1)=>hS.slhIn 4 rfl k0 k1
 replace hS:=hS.addnil 1 3 (ints (fun _=>0))
 replace hS:=hS.addnil 1 3 (ints (fun _=>0))
 refine zlp (fun mm M w=>∃(nF:Int) (j:Int) (wF:Value) (fF:Of),mm=((p.n-j).toNat)/\(0<=j)/\(j<=p.n)/\(nF=j)/\(∀k,0<=k->k<j->fF k=k)/\(Slh wF nF)/\M= [(1,Or g1),(2,Or g2),(3,.int Oi 0),(4,Or g3),(23,.int Oi p.n),(24,.int Oi j)]/\Sat w0 w [.blk g1 [vc,vA,vb],.blk g2 [.int Oi 0,.int Oi 0,Oh,Oh,Oh],.own v3 1 22 1 (fun _=>v2),.blk g3 [.int Oi p.n,.int Oi 1,Oh,wF,v3],.sem (Frame.rows 3 1 (fun _=>v2) ((Zw p).ln) ((Zw p).C)),.own wF 1 3 nF (ints fF),.own Oh 1 3 0 (ints (fun _=>0))]) ⟨0,0,Oh,(fun _=>0),rfl,Oa,Oa,Oa,?_,?_,rfl,hS⟩ ?_
 ·
  intro k k0 k1;omega
 ·
  exact slh_nil
 clear hS w
 rintro mm M w ⟨nF,j,wF,fF,rfl,j0,j1,hnF,hfF,hwF,rfl,hS⟩
 refine zsr<|(zP)<|zx7<|Zf ?_ ?_<;>intro hc
 ·
  refine zx3<|(On)<|zlt<|zrg<|(zV (xfb 3 fd_107_3))<|(zV (xlb 3 pl_22 hS))<|(zP)<|zla (xli (n:=1) (len:=1) (pv:= [(0,.int Oi j)]) (cs:= [.int Oi j]) (c:=ints (fun _=>j)) Zb ZJ hS) ?_;rintro v4 w ⟨hS,hv4⟩
  refine zla (xap 5 (r:=nF+1) Zb ZJ hS (hS.rowN 7 rfl) (Wl _ _ _)) ?_;rintro v5 w ⟨hS,hv5⟩
  refine(zV (xfb 3 fd_107_3))<|zle (xsb 3 pl_22 hS (hv:=hv5.one)) ?_;clear hS;rintro w hS
  refine zx10<|(zV (Zh (r:=j+1)))<|(zP)<|zln<|zlq ⟨nF+1,j+1,v5,(snoc fF nF j),rfl,Oa,Oa,Oa,?_,?_,rfl,hS.pk [0,1,2,3,4,5,6]⟩
  ·
   intro k k0 k1;by_cases e:k<nF
   · rw [Zs e];exact hfF k k0 Oa
   · rw [Zt e];omega
  ·
   exact hv5
 refine zx18<|(zV (xfb 1 fd_63_1))<|(zV (xlb 0 ZM hS))<|(zV (xln Zk hL.A.row.slh))<|(zP)<|zx6<|zlp (fun mm M w=>∃(mB:Int) (nC:Int) (wv:Int->Value) (i:Int) (wB:Value) (fB:Of) (wC:Value),mm=((p.m-i).toNat)/\(0<=i)/\(i<=p.m)/\(mB=i)/\(nC=i+1)/\(∀k,0<=k->k<i->fB k=p.n+k)/\(Slh wB mB)/\(Slh wC nC)/\M= [(1,Or g1),(2,Or g2),(3,.int Oi 0),(4,Or g3),(35,vA),(36,.int Oi p.m),(37,.int Oi i)]/\Sat w0 w [.blk g1 [vc,vA,vb],.blk g2 [.int Oi 0,.int Oi 0,Oh,Oh,Oh],.own wC 1 22 nC wv,.blk g3 [.int Oi p.n,.int Oi 1,wB,wF,wC],.sem (Frame.rows 3 nC wv ((Zw p).ln) ((Zw p).C)),.own wF 1 3 nF (ints fF),.own wB 1 3 mB (ints fB)]) ⟨0,1,(fun _=>v2),0,Oh,(fun _=>0),v3,rfl,Oa,Oa,Oa,Oa,?_,?_,?_,rfl,hS⟩ ?_
 ·
  intro k k0 k1;omega
 ·
  exact slh_nil
 ·
  exact hv3
 clear hS w
 rintro mm M w ⟨mB,nC,wv,i,wB,fB,wC,rfl,i0,i1,hmB,hnC,hfB,hwB,hwC,rfl,hS⟩
 have xp:=fun k (k0:0<=k) (k1:k<nC)=>hS.slhIn 4 rfl k0 k1
 refine zsr<|(zP)<|zx7<|Zf ?_ ?_<;>intro hc
 ·
  refine zx3<|(zP)<|(zV (xix (kk:=i) Zk hL.A.row.slh))<|zlv (xlr (u:=(vq i)) pl_22 (hL.A.row.below hS.below)) ?_
  have hri:=hl.rows i i0 Oa
  refine(On)<|zlz<|(zV (xfb 2 fd_107_2))<|(zV (xlb 3 pl_22 hS))<|(zV (xfb 0 fd_107_0))<|(zV (xlb 3 pl_3 hS))<|(zP)<|(zV (Zh (r:=p.n+i)))<|zla (xli (n:=1) (len:=1) (pv:= [(0,.int Oi (p.n+i))]) (cs:= [.int Oi (p.n+i)]) (c:=ints (fun _=>p.n+i)) Zb ZJ hS) ?_;rintro v6 w ⟨hS,hv6⟩
  refine zla (xap 6 (r:=mB+1) Zb ZJ hS (hS.rowN 7 rfl) (Wl _ _ _)) ?_;rintro v7 w ⟨hS,hv7⟩
  refine(zV (xfb 2 fd_107_2))<|zle (xsb 3 pl_22 hS (hv:=hv7.one)) ?_;clear hS;rintro w hS
  refine zlt<|zdst [0,1,3] [0,1] 14 mx_ hS ?_;clear hS;intro w hS
  refine(zDw 0 (xfb 4 fd_107_4))<|zdl 1 (fun w hS=>(xlb 2 ZM hS)) ?_
  refine(zDw 2 (xfb 2 fd_63_2))<|(zDl 3 (fun w hS=>(xlb 0 pl_22 hS)))<|(zDw 4 xmv)<|(zDw 5 (xix (kk:=i) Zb hL.b.slh))<|YF 6 (fun w hS=>(xlr (u:= .int Oi (p.b i)) pl_3 (hL.b.below hS.below))) ?_
  have hbi:=hl.b i i0 Oa
  refine(zDw 7 (ZfR (r:= -((p.b i)))))<|(zDw 9 xmv)<|zda 8 (xli (n:=1) (len:=1) (pv:= [(0,.int Oi (-((p.b i))))]) (cs:= [.int Oi (-((p.b i)))]) (c:=ints (fun _=> -((p.b i)))) Zb ZJ hS) ?_;rintro v8 w ⟨hS,hv8⟩
  refine⟨⟨fun _=>hS.pk [0,1,3],hS.pk [0,1]⟩,?_⟩
  refine zda 10 (xap 8 (r:=(p.ln i)+1) (f:=ints (cat 1 (fun _=> -(p.b i)) (p.A i))) Zb ZJ hS ((hL.A.p i Oa Oa).below hS.below) (by exact Xo _ _ _)) ?_;rintro v9 w ⟨hS,hv9⟩
  refine⟨⟨fun _=>hS.pk [0,1,3],hS.pk [0,1]⟩,?_⟩
  refine zda 11 (xli (n:=1) (len:=1) (pv:= [(0,v9)]) (cs:= [v9]) (c:=(fun _=>v9)) Zk Yl hS (hf:=by obtain⟨_,_,_,_,rfl,_⟩:=hv9;kernel_rfl)) ?_;rintro v10 w ⟨hS,kR⟩
  refine⟨⟨fun _=>hS.pk [0,1,3],hS.pk [0,1]⟩,?_⟩
  refine zda 12 (xap 2 (r:=nC+1) Zk Yl hS (hS.rowN 9 rfl) (WE _ _ _) (h1:=fun _ _ _=>hv9.one)) ?_;rintro v11 w ⟨hS,eN⟩
  replace hS:=Sat.merge (l1:= [_,_,_,_]) (l2:= [_,_,_]) (l3:= [_]) hS Oa
  have za:=fun k (k0:0<=k) (k1:k<nC+1)=>hS.slhIn 4 rfl k0 k1
  refine⟨⟨fun _=>hS.pk [0,1,3],hS.pk [0,1]⟩,?_⟩
  refine(zDw 13 (xfb 4 fd_107_4))<|zde 14 (xsb 3 ZM hS (hv:=eN.one)) ?_;clear hS;rintro w hS
  refine⟨⟨fun h=>absurd h (by decide),hS.pk [0,1]⟩,?_⟩
  refine zdd<|zbn<|ztn<|zrg ?_
  refine zlv (Zh (r:=i+1)) ?_
  replace hS:=hS.rerows (vv':=gsn wv nC v9) (ln':=(Zw p).ln) (f':=(Zw p).C) 4 rfl (fun k k0 k1=>by
    by_cases e:k<i+1
    · exact⟨rfl,Zq Oa,fun j _ _=>by rw [Zq Oa]⟩
    · have hki:k=i+1:=Oa
      refine⟨rfl,?_,fun j j0 j1=> ?_⟩
      · rw [ZB Oa];show _=p.n+1;omega
      · rw [ZB Oa];unfold Zw cat;dsimp only;(repeat' split)<;>first|rfl|omega|(congr 2;omega)|(congr 1;omega))
  have eX:=fun k (k0:0<=k) (k1:k<nC+1)=>hS.slhIn 4 rfl k0 k1
  refine(zP)<|zln<|zlq ⟨mB+1,nC+1,gsn wv nC v9,i+1,v7,(snoc fB mB (p.n+i)),v11,rfl,Oa,Oa,Oa,Oa,?_,?_,?_,rfl,hS.pk [0,1,2,3,4,5,6]⟩
  ·
   intro k k0 k1;by_cases e:k<mB
   · rw [Zs e];exact hfB k k0 Oa
   · rw [Zt e];omega
  ·
   exact hv7
  ·
   exact eN
 refine zx8<|(zV (xls 3 Zn hS))<|zle (xsw 1 Zn hS (hd:=(Za rfl (Za rfl (Za hwB.one (Za hwF.one (Za hwC.one Zi))))))) ?_;clear hS;rintro w hS
 refine(zP)<|zx1<|Ym 1 Zn hS ⟨_,rfl,?_⟩
 obtain rfl:i=p.m:=Oa
 obtain rfl:mB=p.m:=Oa
 obtain rfl:nC=p.m+1:=Oa
 obtain rfl:nF=p.n:=Oa
 replace hS:=hS.recont 6 rfl (d:=ints (Zw p).B) (fun k k0 k1=>by unfold ints;rw [hfB k k0 (by simp at k1;omega)];rfl)
 replace hS:=hS.recont 5 rfl (d:=ints (Zw p).F) (fun k k0 k1=>by unfold ints;rw [hfF k k0 (by simp at k1;omega)];rfl)
 exact⟨_,_,_,_,Zw p,0,rfl,.inr ⟨hl,rfl,rfl⟩,hwB,hwF,hwC,(hS.pk [2,4,5,6]).perm (R2 (l1:= [_,_,_]) (l2:= []) (R2 (l1:= [_,_]) (l2:= []) (List.Perm.refl _)))⟩
theorem ZmO:Zd Om 239=true:=Oc
theorem ZmN:Zd Om 240=true:=Oc
theorem Zki{vB vF vC:Value}{vv:Int->Value}{t:Tb}(w0:World)(hT:TAt w0 vB vF vC vv t):Calls Om 239 [.agg #[.int Oi t.vars,.int Oi t.den,vB,vF,vC]].toArray w0 fun e w=>∃v,e= .returned v/\∃r c d e,v= .tuple #[.int Oi r,.int Oi c,B (d=true),.int Oi e]/\NextR t r c d e/\Sat w0 w []:=
 (ZnK w0 hT).mono fun e w h=>by
   obtain⟨v,he,r,c,d,e',hv,hn,hS⟩:=h
   exact⟨v,he,r,c,d,e',by rw [hv,Zof],hn,hS⟩
theorem ZdH{vB vF vC:Value}{vv:Int->Value}{t:Tb}(w0:World)(hT:TAt w0 vB vF vC vv t):
   Calls Om 169 [.agg #[.int Oi t.vars,.int Oi t.den,vB,vF,vC]].toArray w0 fun e w=>∃v,e= .returned v/\∃xB xF xC xv u e,v= .tuple #[.agg #[.int Oi u.vars,.int Oi u.den,xB,xF,xC],.int Oi e]/\Run 1000 t u e/\Slh xB u.nb/\Slh xF u.nf/\Slh xC u.nc/\Sat w0 w [.sem (Frame.alt (u=t/\xB=vB/\xF=vF/\xC=vC/\xv=vv) (Frame.bun [.own xB 1 3 u.nb (ints u.B),.own xF 1 3 u.nf (ints u.F),.own xC 1 22 u.nc xv,.sem (Frame.rows 3 u.nc xv u.ln u.C)]))]:=by
 refine zenG Tryz.func169 Tryz.ntmps169 fun w hS=> ?_
 refine zsr<|zla (xbx (cs:= [_,_,_,_,_]) hS) ?_;rintro _ w ⟨g1,rfl,hS⟩
 refine zla (xal (cs:= [_,_,_,_,_]) Xk hS) ?_;rintro _ w ⟨g2,rfl,hS⟩
 refine(zP)<|zlz<|(zP)<|zx6 ?_
 replace hS:=hS.altL (Frame.bun [.own vB 1 3 t.nb (ints t.B),.own vF 1 3 t.nf (ints t.F),.own vC 1 22 t.nc vv,.sem (Frame.rows 3 t.nc vv t.ln t.C)]) (p:=t=t/\vB=vB/\vF=vF/\vC=vC/\vv=vv) ⟨rfl,rfl,rfl,rfl,rfl⟩
 refine zlp (fun mm M w=>∃(u:Tb) (xB:Value) (xF:Value) (xC:Value) (xv:Int->Value) (n:Int),mm=(((1001:Int)-n).toNat)/\(0<=n)/\(n<=1000)/\(Slh xB u.nb)/\(Slh xF u.nf)/\(Slh xC u.nc)/\(∀z e,Run (1000-n).toNat u z e->Run 1000 t z e)/\M= [(1,Or g1),(2,Or g2),(4,.int Oi n)]/\Sat w0 w [.blk g1 [.int Oi u.vars,.int Oi u.den,xB,xF,xC],.blk g2 [.int Oi 0,.int Oi 0,Oh,Oh,Oh],.sem (Frame.alt (u=t/\xB=vB/\xF=vF/\xC=vC/\xv=vv) (Frame.bun [.own xB 1 3 u.nb (ints u.B),.own xF 1 3 u.nf (ints u.F),.own xC 1 22 u.nc xv,.sem (Frame.rows 3 u.nc xv u.ln u.C)]))]) ⟨t,vB,vF,vC,vv,0,rfl,Oa,Oa,?_,?_,?_,?_,rfl,hS.sub (List.Sublist.refl _)⟩ ?_
 ·
  exact hT.B.slh
 ·
  exact hT.F.slh
 ·
  exact hT.C.row.slh
 ·
  exact fun z e h=>h
 clear hS w
 rintro mm M w ⟨u,xB,xF,xC,xv,n,rfl,n0,n1,hxB,hxF,hxC,yp,rfl,hS⟩
 have htu:=YG (hT.below hS.below) hS 2 rfl
 have hub:=htu.B.slh.n0;have kT:=htu.B.slh.n1;have huf:=htu.F.slh.n0;have kS:=htu.F.slh.n1
 refine zsq<|zbk<|zsr<|(zV (xls 0 Zn hS))<|zlc (xc0 ZmO) (Zki (t:=u) w (YG (hT.below hS.below) hS 2 rfl)) ?_;rintro _ w ⟨rn1,cn1,dn1,en1,rfl,bL,hS'⟩
 replace hS:=hS.cmp hS';clear hS'
 have hrc:=bL.rng
 refine zs6 ?_
 refine(Oo)<|zx5<|(On)<|zlb 20 ?_ ?_<;>intro hc
 ·
  refine(zO)<|(zO)<|(zP)<|zlt<|zct<|zsr ?_
  refine(zV (xls 0 Zn hS))<|(zP)<|zle (xsw 1 Zn hS (hd:=(Za rfl (Za rfl (Za hxB.one (Za hxF.one (Za hxC.one Zi))))))) ?_;clear hS;rintro w hS
  refine(zP)<|zlt<|zrt<|ztr<|zbr<|ztr<|ztr<|zbr<|Ym 1 Zn hS ⟨_,rfl,?_⟩
  exact⟨xB,xF,xC,xv,u,_,rfl,yp _ _ (.stop bL (by first|exact .inl hc|exact .inr Oa)),hxB,hxF,hxC,hS.pk [2]⟩
 refine(Oo)<|zlt<|Zf ?_ ?_<;>intro hc
 ·
  refine zsr<|(zV (xls 0 Zn hS))<|(zP)<|zle (xsw 1 Zn hS (hd:=(Za rfl (Za rfl (Za hxB.one (Za hxF.one (Za hxC.one Zi))))))) ?_;clear hS;rintro w hS
  refine(zP)<|zlt<|zrt<|ztr<|zbr<|ztr<|ztr<|zbr<|Ym 1 Zn hS ⟨_,rfl,?_⟩
  exact⟨xB,xF,xC,xv,u,_,rfl,yp _ _ (.stop bL (by first|exact .inl hc|exact .inr Oa)),hxB,hxF,hxC,hS.pk [2]⟩
 refine zsk<|ztn<|zsq<|zsr<|zlv xmv ?_
 have hn0:NextR u rn1 cn1 false 0:=by have h1:dn1=false:=(by simpa using‹¬(dn1=true)›);have h2:en1=0:=Oa;have h3:=bL;rw [h1,h2] at h3;exact h3
 have hpu:=(hn0.prp Oa).1;have hq1:=hpu.n2;have hq2:=hpu.m2
 refine(zP)<|zlt<|Zf ?_ ?_<;>intro hc
 ·
  refine zsr<|(zV (xls 0 Zn hS))<|zle (xsw 1 Zn hS (hd:=(Za rfl (Za rfl (Za hxB.one (Za hxF.one (Za hxC.one Zi))))))) ?_;clear hS;rintro w hS
  refine(zP)<|zlt<|zrt<|ztr<|zbr<|ztr<|ztr<|zbr<|Ym 1 Zn hS ⟨_,rfl,?_⟩
  exact⟨xB,xF,xC,xv,u,_,rfl,yp _ _ (by rw [show(1000-n).toNat=0 by omega];exact .lim hn0),hxB,hxF,hxC,hS.pk [2]⟩
 refine ZV<|(zV (xls 0 Zn hS))<|(On)<|zlc (xc0 ZmN) (Zkg (t:=u) (row:=rn1) (col:=cn1) w (YG (hT.below hS.below) hS 2 rfl) Oa Oa) ?_;rintro _ w ⟨qF,qE,qo,qp,tk1,ek1,rfl,aY,y9,y7,y8,hS'⟩
 replace hS:=(hS.comp hS').n7;clear hS'
 have eW:=fun k (k0:0<=k) (k1:k<tk1.nc)=>hS.slhIn 6 rfl k0 k1
 refine(Oo)<|zla (xal (cs:= [_,_,_,_,_]) Xk hS) ?_;rintro _ w ⟨g3,rfl,hS⟩
 refine zle (xsw 7 Zn hS (hd:=(Za rfl (Za rfl (Za y9.one (Za y7.one (Za y8.one Zi))))))) ?_;clear hS;rintro w hS
 refine(zP)<|zx5<|(On)<|zlt<|Zf ?_ ?_<;>intro hc
 ·
  refine zsr<|(zV (xls 0 Zn hS))<|(zP)<|zle (xsw 1 Zn hS (hd:=(Za rfl (Za rfl (Za hxB.one (Za hxF.one (Za hxC.one Zi))))))) ?_;clear hS;rintro w hS
  refine(zP)<|zlt<|zrt<|ztr<|zbr<|ztr<|ztr<|zbr<|Ym 1 Zn hS ⟨_,rfl,?_⟩
  exact⟨xB,xF,xC,xv,u,_,rfl,yp _ _ (by rw [show(1000-n).toNat=(1000-(n+1)).toNat+1 by omega];exact .bad hn0 aY Oa),hxB,hxF,hxC,hS.pk [2]⟩
 refine zsk<|ztn<|zrg<|(zV (xls 7 Zn hS))<|zle (xsw 0 Zn hS (hd:=(Za rfl (Za rfl (Za y9.one (Za y7.one (Za y8.one Zi))))))) ?_;clear hS;rintro w hS
 refine zx10<|zlv xmv ?_
 replace hS:=hS.sub (.cons_cons _ (.cons_cons _ (.cons _ (.cons_cons _ (.cons_cons _ (.cons_cons _ (.cons_cons _ (.cons _ .slnil))))))))
 replace hS:=Sat.altR (tk1=t/\qF=vB/\qE=vF/\qo=vC/\qp=vv) (l1:= [.blk g1 [.int Oi tk1.vars,.int Oi tk1.den,qF,qE,qo],.blk g2 [.int Oi 0,.int Oi 0,Oh,Oh,Oh]]) (l2:= []) (Sat.bundle (l1:= [.blk g1 [.int Oi tk1.vars,.int Oi tk1.den,qF,qE,qo],.blk g2 [.int Oi 0,.int Oi 0,Oh,Oh,Oh]]) (l2:= [.own qF 1 3 tk1.nb (ints tk1.B),.own qE 1 3 tk1.nf (ints tk1.F),.own qo 1 22 tk1.nc qp,.sem (Frame.rows 3 tk1.nc qp tk1.ln tk1.C)]) hS)
 refine(zV (Zh (r:=n+1)))<|(zP)<|zln<|zlq ⟨tk1,qF,qE,qo,qp,n+1,rfl,Oa,Oa,?_,?_,?_,?_,rfl,hS.sub (List.Sublist.refl _)⟩
 ·
  exact y9
 ·
  exact y7
 ·
  exact y8
 ·
  intro z e hz;have he0:ek1=0:=Oa;rw [he0] at aY;exact yp z e (by rw [show(1000-n).toNat=(1000-(n+1)).toNat+1 by omega];exact .go hn0 aY hz)
theorem Zm5:Zd Om 169=true:=Oc
theorem Zo1:Zd Om 94=true:=Oc
theorem Ua:ZN Om 54=some (.agg #[Oh,Oh,.int Oi 0,.int Oi 0],4,64):=Oc
theorem fd_54_0:Zv Om 54 0=some 0:=Oc
theorem fd_54_1:Zv Om 54 1=some 1:=Oc
theorem ZT:Zx Om 54=some 4:=Oc
theorem Zkd{vc vA vb:Value}{vq:Int->Value}{p:Lp}(w0:World)(hL:LAt w0 vc vA vb vq p):
   Calls Om 162 [.agg #[vc,vA,vb]].toArray w0 fun e w=>∃v,e= .returned v/\∃vX vY s e,v= .tuple #[.agg #[vX,vY,.int Oi s.val,.int Oi s.den],.int Oi e]/\SolveR p s e/\Slh vX s.n/\Slh vY s.m/\Sat w0 w [.own vX 1 3 s.n (ints s.X),.own vY 1 3 s.m (ints s.Y)]:=by
 have hn:=hL.c.slh.n0;have hn1:=hL.c.slh.n1;have hm:=hL.A.row.slh.n0;have hm1:=hL.A.row.slh.n1;have hk:=hL.b.slh.n0;have hk1:=hL.b.slh.n1
 refine zenG Tryz.func162 Tryz.ntmps162 fun w hS=> ?_
 refine zsr<|zla (xbx (cs:= [_,_,_]) hS) ?_;rintro _ w ⟨g1,rfl,hS⟩
 refine zla (xal (cs:= [_,_,_,_]) Ua hS) ?_;rintro _ w ⟨g2,rfl,hS⟩
 refine(zP)<|zlz<|(zV (xls 0 ZkO hS))<|zlc (xc0 Zo1) (Zkb (p:=p) w (hL.below hS.below)) ?_;rintro _ w ⟨qF,qE,qo,qp,tk1,ek1,rfl,zX,y9,y7,y8,hS'⟩
 replace hS:=(hS.comp hS').n6;clear hS'
 have eW:=fun k (k0:0<=k) (k1:k<tk1.nc)=>hS.slhIn 5 rfl k0 k1
 refine(Oo)<|zla (xal (cs:= [_,_,_,_,_]) Xk hS) ?_;rintro _ w ⟨g3,rfl,hS⟩
 refine zle (xsw 6 Zn hS (hd:=(Za rfl (Za rfl (Za y9.one (Za y7.one (Za y8.one Zi))))))) ?_;clear hS;rintro w hS
 refine(zP)<|zx5<|(On)<|zlt<|Zf ?_ ?_<;>intro hc
 ·
  refine zsr<|(zV (xany (v:= .agg #[Oh,Oh,.int Oi 0,.int Oi 0])))<|(zP)<|zle (xsw 1 ZT hS) ?_;clear hS;rintro w hS
  refine(zP)<|zx14<|Ym 1 ZT hS ⟨_,rfl,?_⟩
  obtain⟨hl0,hl1⟩:=zX.err Oa
  exact⟨_,_,So.zero,_,rfl,.inl ⟨hl0,rfl,hl1⟩,slh_nil,slh_nil,((hS.sub (.cons _ (.cons _ (.cons _ (.cons _ (.cons _ (.cons _ (.cons _ .slnil)))))))).addnil 1 3 (ints So.zero.X)).addnil 1 3 (ints So.zero.Y)⟩
 refine zsk<|ztn<|zsq<|zsr<|(zV (xls 6 Zn hS))<|zlc (xc0 Zm5) (ZdH (t:=tk1) w (⟨(hS.rowN 2 rfl),(hS.rowN 3 rfl),(⟨(hS.rowN 4 rfl),fun k k0 k1=>hS.rowIn 5 rfl k0 k1,fun k k0 k1=>hS.roomIn 5 rfl k0 k1⟩:MAt _ qo tk1.nc qp tk1.ln tk1.C)⟩:TAt _ qF qE qo qp tk1)) ?_;rintro _ w ⟨xO,xN,xG,xE,uu1,zJ,rfl,xo,aM,aL,zW,hS'⟩
 replace hS:=(hS.comp hS').n8;clear hS'
 have aK:=fun k (k0:0<=k) (k1:k<uu1.nc)=>((YG (⟨(hS.rowN 2 rfl),(hS.rowN 3 rfl),(⟨(hS.rowN 4 rfl),fun k k0 k1=>hS.rowIn 5 rfl k0 k1,fun k k0 k1=>hS.roomIn 5 rfl k0 k1⟩:MAt _ qo tk1.nc qp tk1.ln tk1.C)⟩:TAt _ qF qE qo qp tk1) hS 7 rfl).C.p k k0 k1).slh
 refine(Oo)<|zle (xsw 6 Zn hS (hd:=(Za rfl (Za rfl (Za aM.one (Za aL.one (Za zW.one Zi))))))) ?_;clear hS;rintro w hS
 refine(zP)<|zlz<|(On)<|zlt<|Zf ?_ ?_<;>intro hc
 ·
  refine zsr<|(zV (xany (v:= .agg #[Oh,Oh,.int Oi 0,.int Oi 0])))<|(zP)<|zle (xsw 1 ZT hS) ?_;clear hS;rintro w hS
  refine(zP)<|zx14<|Ym 1 ZT hS ⟨_,rfl,?_⟩
  obtain⟨hl,hts⟩:=zX.ok Oa;rw [hts] at xo
  exact⟨_,_,So.zero,_,rfl,.inr ⟨hl,_,xo,.inl ⟨by omega,rfl⟩⟩,slh_nil,slh_nil,((hS.sub (.cons _ (.cons _ (.cons _ (.cons _ (.cons _ (.cons _ (.cons _ (.cons _ .slnil))))))))).addnil 1 3 (ints So.zero.X)).addnil 1 3 (ints So.zero.Y)⟩
 refine zsk<|ztn<|zsq<| ?_
 refine VI (fun M w=>∃(v1:Value) (v2:Value) (g4:Nat),(Slh v1 p.n)/\(Slh v2 p.m)/\M= [(0,.agg #[vc,vA,vb]),(1,Or g1),(2,Or g2),(3,.int Oi 0),(12,.agg #[vc,vA,vb]),(13,.tuple #[.agg #[.int Oi tk1.vars,.int Oi tk1.den,qF,qE,qo],.int Oi ek1]),(11,.tuple #[.agg #[.int Oi tk1.vars,.int Oi tk1.den,qF,qE,qo],.int Oi ek1]),(14,.agg #[.int Oi tk1.vars,.int Oi tk1.den,qF,qE,qo]),(15,.int Oi ek1),(4,Or g3),(5,.int Oi zJ),(16,.int Oi ek1),(17,B (ek1≠0)),(21,.agg #[.int Oi tk1.vars,.int Oi tk1.den,qF,qE,qo]),(22,.tuple #[.agg #[.int Oi uu1.vars,.int Oi uu1.den,xO,xN,xG],.int Oi zJ]),(20,.tuple #[.agg #[.int Oi uu1.vars,.int Oi uu1.den,xO,xN,xG],.int Oi zJ]),(23,.agg #[.int Oi uu1.vars,.int Oi uu1.den,xO,xN,xG]),(24,.int Oi zJ),(25,.int Oi zJ),(26,B (zJ≠0)),(29,Or g1),(30,vc),(31,.int Oi p.n),(33,.pointer (some ⟨g1,1,none⟩)),(34,vA),(35,.int Oi p.m),(37,.pointer (some ⟨g3,4,none⟩)),(38,xG),(39,.pointer (some (cad xG 0))),(40,(xE 0)),(41,.pointer (some (cad (xE 0) 0))),(42,.int Oi (uu1.C 0 0)),(43,.pointer (some ⟨g3,1,none⟩)),(44,.int Oi uu1.den),(32,v1),(36,v2),(45,.agg #[v1,v2,.int Oi (uu1.C 0 0),.int Oi uu1.den]),(6,Or g4)]/\Sat w0 w [.blk g1 [vc,vA,vb],.blk g2 [Oh,Oh,.int Oi 0,.int Oi 0],.own qF 1 3 tk1.nb (ints tk1.B),.own qE 1 3 tk1.nf (ints tk1.F),.own qo 1 22 tk1.nc qp,.sem (Frame.rows 3 tk1.nc qp tk1.ln tk1.C),.blk g3 [.int Oi uu1.vars,.int Oi uu1.den,xO,xN,xG],.sem (Frame.alt (uu1=tk1/\xO=qF/\xN=qE/\xG=qo/\xE=qp) (Frame.bun [.own xO 1 3 uu1.nb (ints uu1.B),.own xN 1 3 uu1.nf (ints uu1.F),.own xG 1 22 uu1.nc xE,.sem (Frame.rows 3 uu1.nc xE uu1.ln uu1.C)])),.own v1 1 3 p.n (ints (fun _=>0)),.own v2 1 3 p.m (ints (fun _=>0)),.blk g4 [v1,v2,.int Oi (uu1.C 0 0),.int Oi uu1.den]]) ?_ ?_
 ·
  refine zdst [0,1,2,3,4,5,6,7] [0,1,2,3,4,5,6,7] 18 mx_ hS ?_;clear hS;intro w hS
  refine zDrv 0 (xfb 0 fd_63_0) ?_
  obtain⟨hl,hts⟩:=zX.ok Oa
  have b1:=hl.n1
  have b2:=hl.n2
  have b3:=hl.m2
  have b4:=hl.k
  have hdm:=xo.dims
  obtain⟨hp,hco,hlv,_⟩:=xo.fin (.inl Oa)
  have hd1:uu1.nb=p.m:=by rw [hdm.1,hts];rfl
  have hd2:uu1.nf=p.n:=by rw [hdm.2.1,hts];rfl
  have hd3:uu1.vars=p.n:=by rw [hdm.2.2.2,hts];rfl
  have hd4:=hp.c;have hl0:=hp.len (i:=0) Oa Oa
  refine(zDl 1 (fun w hS=>(xlb 0 pl_22 hS)))<|(zDw 2 (xln Zb hL.c.slh))<|(zDw 4 (xfb 1 fd_63_1))<|(zDl 5 (fun w hS=>(xlb 0 ZM hS)))<|(zDw 6 (xln Zk hL.A.row.slh))<|(zDw 8 (xfb 4 fd_107_4))<|(zDl 9 (fun w hS=>(xlb 6 ZM hS)))<|(zDw 10 (xix (kk:=0) Zk zW))<|(zDl 11 (fun w hS=>(xlr (u:=(xE 0)) pl_22 (YG (⟨(hS.rowN 2 rfl),(hS.rowN 3 rfl),(⟨(hS.rowN 4 rfl),fun k k0 k1=>hS.rowIn 5 rfl k0 k1,fun k k0 k1=>hS.roomIn 5 rfl k0 k1⟩:MAt _ qo tk1.nc qp tk1.ln tk1.C)⟩:TAt _ qF qE qo qp tk1) hS 7 rfl).C.row)))<|(zDw 12 (xix (kk:=0) Zb (aK 0 Oa Oa)))<|(zDl 13 (fun w hS=>(xlr (u:= .int Oi (uu1.C 0 0)) pl_3 ((YG (⟨(hS.rowN 2 rfl),(hS.rowN 3 rfl),(⟨(hS.rowN 4 rfl),fun k k0 k1=>hS.rowIn 5 rfl k0 k1,fun k k0 k1=>hS.roomIn 5 rfl k0 k1⟩:MAt _ qo tk1.nc qp tk1.ln tk1.C)⟩:TAt _ qF qE qo qp tk1) hS 7 rfl).C.p 0 Oa Oa))))<|(zDw 14 (xfb 1 fd_107_1))<|(zDl 15 (fun w hS=>(xlb 6 pl_3 hS)))<|U4 (r:= [3,7,17]) ((Xt ?_ (Xt ?_ (Xt ?_ U3))))
  ·
   refine zka (xmk Zb ZJ hS) ?_;rintro v1 w ⟨hS,hv1⟩
   refine⟨⟨fun _=>hS.pk [0,1,2,3,4,5,6,7],hS.pk [0,1,2,3,4,5,6,7]⟩,?_⟩
   refine U4 (r:= [7,17]) ((Xt ?_ (Xt ?_ U3)))
   ·
    refine zka (xmk Zb ZJ hS) ?_;rintro v2 w ⟨hS,hv2⟩
    refine⟨⟨fun _=>hS.pk [0,1,2,3,4,5,6,7],hS.pk [0,1,2,3,4,5,6,7]⟩,?_⟩
    refine zDrv 16 (xany (v:= .agg #[v1,v2,.int Oi (uu1.C 0 0),.int Oi uu1.den]) (hr:=by obtain⟨_,_,_,_,rfl,_⟩:=hv1;obtain⟨_,_,_,_,rfl,_⟩:=hv2;kernel_rfl)) ?_
    refine zda 17 (xal (cs:= [_,_,_,_]) Ua hS) ?_;rintro _ w ⟨g4,rfl,hS⟩
    refine⟨⟨fun _=>hS.pk [0,1,2,3,4,5,6,7],hS.pk [0,1,2,3,4,5,6,7]⟩,?_⟩
    refine zde 18 (xsw 10 ZT hS (hd:=(Za hv1.one (Za hv2.one (Za rfl (Za rfl Zi)))))) ?_;clear hS;rintro w hS
    refine⟨⟨fun h=>absurd h (by decide),hS.pk [0,1,2,3,4,5,6,7]⟩,?_⟩
    refine zdd<|zgj ⟨v1,v2,g4,hv1,hv2,rfl,hS⟩
   refine zka (xal (cs:= [_,_,_,_]) Ua hS) ?_;rintro _ w ⟨g4,rfl,hS⟩
   refine⟨⟨fun _=>hS.pk [0,1,2,3,4,5,6,7],hS.pk [0,1,2,3,4,5,6,7]⟩,?_⟩
   refine zda 7 (xmk Zb ZJ hS) ?_;rintro v2 w ⟨hS,hv2⟩
   refine⟨⟨fun _=>hS.pk [0,1,2,3,4,5,6,7],hS.pk [0,1,2,3,4,5,6,7]⟩,?_⟩
   refine zDrv 16 (xany (v:= .agg #[v1,v2,.int Oi (uu1.C 0 0),.int Oi uu1.den]) (hr:=by obtain⟨_,_,_,_,rfl,_⟩:=hv1;obtain⟨_,_,_,_,rfl,_⟩:=hv2;kernel_rfl)) ?_
   refine zde 18 (xsw 9 ZT hS (hd:=(Za hv1.one (Za hv2.one (Za rfl (Za rfl Zi)))))) ?_;clear hS;rintro w hS
   refine⟨⟨fun h=>absurd h (by decide),hS.pk [0,1,2,3,4,5,6,7]⟩,?_⟩
   refine zdd<|zgj ⟨v1,v2,g4,hv1,hv2,rfl,hS.pk [0,1,2,3,4,5,6,7,8,10,9]⟩
  ·
   refine zka (xmk Zb ZJ hS) ?_;rintro v1 w ⟨hS,hv1⟩
   refine⟨⟨fun _=>hS.pk [0,1,2,3,4,5,6,7],hS.pk [0,1,2,3,4,5,6,7]⟩,?_⟩
   refine U4 (r:= [3,17]) ((Xt ?_ (Xt ?_ U3)))
   ·
    refine zka (xmk Zb ZJ hS) ?_;rintro v2 w ⟨hS,hv2⟩
    refine⟨⟨fun _=>hS.pk [0,1,2,3,4,5,6,7],hS.pk [0,1,2,3,4,5,6,7]⟩,?_⟩
    refine zDrv 16 (xany (v:= .agg #[v2,v1,.int Oi (uu1.C 0 0),.int Oi uu1.den]) (hr:=by obtain⟨_,_,_,_,rfl,_⟩:=hv2;obtain⟨_,_,_,_,rfl,_⟩:=hv1;kernel_rfl)) ?_
    refine zda 17 (xal (cs:= [_,_,_,_]) Ua hS) ?_;rintro _ w ⟨g4,rfl,hS⟩
    refine⟨⟨fun _=>hS.pk [0,1,2,3,4,5,6,7],hS.pk [0,1,2,3,4,5,6,7]⟩,?_⟩
    refine zde 18 (xsw 10 ZT hS (hd:=(Za hv2.one (Za hv1.one (Za rfl (Za rfl Zi)))))) ?_;clear hS;rintro w hS
    refine⟨⟨fun h=>absurd h (by decide),hS.pk [0,1,2,3,4,5,6,7]⟩,?_⟩
    refine zdd<|zgj ⟨v2,v1,g4,hv2,hv1,rfl,hS.pk [0,1,2,3,4,5,6,7,9,8,10]⟩
   refine zka (xal (cs:= [_,_,_,_]) Ua hS) ?_;rintro _ w ⟨g4,rfl,hS⟩
   refine⟨⟨fun _=>hS.pk [0,1,2,3,4,5,6,7],hS.pk [0,1,2,3,4,5,6,7]⟩,?_⟩
   refine zda 3 (xmk Zb ZJ hS) ?_;rintro v2 w ⟨hS,hv2⟩
   refine⟨⟨fun _=>hS.pk [0,1,2,3,4,5,6,7],hS.pk [0,1,2,3,4,5,6,7]⟩,?_⟩
   refine zDrv 16 (xany (v:= .agg #[v2,v1,.int Oi (uu1.C 0 0),.int Oi uu1.den]) (hr:=by obtain⟨_,_,_,_,rfl,_⟩:=hv2;obtain⟨_,_,_,_,rfl,_⟩:=hv1;kernel_rfl)) ?_
   refine zde 18 (xsw 9 ZT hS (hd:=(Za hv2.one (Za hv1.one (Za rfl (Za rfl Zi)))))) ?_;clear hS;rintro w hS
   refine⟨⟨fun h=>absurd h (by decide),hS.pk [0,1,2,3,4,5,6,7]⟩,?_⟩
   refine zdd<|zgj ⟨v2,v1,g4,hv2,hv1,rfl,hS.pk [0,1,2,3,4,5,6,7,10,8,9]⟩
  refine zka (xal (cs:= [_,_,_,_]) Ua hS) ?_;rintro _ w ⟨g4,rfl,hS⟩
  refine⟨⟨fun _=>hS.pk [0,1,2,3,4,5,6,7],hS.pk [0,1,2,3,4,5,6,7]⟩,?_⟩
  refine U4 (r:= [3,7]) ((Xt ?_ (Xt ?_ U3)))
  ·
   refine zka (xmk Zb ZJ hS) ?_;rintro v1 w ⟨hS,hv1⟩
   refine⟨⟨fun _=>hS.pk [0,1,2,3,4,5,6,7],hS.pk [0,1,2,3,4,5,6,7]⟩,?_⟩
   refine zda 7 (xmk Zb ZJ hS) ?_;rintro v2 w ⟨hS,hv2⟩
   refine⟨⟨fun _=>hS.pk [0,1,2,3,4,5,6,7],hS.pk [0,1,2,3,4,5,6,7]⟩,?_⟩
   refine zDrv 16 (xany (v:= .agg #[v1,v2,.int Oi (uu1.C 0 0),.int Oi uu1.den]) (hr:=by obtain⟨_,_,_,_,rfl,_⟩:=hv1;obtain⟨_,_,_,_,rfl,_⟩:=hv2;kernel_rfl)) ?_
   refine zde 18 (xsw 8 ZT hS (hd:=(Za hv1.one (Za hv2.one (Za rfl (Za rfl Zi)))))) ?_;clear hS;rintro w hS
   refine⟨⟨fun h=>absurd h (by decide),hS.pk [0,1,2,3,4,5,6,7]⟩,?_⟩
   refine zdd<|zgj ⟨v1,v2,g4,hv1,hv2,rfl,hS.pk [0,1,2,3,4,5,6,7,9,10,8]⟩
  refine zka (xmk Zb ZJ hS) ?_;rintro v1 w ⟨hS,hv1⟩
  refine⟨⟨fun _=>hS.pk [0,1,2,3,4,5,6,7],hS.pk [0,1,2,3,4,5,6,7]⟩,?_⟩
  refine zda 3 (xmk Zb ZJ hS) ?_;rintro v2 w ⟨hS,hv2⟩
  refine⟨⟨fun _=>hS.pk [0,1,2,3,4,5,6,7],hS.pk [0,1,2,3,4,5,6,7]⟩,?_⟩
  refine zDrv 16 (xany (v:= .agg #[v2,v1,.int Oi (uu1.C 0 0),.int Oi uu1.den]) (hr:=by obtain⟨_,_,_,_,rfl,_⟩:=hv2;obtain⟨_,_,_,_,rfl,_⟩:=hv1;kernel_rfl)) ?_
  refine zde 18 (xsw 8 ZT hS (hd:=(Za hv2.one (Za hv1.one (Za rfl (Za rfl Zi)))))) ?_;clear hS;rintro w hS
  refine⟨⟨fun h=>absurd h (by decide),hS.pk [0,1,2,3,4,5,6,7]⟩,?_⟩
  refine zdd<|zgj ⟨v2,v1,g4,hv2,hv1,rfl,hS.pk [0,1,2,3,4,5,6,7,10,9,8]⟩
 clear hS w;rintro M w ⟨v1,v2,g4,hv1,hv2,rfl,hS⟩
 refine ztn<|zsq<|zsr<|zlv (xfb 2 fd_107_2) ?_
 obtain⟨hl,hts⟩:=zX.ok Oa
 have b1:=hl.n1
 have b2:=hl.n2
 have b3:=hl.m2
 have b4:=hl.k
 have hdm:=xo.dims
 obtain⟨hp,hco,hlv,_⟩:=xo.fin (.inl Oa)
 have hd1:uu1.nb=p.m:=by rw [hdm.1,hts];rfl
 have hd2:uu1.nf=p.n:=by rw [hdm.2.1,hts];rfl
 have hd3:uu1.vars=p.n:=by rw [hdm.2.2.2,hts];rfl
 have hd4:=hp.c;have hl0:=hp.len (i:=0) Oa Oa
 refine(zV (xlb 6 pl_22 hS))<|(zV (xln Zb aM))<|(zP)<|zx6<|zlp (fun mm M w=>∃(i:Int) (fX:Of),mm=((uu1.nb-i).toNat)/\(0<=i)/\(i<=uu1.nb)/\(fX=rdX uu1 i.toNat)/\M= [(2,Or g2),(3,.int Oi 0),(4,Or g3),(6,Or g4),(47,xO),(48,.int Oi uu1.nb),(49,.int Oi i)]/\Sat w0 w [.blk g1 [vc,vA,vb],.blk g2 [Oh,Oh,.int Oi 0,.int Oi 0],.own qF 1 3 tk1.nb (ints tk1.B),.own qE 1 3 tk1.nf (ints tk1.F),.own qo 1 22 tk1.nc qp,.sem (Frame.rows 3 tk1.nc qp tk1.ln tk1.C),.blk g3 [.int Oi uu1.vars,.int Oi uu1.den,xO,xN,xG],.sem (Frame.alt (uu1=tk1/\xO=qF/\xN=qE/\xG=qo/\xE=qp) (Frame.bun [.own xO 1 3 uu1.nb (ints uu1.B),.own xN 1 3 uu1.nf (ints uu1.F),.own xG 1 22 uu1.nc xE,.sem (Frame.rows 3 uu1.nc xE uu1.ln uu1.C)])),.own v1 1 3 p.n (ints fX),.own v2 1 3 p.m (ints (fun _=>0)),.blk g4 [v1,v2,.int Oi (uu1.C 0 0),.int Oi uu1.den]]) ⟨0,(fun _=>0),rfl,Oa,Oa,?_,rfl,hS⟩ ?_
 ·
  rfl
 clear hS w
 rintro mm M w ⟨i,fX,rfl,h0,h1,hfX,rfl,hS⟩
 refine zsr<|(zP)<|zx7<|Zf ?_ ?_<;>intro hc
 ·
  refine zx3<|(zP)<|(zV (xix (kk:=i) Zb aM))<|zlv (xlr (u:= .int Oi (uu1.B i)) pl_3 (YG (⟨(hS.rowN 2 rfl),(hS.rowN 3 rfl),(⟨(hS.rowN 4 rfl),fun k k0 k1=>hS.rowIn 5 rfl k0 k1,fun k k0 k1=>hS.roomIn 5 rfl k0 k1⟩:MAt _ qo tk1.nc qp tk1.ln tk1.C)⟩:TAt _ qF qE qo qp tk1) hS 7 rfl).B) ?_
  have hrg:=hp.rngB (i:=i) h0 Oa
  refine(On)<|zlz<|(zP)<|(zV (xfb 0 fd_107_0))<|(zV (xlb 6 pl_3 hS))<|(zP)<|zlt<|Zf ?_ ?_<;>intro hc
  ·
   refine zdst [0,1,2,3,4,5,6,7,8,9,10] [0,1,2,3,4,5,6,7,9,10] 12 mx_ hS ?_;clear hS;intro w hS
   refine zDrv 0 (xfb 0 fd_54_0) ?_
   have hli:=hp.len (i:=i+1) Oa Oa
   refine(zDl 1 (fun w hS=>(xlb 9 pl_22 hS)))<|(zDw 2 xmv)<|(zDw 3 (xfb 4 fd_107_4))<|(zDl 4 (fun w hS=>(xlb 6 ZM hS)))<|(zDw 5 xmv)<|(zDw 6 (Zh (r:=i+1)))<|(zDw 7 (xix (kk:=i+1) Zk zW))<|(zDl 8 (fun w hS=>(xlr (u:=(xE (i+1))) pl_22 (YG (⟨(hS.rowN 2 rfl),(hS.rowN 3 rfl),(⟨(hS.rowN 4 rfl),fun k k0 k1=>hS.rowIn 5 rfl k0 k1,fun k k0 k1=>hS.roomIn 5 rfl k0 k1⟩:MAt _ qo tk1.nc qp tk1.ln tk1.C)⟩:TAt _ qF qE qo qp tk1) hS 7 rfl).C.row)))<|(zDw 9 (xix (kk:=0) Zb (aK (i+1) Oa Oa)))<|(zDl 10 (fun w hS=>(xlr (u:= .int Oi (uu1.C (i+1) 0)) pl_3 ((YG (⟨(hS.rowN 2 rfl),(hS.rowN 3 rfl),(⟨(hS.rowN 4 rfl),fun k k0 k1=>hS.rowIn 5 rfl k0 k1,fun k k0 k1=>hS.roomIn 5 rfl k0 k1⟩:MAt _ qo tk1.nc qp tk1.ln tk1.C)⟩:TAt _ qF qE qo qp tk1) hS 7 rfl).C.p (i+1) Oa Oa))))<|(zDw 11 (xix (kk:=(uu1.B i)) Zb hv1))<|zde 12 (xso 8 pl_3 hS (ZD _ _ _)) ?_;clear hS;rintro w hS
   refine⟨⟨fun h=>absurd h (by decide),hS.pk [0,1,2,3,4,5,6,7,9,10]⟩,?_⟩
   refine zdd<|zbn<|ztn<|zrg ?_
   refine(zV (Zh (r:=i+1)))<|(zP)<|zln<|zlq ⟨i+1,(upd fX (uu1.B i) (uu1.C (i+1) 0)),rfl,Oa,Oa,?_,rfl,hS⟩
   ·
    rw [ZbK uu1 h0,<-hfX];first|rw [if_pos Oa]|rw [if_neg Oa]
  refine zx4<|(zV (Zh (r:=i+1)))<|(zP)<|zln<|zlq ⟨i+1,fX,rfl,Oa,Oa,?_,rfl,hS⟩
  ·
   rw [ZbK uu1 h0,<-hfX];first|rw [if_pos Oa]|rw [if_neg Oa]
 refine zx18<|(zV (xfb 3 fd_107_3))<|(zV (xlb 6 pl_22 hS))<|(zV (xln Zb aL))<|(zP)<|zx6<|zlp (fun mm M w=>∃(j:Int) (fY:Of),mm=((uu1.nf-j).toNat)/\(0<=j)/\(j<=uu1.nf)/\(fY=rdY uu1 j.toNat)/\M= [(2,Or g2),(3,.int Oi 0),(4,Or g3),(6,Or g4),(72,xN),(73,.int Oi uu1.nf),(74,.int Oi j)]/\Sat w0 w [.blk g1 [vc,vA,vb],.blk g2 [Oh,Oh,.int Oi 0,.int Oi 0],.own qF 1 3 tk1.nb (ints tk1.B),.own qE 1 3 tk1.nf (ints tk1.F),.own qo 1 22 tk1.nc qp,.sem (Frame.rows 3 tk1.nc qp tk1.ln tk1.C),.blk g3 [.int Oi uu1.vars,.int Oi uu1.den,xO,xN,xG],.sem (Frame.alt (uu1=tk1/\xO=qF/\xN=qE/\xG=qo/\xE=qp) (Frame.bun [.own xO 1 3 uu1.nb (ints uu1.B),.own xN 1 3 uu1.nf (ints uu1.F),.own xG 1 22 uu1.nc xE,.sem (Frame.rows 3 uu1.nc xE uu1.ln uu1.C)])),.own v1 1 3 p.n (ints fX),.own v2 1 3 p.m (ints fY),.blk g4 [v1,v2,.int Oi (uu1.C 0 0),.int Oi uu1.den]]) ⟨0,(fun _=>0),rfl,Oa,Oa,?_,rfl,hS⟩ ?_
 ·
  rfl
 clear hS w
 rintro mm M w ⟨j,fY,rfl,j0,j1,hfY,rfl,hS⟩
 refine zsr<|(zP)<|zx7<|Zf ?_ ?_<;>intro hc
 ·
  refine zx3<|(zP)<|(zV (xix (kk:=j) Zb aL))<|zlv (xlr (u:= .int Oi (uu1.F j)) pl_3 (YG (⟨(hS.rowN 2 rfl),(hS.rowN 3 rfl),(⟨(hS.rowN 4 rfl),fun k k0 k1=>hS.rowIn 5 rfl k0 k1,fun k k0 k1=>hS.roomIn 5 rfl k0 k1⟩:MAt _ qo tk1.nc qp tk1.ln tk1.C)⟩:TAt _ qF qE qo qp tk1) hS 7 rfl).F) ?_
  have hrg:=hp.rngF (i:=j) j0 Oa Oa
  refine(On)<|zlz<|(zP)<|(zV (xfb 0 fd_107_0))<|(zV (xlb 6 pl_3 hS))<|(zP)<|zlt<|Zf ?_ ?_<;>intro hc
  ·
   refine zdst [0,1,2,3,4,5,6,7,8,9,10] [0,1,2,3,4,5,6,7,8,10] 15 mx_ hS ?_;clear hS;intro w hS
   refine(zDw 0 (xfb 1 fd_54_1))<|(zDl 1 (fun w hS=>(xlb 9 pl_22 hS)))<|(zDw 2 xmv)<|(zDw 3 (xfb 0 fd_107_0))<|(zDl 4 (fun w hS=>(xlb 6 pl_3 hS)))<|(zDw 5 (Zp (r:=(uu1.F j)-uu1.vars)))<|(zDw 6 (xfb 4 fd_107_4))<|(zDl 7 (fun w hS=>(xlb 6 ZM hS)))<|(zDw 8 (xix (kk:=0) Zk zW))<|(zDl 9 (fun w hS=>(xlr (u:=(xE 0)) pl_22 (YG (⟨(hS.rowN 2 rfl),(hS.rowN 3 rfl),(⟨(hS.rowN 4 rfl),fun k k0 k1=>hS.rowIn 5 rfl k0 k1,fun k k0 k1=>hS.roomIn 5 rfl k0 k1⟩:MAt _ qo tk1.nc qp tk1.ln tk1.C)⟩:TAt _ qF qE qo qp tk1) hS 7 rfl).C.row)))<|(zDw 10 xmv)<|(zDw 11 (Zh (r:=j+1)))<|(zDw 12 (xix (kk:=j+1) Zb (aK 0 Oa Oa)))<|(zDl 13 (fun w hS=>(xlr (u:= .int Oi (uu1.C 0 (j+1))) pl_3 ((YG (⟨(hS.rowN 2 rfl),(hS.rowN 3 rfl),(⟨(hS.rowN 4 rfl),fun k k0 k1=>hS.rowIn 5 rfl k0 k1,fun k k0 k1=>hS.roomIn 5 rfl k0 k1⟩:MAt _ qo tk1.nc qp tk1.ln tk1.C)⟩:TAt _ qF qE qo qp tk1) hS 7 rfl).C.p 0 Oa Oa))))<|zDrv 14 (xix (kk:=(uu1.F j)-uu1.vars) Zb hv2) ?_
   refine zde 15 (xso 9 pl_3 hS (ZD _ _ _)) ?_;clear hS;rintro w hS
   refine⟨⟨fun h=>absurd h (by decide),hS.pk [0,1,2,3,4,5,6,7,8,10]⟩,?_⟩
   refine zdd<|zbn<|ztn<|zrg ?_
   refine(zV (Zh (r:=j+1)))<|(zP)<|zln<|zlq ⟨j+1,(upd fY ((uu1.F j)-uu1.vars) (uu1.C 0 (j+1))),rfl,Oa,Oa,?_,rfl,hS⟩
   ·
    rw [ZbJ uu1 j0,<-hfY];first|rw [if_pos Oa]|rw [if_neg Oa]
  refine zx4<|(zV (Zh (r:=j+1)))<|(zP)<|zln<|zlq ⟨j+1,fY,rfl,Oa,Oa,?_,rfl,hS⟩
  ·
   rw [ZbJ uu1 j0,<-hfY];first|rw [if_pos Oa]|rw [if_neg Oa]
 refine zx8<|(zV (xls 10 ZT hS))<|zle (xsw 1 ZT hS (hd:=(Za hv1.one (Za hv2.one (Za rfl (Za rfl Zi)))))) ?_;clear hS;rintro w hS
 refine(zP)<|zx1<|Ym 1 ZT hS ⟨_,rfl,?_⟩
 obtain rfl:i=uu1.nb:=Oa
 obtain rfl:j=uu1.nf:=Oa
 have he0:zJ=0:=Oa
 rw [hts,he0] at xo
 rw [<-hd2] at hv1;rw [<-hd1] at hv2;replace hS:=hS.pk [8,9];rw [<-hd2,<-hd1] at hS;subst hfX;subst hfY
 exact⟨_,_,XW uu1,0,rfl,.inr ⟨hl,uu1,xo,.inr ⟨rfl,rfl⟩⟩,hv1,hv2,hS⟩
variable {i:Int} {f:Of} {vA vD:Value}
theorem ZhJ:Zd Om 156=true:=Oc
theorem ZmU:Zd Om 229=true:=Oc
theorem XP:Zd Om 26=true:=Oc
theorem XO:Zd Om 277=true:=Oc
theorem Zo9:Zd Om 8=true:=Oc
theorem fd_24_0:Zv Om 24 0=some 0:=Oc
theorem fd_24_1:Zv Om 24 1=some 1:=Oc
theorem fd_24_2:Zv Om 24 2=some 2:=Oc
theorem fd_24_3:Zv Om 24 3=some 3:=Oc
theorem fd_27_0:Zv Om 27 0=some 0:=Oc
theorem fd_27_1:Zv Om 27 1=some 1:=Oc
theorem fd_27_2:Zv Om 27 2=some 2:=Oc
theorem fd_27_3:Zv Om 27 3=some 3:=Oc
theorem ZdT:Zx Om 24=some 4:=Oc
theorem st_27:Zx Om 27=some 4:=Oc
theorem Ya{vL:Value}{p:Prob}(w0:World)(h:PAt w0 vL vD p):
   Calls Om 26 [.agg #[vL,vD,.int Oi p.stock,.int Oi p.kerf]].toArray w0 fun e w=>∃v,e= .returned v/\v=B p.Ok/\Sat w0 w []:=by
 have hm:=h.L.slh.n0;have hm1:=h.L.slh.n1;have hd:=h.D.slh.n0;have hs:=h.is;have hk:=h.ik
 refine zenG Tryz.func26 Tryz.ntmps26 fun w hS=> ?_
 refine zsr<|zla (xbx (cs:= [_,_,_,_]) hS) ?_;rintro _ w ⟨g1,rfl,hS⟩
 refine(zP)<|zx5<|(zV (xfb 0 fd_27_0))<|(zV (xlb 0 pl_22 hS))<|(zV (xln Zb h.L.slh))<|(On)<|zlb 9 ?_ ?_<;>intro hc;rotate_left
 refine(zV (xfb 0 fd_27_0))<|(zV (xlb 0 pl_22 hS))<|(zV (xln Zb h.L.slh))<|(Oo)<|zlb 15 ?_ ?_<;>intro hc;rotate_left
 refine(zV (xfb 1 fd_27_1))<|(zV (xlb 0 pl_22 hS))<|(zV (xln Zb h.D.slh))<|(zV (xfb 0 fd_27_0))<|(zV (xlb 0 pl_22 hS))<|(zV (xln Zb h.L.slh))<|(Oo)<|zlb 24 ?_ ?_<;>intro hc;rotate_left
 refine(zV (xfb 2 fd_27_2))<|(zV (xlb 0 pl_3 hS))<|(Oo)<|zlb 29 ?_ ?_<;>intro hc;rotate_left
 refine(zV (xfb 2 fd_27_2))<|(zV (xlb 0 pl_3 hS))<|(Oo)<|zlb 34 ?_ ?_<;>intro hc;rotate_left
 refine(zV (xfb 3 fd_27_3))<|(zV (xlb 0 pl_3 hS))<|(Oo)<|zlb 39 ?_ ?_<;>intro hc;rotate_left
 refine(zV (xfb 3 fd_27_3))<|(zV (xlb 0 pl_3 hS))<|(On)<|zlt<|Zf ?_ ?_<;>intro hc
 ·
  refine zsr<|(zP)<|zx14<|Oj ?_
  first
  |exact⟨Zj (by intro hk;have h1:=hk.m1;have h2:=hk.m2;have h3:=hk.d;have h4:=hk.s1;have h5:=hk.s2;have h6:=hk.k1;have h7:=hk.k2;omega),hS.nl⟩
  |exact⟨Zj (by intro hk;have:=hk.all i Oa Oa;unfold Prob.each at this;omega),hS.nl⟩
 refine zsk<|ztn<|zsq<|zsr<|(zV (xfb 0 fd_27_0))<|(zV (xlb 0 pl_22 hS))<|(zV (xln Zb h.L.slh))<|(zP)<|zx6<|zlp (fun mm M w=>∃(i:Int),mm=((p.m-i).toNat)/\(0<=i)/\(i<=p.m)/\(∀k,0<=k->k<i->p.each k)/\M= [(1,Or g1),(45,vL),(46,.int Oi p.m),(47,.int Oi i)]/\Sat w0 w [.blk g1 [vL,vD,.int Oi p.stock,.int Oi p.kerf]]) ⟨0,rfl,Oa,Oa,?_,rfl,hS⟩ ?_
 ·
  intro k h0 h1;omega
 clear hS w
 rintro mm M w ⟨i,rfl,h0,h1,qa,rfl,hS⟩
 refine zsr<|(zP)<|zx7<|Zf ?_ ?_<;>intro hc
 ·
  refine zx3<|(zP)<|(zV (xix (kk:=i) Zb h.L.slh))<|zlv (xlr (u:= .int Oi (p.L i)) pl_3 (h.L.below hS.below)) ?_
  have hbv:=h.iL i
  refine(On)<|zlz<|(Oo)<|zlb 54 ?_ ?_<;>intro hc;rotate_left
  refine(zP)<|(zV (xfb 2 fd_27_2))<|(zV (xlb 0 pl_3 hS))<|(Oo)<|zlb 60 ?_ ?_<;>intro hc;rotate_left
  refine(Oo)<|zlb 63 ?_ ?_<;>intro hc
  ·
   refine(zP)<|(zV (xfb 0 fd_27_0))<|(zV (xlb 0 pl_22 hS))<|(zP)<|(zV (Zp (r:=i-1)))<|(zV (xix (kk:=i-1) Zb h.L.slh))<|zlv (xlr (u:= .int Oi (p.L (i-1))) pl_3 (h.L.below hS.below)) ?_
   have hbv:=h.iL (i-1)
   refine zs4 ?_
   refine zlb 74 ?_ ?_<;>intro hc;rotate_left
   refine(zV (xfb 1 fd_27_1))<|(zV (xlb 0 pl_22 hS))<|(zP)<|(zV (xix (kk:=i) Zb h.D.slh))<|zlv (xlr (u:= .int Oi (p.D i)) pl_3 (h.D.below hS.below)) ?_
   have hbv:=h.iD i
   refine(Oo)<|zlb 82 ?_ ?_<;>intro hc;rotate_left
   refine(zV (xfb 1 fd_27_1))<|(zV (xlb 0 pl_22 hS))<|(zP)<|(zV (xix (kk:=i) Zb h.D.slh))<|zlv (xlr (u:= .int Oi (p.D i)) pl_3 (h.D.below hS.below)) ?_
   have hbv:=h.iD i
   refine(On)<|zlt<|Zf ?_ ?_<;>intro hc
   ·
    refine zsr<|(zP)<|zx2<|Oj ?_
    first
    |exact⟨Zj (by intro hk;have h1:=hk.m1;have h2:=hk.m2;have h3:=hk.d;have h4:=hk.s1;have h5:=hk.s2;have h6:=hk.k1;have h7:=hk.k2;omega),hS.nl⟩
    |exact⟨Zj (by intro hk;have:=hk.all i Oa Oa;unfold Prob.each at this;omega),hS.nl⟩
   refine zx4<|(zV (Zh (r:=i+1)))<|(zP)<|zln<|zlq ⟨i+1,rfl,Oa,Oa,?_,rfl,hS⟩
   ·
    intro k h0' h1';rcases Int.lt_or_eq_of_le (show k<=i by omega) with hk|hk;exact qa k h0' hk;rw [hk];unfold Prob.each;omega
   all_goals
    refine zOps ?_
    refine zlt<|zct<|zsr ?_
    refine zOps ?_
    refine zx2<|Oj ?_
    first
    |exact⟨Zj (by intro hk;have h1:=hk.m1;have h2:=hk.m2;have h3:=hk.d;have h4:=hk.s1;have h5:=hk.s2;have h6:=hk.k1;have h7:=hk.k2;omega),hS.nl⟩
    |exact⟨Zj (by intro hk;have:=hk.all i Oa Oa;unfold Prob.each at this;omega),hS.nl⟩
  iterate 8 refine zlo ?_
  refine(Oo)<|(zV (xfb 1 fd_27_1))<|(zV (xlb 0 pl_22 hS))<|(zP)<|(zV (xix (kk:=i) Zb h.D.slh))<|zlv (xlr (u:= .int Oi (p.D i)) pl_3 (h.D.below hS.below)) ?_
  have hbv:=h.iD i
  refine(Oo)<|zlb 82 ?_ ?_<;>intro hc;rotate_left
  refine(zV (xfb 1 fd_27_1))<|(zV (xlb 0 pl_22 hS))<|(zP)<|(zV (xix (kk:=i) Zb h.D.slh))<|zlv (xlr (u:= .int Oi (p.D i)) pl_3 (h.D.below hS.below)) ?_
  have hbv:=h.iD i
  refine(On)<|zlt<|Zf ?_ ?_<;>intro hc
  ·
   refine zsr<|(zP)<|zx2<|Oj ?_
   first
   |exact⟨Zj (by intro hk;have h1:=hk.m1;have h2:=hk.m2;have h3:=hk.d;have h4:=hk.s1;have h5:=hk.s2;have h6:=hk.k1;have h7:=hk.k2;omega),hS.nl⟩
   |exact⟨Zj (by intro hk;have:=hk.all i Oa Oa;unfold Prob.each at this;omega),hS.nl⟩
  refine zx4<|(zV (Zh (r:=i+1)))<|(zP)<|zln<|zlq ⟨i+1,rfl,Oa,Oa,?_,rfl,hS⟩
  ·
   intro k h0' h1';rcases Int.lt_or_eq_of_le (show k<=i by omega) with hk|hk;exact qa k h0' hk;rw [hk];unfold Prob.each;omega
  all_goals
   refine zOps ?_
   refine zlt<|zct<|zsr ?_
   refine zOps ?_
   refine zx2<|Oj ?_
   first
   |exact⟨Zj (by intro hk;have h1:=hk.m1;have h2:=hk.m2;have h3:=hk.d;have h4:=hk.s1;have h5:=hk.s2;have h6:=hk.k1;have h7:=hk.k2;omega),hS.nl⟩
   |exact⟨Zj (by intro hk;have:=hk.all i Oa Oa;unfold Prob.each at this;omega),hS.nl⟩
 refine zx8<|(zP)<|zx1<|Oj ?_
 exact⟨Yn ⟨by omega,Oa,Oa,Oa,Oa,Oa,Oa,fun k h0 h1=>qa k h0 Oa⟩,hS.nl⟩
 all_goals
  refine zOps ?_
  refine zlt<|zct<|zsr ?_
  refine zOps ?_
  refine zx14<|Oj ?_
  first
  |exact⟨Zj (by intro hk;have h1:=hk.m1;have h2:=hk.m2;have h3:=hk.d;have h4:=hk.s1;have h5:=hk.s2;have h6:=hk.k1;have h7:=hk.k2;omega),hS.nl⟩
  |exact⟨Zj (by intro hk;have:=hk.all i Oa Oa;unfold Prob.each at this;omega),hS.nl⟩
theorem Rj{vL:Value}{p:Prob}(w0:World)(h:PAt w0 vL vD p):
   Calls Om 8 [.agg #[vL,vD,.int Oi p.stock,.int Oi p.kerf]].toArray w0 fun e w=>∃v,e= .returned v/\v=B p.Ok/\Sat w0 w []:=by
 have hm:=h.L.slh.n0;have hm1:=h.L.slh.n1;have hd:=h.D.slh.n0;have hs:=h.is;have hk:=h.ik
 refine zenG Tryz.func8 Tryz.ntmps8 fun w hS=> ?_
 refine zsr<|zla (xbx (cs:= [_,_,_,_]) hS) ?_;rintro _ w ⟨g1,rfl,hS⟩
 refine(zP)<|zlz<|(zV (xfb 0 fd_24_0))<|(zV (xlb 0 pl_22 hS))<|(zV (xln Zb h.L.slh))<|(zP)<|zx5<|(Oo)<|zlb 10 ?_ ?_<;>intro hc;rotate_left
 refine zs4 ?_
 refine zlb 14 ?_ ?_<;>intro hc;rotate_left
 refine(zV (xfb 1 fd_24_1))<|(zV (xlb 0 pl_22 hS))<|(zV (xln Zb h.D.slh))<|zs4 ?_
 refine zlb 21 ?_ ?_<;>intro hc;rotate_left
 refine(zV (xfb 2 fd_24_2))<|(zV (xlb 0 pl_3 hS))<|(Oo)<|zlb 26 ?_ ?_<;>intro hc;rotate_left
 refine(zV (xfb 2 fd_24_2))<|(zV (xlb 0 pl_3 hS))<|(Oo)<|zlb 31 ?_ ?_<;>intro hc;rotate_left
 refine(zV (xfb 3 fd_24_3))<|(zV (xlb 0 pl_3 hS))<|(Oo)<|zlb 36 ?_ ?_<;>intro hc;rotate_left
 refine(zV (xfb 3 fd_24_3))<|(zV (xlb 0 pl_3 hS))<|(On)<|zlt<|Zf ?_ ?_<;>intro hc
 ·
  refine zsr<|(zP)<|zx14<|Oj ?_
  first
  |exact⟨Zj (by intro hk;have h1:=hk.m1;have h2:=hk.m2;have h3:=hk.d;have h4:=hk.s1;have h5:=hk.s2;have h6:=hk.k1;have h7:=hk.k2;omega),hS.nl⟩
  |exact⟨Zj (by intro hk;have:=hk.all i Oa Oa;unfold Prob.each at this;omega),hS.nl⟩
 refine zsk<|ztn<|zsq<|zsr<|(zP)<|zx6<|zlp (fun mm M w=>∃(i:Int),mm=((p.m-i).toNat)/\(0<=i)/\(i<=p.m)/\(∀k,0<=k->k<i->p.each k)/\M= [(1,Or g1),(3,.int Oi p.m),(4,.int Oi i)]/\Sat w0 w [.blk g1 [vL,vD,.int Oi p.stock,.int Oi p.kerf]]) ⟨0,rfl,Oa,Oa,?_,rfl,hS⟩ ?_
 ·
  intro k h0 h1;omega
 clear hS w
 rintro mm M w ⟨i,rfl,h0,h1,qa,rfl,hS⟩
 refine zsq<|zsr<|(Oo)<|zlt<|Zf ?_ ?_<;>intro hc
 ·
  refine zsk<|ztn<|zsq<|zbk<|zsq<|zdst [0] [0] 1000 mx_ hS ?_;clear hS;intro w hS
  refine(zDw 0 (xfb 0 fd_24_0))<|(zDl 1 (fun w hS=>(xlb 0 pl_22 hS)))<|(zDw 2 xmv)<|(zDw 3 (xix (kk:=i) Zb h.L.slh))<|YF 4 (fun w hS=>(xlr (u:= .int Oi (p.L i)) pl_3 (h.L.below hS.below))) ?_
  have hbv:=h.iL i
  refine(zDw 5 Yc)<|(zDw 6 xmv)<|zdb 52 ?_ ?_<;>intro hc
  ·
   refine(zDo 7)<|(zDo 8)<|(zDo 9)<|(zDo 10)<|(zDo 11)<|(zDo 12)<|(zDo 13)<|(zDo 14)<|(zDw 15 xpt)<|(zDw 16 xmv)<|(zDo 17)<|(zDo 18)<|(zDo 19)<|(zDo 20)<|Zbj 21 ?_
   refine(zDo 22)<|(zDo 23)<|(zDo 24)<|(zDo 25)<|(zDo 26)<|(zDo 27)<|(zDo 28)<|(zDo 29)<|(zDo 30)<|(zDo 31)<|(zDo 32)<|(zDw 33 xpt)<|(zDw 34 xmv)<|(zDo 35)<|Zbj 36 ?_
   refine(zDo 37)<|(zDo 38)<|(zDo 39)<|(zDo 40)<|(zDw 41 xpt)<|(zDw 42 xmv)<|(zDo 43)<|(zDo 44)<|(zDo 45)<|(zDo 46)<|(zDo 47)<|(zDo 48)<|(zDw 49 xpt)<|zdd<|ztn<|zct<|zsr ?_
   refine(zP)<|zx2<|Oj ?_
   first
   |exact⟨Zj (by intro hk;have h1:=hk.m1;have h2:=hk.m2;have h3:=hk.d;have h4:=hk.s1;have h5:=hk.s2;have h6:=hk.k1;have h7:=hk.k2;omega),hS.nl⟩
   |exact⟨Zj (by intro hk;have:=hk.all i Oa Oa;unfold Prob.each at this;omega),hS.nl⟩
  refine(zDw 7 (xfb 0 fd_24_0))<|(zDl 8 (fun w hS=>(xlb 0 pl_22 hS)))<|(zDw 9 xmv)<|(zDw 10 (xix (kk:=i) Zb h.L.slh))<|YF 11 (fun w hS=>(xlr (u:= .int Oi (p.L i)) pl_3 (h.L.below hS.below))) ?_
  have hbv:=h.iL i
  refine(zDw 12 (xfb 2 fd_24_2))<|(zDl 13 (fun w hS=>(xlb 0 pl_3 hS)))<|(zDw 14 Yw)<|(zDw 15 xpf)<|(zDw 16 xmv)<|zdb 62 ?_ ?_<;>intro hc
  ·
   refine(zDo 17)<|(zDo 18)<|(zDo 19)<|(zDo 20)<|(zDo 21)<|(zDo 22)<|(zDo 23)<|(zDo 24)<|(zDo 25)<|(zDo 26)<|(zDo 27)<|(zDo 28)<|(zDo 29)<|(zDo 30)<|Zbj 31 ?_
   refine(zDo 32)<|(zDw 33 xpt)<|(zDw 34 xmv)<|(zDo 35)<|(zDo 36)<|(zDo 37)<|(zDo 38)<|(zDo 39)<|(zDo 40)<|(zDw 41 xpt)<|(zDw 42 xmv)<|(zDo 43)<|(zDo 44)<|(zDo 45)<|Zbj 46 ?_
   refine(zDo 47)<|(zDo 48)<|(zDw 49 xpt)<|zdd<|ztn<|zct<|zsr ?_
   refine(zP)<|zx2<|Oj ?_
   first
   |exact⟨Zj (by intro hk;have h1:=hk.m1;have h2:=hk.m2;have h3:=hk.d;have h4:=hk.s1;have h5:=hk.s2;have h6:=hk.k1;have h7:=hk.k2;omega),hS.nl⟩
   |exact⟨Zj (by intro hk;have:=hk.all i Oa Oa;unfold Prob.each at this;omega),hS.nl⟩
  refine(zDw 17 xmv)<|(zDw 18 Yw)<|(zDw 19 xmv)<|zdb 65 ?_ ?_<;>intro hc
  ·
   refine(zDw 20 (xfb 0 fd_24_0))<|(zDl 21 (fun w hS=>(xlb 0 pl_22 hS)))<|(zDw 22 xmv)<|(zDw 23 (xix (kk:=i) Zb h.L.slh))<|YF 24 (fun w hS=>(xlr (u:= .int Oi (p.L i)) pl_3 (h.L.below hS.below))) ?_
   have hbv:=h.iL i
   refine(zDw 25 (xfb 0 fd_24_0))<|(zDl 26 (fun w hS=>(xlb 0 pl_22 hS)))<|(zDw 27 xmv)<|(zDw 28 (Zp (r:=i-1)))<|(zDw 29 (xix (kk:=i-1) Zb h.L.slh))<|YF 30 (fun w hS=>(xlr (u:= .int Oi (p.L (i-1))) pl_3 (h.L.below hS.below))) ?_
   have hbv:=h.iL (i-1)
   refine(zDw 31 XE)<|(zDw 32 xpt)<|(zDw 33 xpf)<|(zDw 34 xmv)<|zdb 80 ?_ ?_<;>intro hc
   ·
    refine(zDo 35)<|(zDo 36)<|(zDo 37)<|(zDo 38)<|(zDo 39)<|(zDo 40)<|(zDw 41 xpt)<|(zDw 42 xmv)<|(zDo 43)<|(zDo 44)<|(zDo 45)<|(zDo 46)<|(zDo 47)<|(zDo 48)<|zDrv 49 xpt ?_
    refine zdd<|ztn<|zct<|zsr ?_
    refine(zP)<|zx2<|Oj ?_
    first
    |exact⟨Zj (by intro hk;have h1:=hk.m1;have h2:=hk.m2;have h3:=hk.d;have h4:=hk.s1;have h5:=hk.s2;have h6:=hk.k1;have h7:=hk.k2;omega),hS.nl⟩
    |exact⟨Zj (by intro hk;have:=hk.all i Oa Oa;unfold Prob.each at this;omega),hS.nl⟩
   refine(zDw 35 (xfb 1 fd_24_1))<|(zDl 36 (fun w hS=>(xlb 0 pl_22 hS)))<|(zDw 37 xmv)<|(zDw 38 (xix (kk:=i) Zb h.D.slh))<|YF 39 (fun w hS=>(xlr (u:= .int Oi (p.D i)) pl_3 (h.D.below hS.below))) ?_
   have hbv:=h.iD i
   refine(zDw 40 Yc)<|(zDw 41 xpf)<|(zDw 42 xmv)<|zdb 88 ?_ ?_<;>intro hc
   ·
    refine(zDo 43)<|(zDo 44)<|(zDo 45)<|(zDo 46)<|(zDo 47)<|(zDo 48)<|(zDw 49 xpt)<|zdd<|ztn<|zct<|zsr ?_
    refine(zP)<|zx2<|Oj ?_
    first
    |exact⟨Zj (by intro hk;have h1:=hk.m1;have h2:=hk.m2;have h3:=hk.d;have h4:=hk.s1;have h5:=hk.s2;have h6:=hk.k1;have h7:=hk.k2;omega),hS.nl⟩
    |exact⟨Zj (by intro hk;have:=hk.all i Oa Oa;unfold Prob.each at this;omega),hS.nl⟩
   refine(zDw 43 (xfb 1 fd_24_1))<|(zDl 44 (fun w hS=>(xlb 0 pl_22 hS)))<|(zDw 45 xmv)<|(zDw 46 (xix (kk:=i) Zb h.D.slh))<|YF 47 (fun w hS=>(xlr (u:= .int Oi (p.D i)) pl_3 (h.D.below hS.below))) ?_
   have hbv:=h.iD i
   refine(zDw 48 Yw)<|(zDw 49 xpf)<|zdd<|ztn ?_
   refine Zf ?_ ?_<;>intro hc
   ·
    refine zsr<|(zP)<|zx2<|Oj ?_
    first
    |exact⟨Zj (by intro hk;have h1:=hk.m1;have h2:=hk.m2;have h3:=hk.d;have h4:=hk.s1;have h5:=hk.s2;have h6:=hk.k1;have h7:=hk.k2;omega),hS.nl⟩
    |exact⟨Zj (by intro hk;have:=hk.all i Oa Oa;unfold Prob.each at this;omega),hS.nl⟩
   refine zx4<|(zP)<|(zV (Zh (r:=i+1)))<|(zP)<|zln<|zlq ⟨i+1,rfl,Oa,Oa,?_,rfl,hS⟩
   ·
    intro k h0' h1';rcases Int.lt_or_eq_of_le (show k<=i by omega) with hk|hk;exact qa k h0' hk;rw [hk];unfold Prob.each;omega
  refine(zDo 20)<|(zDo 21)<|(zDo 22)<|(zDo 23)<|(zDo 24)<|(zDo 25)<|(zDo 26)<|(zDo 27)<|(zDo 28)<|(zDo 29)<|(zDo 30)<|(zDo 31)<|(zDw 32 xpf)<|(zDw 33 xpf)<|zDrv 34 xmv ?_
  refine(zDw 35 (xfb 1 fd_24_1))<|(zDl 36 (fun w hS=>(xlb 0 pl_22 hS)))<|(zDw 37 xmv)<|(zDw 38 (xix (kk:=i) Zb h.D.slh))<|YF 39 (fun w hS=>(xlr (u:= .int Oi (p.D i)) pl_3 (h.D.below hS.below))) ?_
  have hbv:=h.iD i
  refine(zDw 40 Yc)<|(zDw 41 xpf)<|(zDw 42 xmv)<|zdb 88 ?_ ?_<;>intro hc
  ·
   refine(zDo 43)<|(zDo 44)<|(zDo 45)<|(zDo 46)<|(zDo 47)<|(zDo 48)<|(zDw 49 xpt)<|zdd<|ztn<|zct<|zsr ?_
   refine(zP)<|zx2<|Oj ?_
   first
   |exact⟨Zj (by intro hk;have h1:=hk.m1;have h2:=hk.m2;have h3:=hk.d;have h4:=hk.s1;have h5:=hk.s2;have h6:=hk.k1;have h7:=hk.k2;omega),hS.nl⟩
   |exact⟨Zj (by intro hk;have:=hk.all i Oa Oa;unfold Prob.each at this;omega),hS.nl⟩
  refine(zDw 43 (xfb 1 fd_24_1))<|(zDl 44 (fun w hS=>(xlb 0 pl_22 hS)))<|(zDw 45 xmv)<|(zDw 46 (xix (kk:=i) Zb h.D.slh))<|YF 47 (fun w hS=>(xlr (u:= .int Oi (p.D i)) pl_3 (h.D.below hS.below))) ?_
  have hbv:=h.iD i
  refine(zDw 48 Yw)<|(zDw 49 xpf)<|zdd<|ztn ?_
  refine Zf ?_ ?_<;>intro hc
  ·
   refine zsr<|(zP)<|zx2<|Oj ?_
   first
   |exact⟨Zj (by intro hk;have h1:=hk.m1;have h2:=hk.m2;have h3:=hk.d;have h4:=hk.s1;have h5:=hk.s2;have h6:=hk.k1;have h7:=hk.k2;omega),hS.nl⟩
   |exact⟨Zj (by intro hk;have:=hk.all i Oa Oa;unfold Prob.each at this;omega),hS.nl⟩
  refine zx4<|(zP)<|(zV (Zh (r:=i+1)))<|(zP)<|zln<|zlq ⟨i+1,rfl,Oa,Oa,?_,rfl,hS⟩
  ·
   intro k h0' h1';rcases Int.lt_or_eq_of_le (show k<=i by omega) with hk|hk;exact qa k h0' hk;rw [hk];unfold Prob.each;omega
 refine zx8<|(zP)<|zx1<|Oj ?_
 exact⟨Yn ⟨by omega,Oa,Oa,Oa,Oa,Oa,Oa,fun k h0 h1=>qa k h0 Oa⟩,hS.nl⟩
 all_goals
  refine zOps ?_
  refine zlt<|zct<|zsr ?_
  refine zOps ?_
  refine zx14<|Oj ?_
  first
  |exact⟨Zj (by intro hk;have h1:=hk.m1;have h2:=hk.m2;have h3:=hk.d;have h4:=hk.s1;have h5:=hk.s2;have h6:=hk.k1;have h7:=hk.k2;omega),hS.nl⟩
  |exact⟨Zj (by intro hk;have:=hk.all i Oa Oa;unfold Prob.each at this;omega),hS.nl⟩
theorem Zkr{vL:Value}{p:Prob}(w0:World)(h:PAt w0 vL vD p):
   Calls Om 7 [.agg #[vL,vD,.int Oi p.stock,.int Oi p.kerf]].toArray w0 fun e w=>∃v,e= .returned v/\v=B (ZiM p)/\Sat w0 w []:=by
 obtain⟨hm,hm1,hd,hd1,hs,hk⟩:=h.Oq
 refine zenG Tryz.func7 Tryz.ntmps7 fun w hS=> ?_
 refine zsr<|zla (xbx (cs:= [_,_,_,_]) hS) ?_;rintro _ w ⟨g1,rfl,hS⟩
 refine(zP)<|zx5<|(zV (xfb 0 fd_24_0))<|(zV (xlb 0 pl_22 hS))<|(zV (xln Zb h.L.slh))<|(On)<|zlb 8 ?_ ?_<;>intro hc
 ·
  iterate 4 refine zlo ?_
  refine(zP)<|zlt<|zct<|zsr ?_
  refine(zP)<|zx14<|Oj ?_
  exact⟨Zj (by rintro⟨h2,h3,h4⟩;first|omega|(have h5:=(h4 (Od ‹¬¬(p.Ok)›)).1 i Oa Oa;omega)|(have h5:=(h4 (Od ‹¬¬(p.Ok)›)).2;omega)),hS.nl⟩
 refine(zV (xfb 1 fd_24_1))<|(zV (xlb 0 pl_22 hS))<|(zV (xln Zb h.D.slh))<|(On)<|zlt<|Zf ?_ ?_<;>intro hc
 ·
  refine zsr<|(zP)<|zx14<|Oj ?_
  exact⟨Zj (by rintro⟨h2,h3,h4⟩;first|omega|(have h5:=(h4 (Od ‹¬¬(p.Ok)›)).1 i Oa Oa;omega)|(have h5:=(h4 (Od ‹¬¬(p.Ok)›)).2;omega)),hS.nl⟩
 refine zsk<|ztn<|zsq<|zsr<|(zV (xls 0 ZdT hS))<|zlc (xc0 Zo9) (Rj (p:=p) w (h.below hS.below)) ?_;rintro _ w ⟨rfl,hS'⟩
 replace hS:=hS.cmp hS';clear hS'
 refine(zP)<|zlt<|Zf ?_ ?_<;>intro hc
 ·
  refine zsr<|(zP)<|zx14<|Oj ?_
  exact⟨Yn (by first|exact⟨by omega,Oa,fun hk=>absurd hk ‹¬p.Ok›⟩),hS.nl⟩
 refine zsk<|ztn<|zsq<|zsr<|(zP)<|zx6<|zlp (fun mm M w=>∃(i:Int),mm=((p.d-i).toNat)/\(0<=i)/\(i<=p.d)/\(∀k,0<=k->k<i->p.D k<=30)/\M= [(1,Or g1),(3,.int Oi i)]/\Sat w0 w [.blk g1 [vL,vD,.int Oi p.stock,.int Oi p.kerf]]) ⟨0,rfl,Oa,Oa,?_,rfl,hS⟩ ?_
 ·
  intro k h0 h1;omega
 clear hS w
 rintro mm M w ⟨i,rfl,h0,h1,qa,rfl,hS⟩
 refine zsq<|zsr<|(zP)<|(zV (xfb 1 fd_24_1))<|(zV (xlb 0 pl_22 hS))<|(zV (xln Zb h.D.slh))<|(zP)<|zlt<|Zf ?_ ?_<;>intro hc
 ·
  refine zx3<|(zV (xfb 1 fd_24_1))<|(zV (xlb 0 pl_22 hS))<|(zP)<|(zV (xix (kk:=i) Zb h.D.slh))<|zlv (xlr (u:= .int Oi (p.D i)) pl_3 (h.D.below hS.below)) ?_
  have hbv:=h.iD i
  refine(zP)<|zlt<|Zf ?_ ?_<;>intro hc
  ·
   refine zsr<|(zP)<|zx2<|Oj ?_
   exact⟨Zj (by rintro⟨h2,h3,h4⟩;first|omega|(have h5:=(h4 (Od ‹¬¬(p.Ok)›)).1 i Oa Oa;omega)|(have h5:=(h4 (Od ‹¬¬(p.Ok)›)).2;omega)),hS.nl⟩
  refine zx4<|(zP)<|(zV (Zh (r:=i+1)))<|(zP)<|zln<|zlq ⟨i+1,rfl,Oa,Oa,?_,rfl,hS⟩
  ·
   intro k h0' h1';rcases Int.lt_or_eq_of_le (show k<=i by omega) with hk|hk;exact qa k h0' hk;rw [hk];omega
 refine zxt<|ztx<|ztx<|zbh<|ztn<|zsq<|zdst [0] [0] 1000 mx_ hS ?_;clear hS;intro w hS
 refine zDrv 0 (xfb 0 fd_24_0) ?_
 have hp:=(Od ‹¬¬(p.Ok)›);have hm2:=hp.m1;have hL:=(hp.all (p.m-1) Oa Oa);unfold Prob.each at hL;have hs2:=hp.s2
 refine(zDl 1 (fun w hS=>(xlb 0 pl_22 hS)))<|(zDw 2 (xln Zb h.L.slh))<|(zDw 3 Xu)<|(zDw 4 xmv)<|zdb 34 ?_ ?_<;>intro hc
 ·
  refine(zDw 5 (xfb 2 fd_24_2))<|(zDl 6 (fun w hS=>(xlb 0 pl_3 hS)))<|(zDw 7 (xfb 0 fd_24_0))<|(zDl 8 (fun w hS=>(xlb 0 pl_22 hS)))<|(zDw 9 (xfb 0 fd_24_0))<|(zDl 10 (fun w hS=>(xlb 0 pl_22 hS)))<|(zDw 11 (xln Zb h.L.slh))<|(zDw 12 (Zp (r:=p.m-1)))<|(zDw 13 (xix (kk:=p.m-1) Zb h.L.slh))<|YF 14 (fun w hS=>(xlr (u:= .int Oi (p.L (p.m-1))) pl_3 (h.L.below hS.below))) ?_
  have hbv:=h.iL (p.m-1)
  refine(zDw 15 (Yi (r:=12*p.L (p.m-1))))<|(zDw 16 Xu)<|(zDw 17 xpt)<|(zDw 18 xas)<|zdd<|ztn<|zrt<|Oj ?_
  exact⟨Zm (by constructor;exact fun h5=>⟨by omega,Oa,fun _=>⟨fun k h6 h7=>qa k h6 Oa,Oa,Oa⟩⟩;rintro⟨h2,h3,h4⟩;have h5:=(h4 (Od ‹¬¬(p.Ok)›)).2.2;omega),hS.nl⟩
 refine(zDo 5)<|(zDo 6)<|(zDo 7)<|(zDo 8)<|(zDo 9)<|(zDo 10)<|(zDo 11)<|(zDo 12)<|(zDo 13)<|(zDo 14)<|(zDo 15)<|(zDo 16)<|(zDw 17 xpf)<|(zDw 18 xas)<|zdd<|ztn<|zrt<|Oj ?_
 exact⟨Zj (by rintro⟨h2,h3,h4⟩;first|omega|(have h5:=(h4 (Od ‹¬¬(p.Ok)›)).1 i Oa Oa;omega)|(have h5:=(h4 (Od ‹¬¬(p.Ok)›)).2;omega)),hS.nl⟩
def Z6(p:Prob)(n:Int)(f:Of):Prop:=FitsP p n f/\∀k,0<=k->k<n->f k<=p.D k
theorem YQ {p:Prob} {n:Int} (hf:FitsP p n f) (i0:0<=i) (i1:i<n):0<=f i/\f i<=(p.stock+p.kerf-ZL p f i.toNat).tdiv (p.L i+p.kerf):=by
 have hp:=hf.ok
 have hn:=hf.eq
 have he:=hp.all i i0 Oa
 unfold Prob.each at he
 have hk:=hp.k1
 have hu:∀j:Nat,i.toNat+j<=n.toNat->ZL p f i.toNat<=ZL p f (i.toNat+j):=fun j=>by
   induction j with
   |zero=>intro _;exact Int.le_refl _
   | succ j ih=>
     intro hj
     have h1:=ih Oa
     have h2:=hf.all ((i.toNat+j:Nat):Int) Oa Oa
     have h3:=hp.all ((i.toNat+j:Nat):Int) Oa Oa
     unfold Prob.each at h3
     have h4:=Int.mul_nonneg h2.1 (show 0<=p.L ((i.toNat+j:Nat):Int)+p.kerf by omega)
     have h5:=ZF (fun i=>f i*(p.L i+p.kerf)) (i:=((i.toNat+j:Nat):Int)) Oa
     have e:ZL p f (i.toNat+(j+1))=ZL p f (i.toNat+j)+f ((i.toNat+j:Nat):Int)*(p.L ((i.toNat+j:Nat):Int)+p.kerf):=by
       unfold ZL
       rw [show i.toNat+(j+1)=(((i.toNat+j:Nat):Int)+1).toNat by omega,h5];rfl
     rw [e];omega
 have h1:ZL p f (i+1).toNat=ZL p f i.toNat+f i*(p.L i+p.kerf):=ZF _ i0
 have h2 :ZL p f (i+1).toNat<=ZL p f n.toNat:=by
   have h3:∀j:Nat,(i+1).toNat+j<=n.toNat->ZL p f (i+1).toNat<=ZL p f ((i+1).toNat+j):=fun j=>by
     induction j with
     |zero=>intro _;exact Int.le_refl _
     | succ j ih=>
       intro hj
       have h1:=ih Oa
       have h2:=hf.all (((i+1).toNat+j:Nat):Int) Oa Oa
       have h3:=hp.all (((i+1).toNat+j:Nat):Int) Oa Oa
       unfold Prob.each at h3
       have h4:=Int.mul_nonneg h2.1 (show 0<=p.L (((i+1).toNat+j:Nat):Int)+p.kerf by omega)
       have h5:=ZF (fun i=>f i*(p.L i+p.kerf)) (i:=(((i+1).toNat+j:Nat):Int)) Oa
       have e:ZL p f ((i+1).toNat+(j+1))=ZL p f ((i+1).toNat+j)+f (((i+1).toNat+j:Nat):Int)*(p.L (((i+1).toNat+j:Nat):Int)+p.kerf):=by
         unfold ZL
         rw [show(i+1).toNat+(j+1)=((((i+1).toNat+j:Nat):Int)+1).toNat by omega,h5];rfl
       rw [e];omega
   have h4:=h3 (n.toNat-(i+1).toNat) Oa
   rwa [show(i+1).toNat+(n.toNat-(i+1).toNat)=n.toNat by omega] at h4
 have h3:=hf.used
 rw [<-hn] at h3
 have h0:=(hf.all i i0 Oa).1
 have h4:=Int.mul_nonneg h0 (show 0<=p.L i+p.kerf by omega)
 refine⟨h0,?_⟩
 rw [Int.tdiv_eq_ediv_of_nonneg Oa]
 exact(Int.le_ediv_iff_mul_le Oa).2 Oa
theorem Zfg{p:Prob}(hp:p.Ok){l x:Int}(i0:0<=i)(i1:i<p.m)(l0:0<=l)(l1:l<=p.stock+p.kerf)(x0:0<=x)(x1:x<=l.tdiv (p.L i+p.kerf)):0<=x*(p.L i+p.kerf)/\x*(p.L i+p.kerf)<=l/\x<=2000:=by
 have he:=hp.all i i0 i1
 unfold Prob.each at he
 have hk:=hp.k1;have hs:=hp.s2
 rw [Int.tdiv_eq_ediv_of_nonneg l0] at x1
 have h1:=(Int.le_ediv_iff_mul_le (show 0<p.L i+p.kerf by omega)).1 x1
 have h2:=Int.mul_nonneg x0 (show 0<=p.L i+p.kerf by omega)
 refine⟨h2,h1,?_⟩
 by_cases hx:x<=2000
 · exact hx
 · exfalso
   have h3:=Int.mul_le_mul_of_nonneg_left (show 1+p.kerf<=p.L i+p.kerf by omega) x0
   have h4:=Int.mul_le_mul_of_nonneg_right (show 1<=x by omega) hk
   have h5:x*(1+p.kerf)=x+x*p.kerf:=by rw [Int.mul_add,Int.mul_one]
   omega
theorem XR{vL:Value}{p:Prob}(w0:World)(h:PAt w0 vL vD p)(hok:p.Ok)(i0:0<=i)(i1:i<p.m):
   Calls Om 277 [.agg #[vL,vD,.int Oi p.stock,.int Oi p.kerf],.int Oi i].toArray w0 fun e w=>∃v,e= .returned v/\v= .int Oi (p.L i+p.kerf)/\Sat w0 w []:=by
 have hp:=hok;have he:=hp.all i i0 i1;unfold Prob.each at he;have hs2:=hp.s2;have hk1:=hp.k1;have hk2:=hp.k2
 refine zenG Tryz.func277 Tryz.ntmps277 fun w hS=> ?_
 refine zsr<|zla (xbx (cs:= [_,_,_,_]) hS) ?_;rintro _ w ⟨g1,rfl,hS⟩
 refine(zP)<|zx7<|zdst [0] [0] 1000 mx_ hS ?_;clear hS;intro w hS
 refine(zDw 0 (xfb 0 fd_27_0))<|(zDl 1 (fun w hS=>(xlb 0 pl_22 hS)))<|(zDw 2 xmv)<|(zDw 3 (xix (kk:=i) Zb h.L.slh))<|YF 4 (fun w hS=>(xlr (u:= .int Oi (p.L i)) pl_3 (h.L.below hS.below))) ?_
 have hbv:=h.iL i
 refine(zDw 5 (xfb 3 fd_27_3))<|(zDl 6 (fun w hS=>(xlb 0 pl_3 hS)))<|(zDw 7 (Zh (r:=p.L i+p.kerf)))<|(zDw 8 xas)<|zdd<|ztn<|zrt<|Oj ?_
 exact⟨rfl,hS.nl⟩
theorem ZnZ{vL:Value}{p:Prob}{n:Int}(w0:World)(h:PAt w0 vL vD p)(hA:Row w0 vA 1 n (ints f)):
   Calls Om 229 [.agg #[vL,vD,.int Oi p.stock,.int Oi p.kerf],vA].toArray w0 fun e w=>∃v,e= .returned v/\∃(r:Int) (ok:Prop),v= .tuple #[.int Oi r,B ok]/\(ok↔FitsP p n f)/\Sat w0 w []:=by
 obtain⟨hm,hm1,hd,hd1,hs,hk⟩:=h.Oq
 have hn:=hA.slh.n0;have hn1:=hA.slh.n1
 refine zenG Tryz.func229 Tryz.ntmps229 fun w hS=> ?_
 refine zsr<|zla (xbx (cs:= [_,_,_,_]) hS) ?_;rintro _ w ⟨g1,rfl,hS⟩
 refine(On)<|zx5<|(zV (xls 0 st_27 hS))<|zlc (xc0 XP) (Ya (p:=p) w (h.below hS.below)) ?_;rintro _ w ⟨rfl,hS'⟩
 replace hS:=hS.cmp hS';clear hS'
 refine(On)<|zlb 12 ?_ ?_<;>intro hc
 ·
  iterate 6 refine zlo ?_
  refine(zP)<|zlt<|zct<|zsr ?_
  refine(On)<|zx14<|zf2 ⟨_,rfl,?_⟩
  exact⟨_,False,by rw [ZA not_false],⟨fun hh=>hh.elim,fun hf=>by
    first
    |exact absurd hf.ok ‹¬p.Ok›
    |(have:=hf.eq;omega)
    |(have h8:=YQ hf h0 Oa;rw [<-show p.stock+p.kerf-ZL p f i.toNat=l by omega] at*;omega)
    |(have h8:=YQ hf h0 Oa;omega)⟩,hS.nl⟩
 refine(zP)<|(zV (xln Zb hA.slh))<|(zV (xfb 0 fd_27_0))<|(zV (xlb 0 pl_22 hS))<|(zV (xln Zb h.L.slh))<|(On)<|zlt<|Zf ?_ ?_<;>intro hc
 ·
  refine zsr<|(On)<|zx14<|zf2 ⟨_,rfl,?_⟩
  exact⟨_,False,by rw [ZA not_false],⟨fun hh=>hh.elim,fun hf=>by
    first
    |exact absurd hf.ok ‹¬p.Ok›
    |(have:=hf.eq;omega)
    |(have h8:=YQ hf h0 Oa;rw [<-show p.stock+p.kerf-ZL p f i.toNat=l by omega] at*;omega)
    |(have h8:=YQ hf h0 Oa;omega)⟩,hS.nl⟩
 refine ZV<|zlv (xfb 2 fd_27_2) ?_
 have hp:p.Ok:=by first|assumption|exact Od ‹_›
 have hnm:n=p.m:=Oa
 have hs1:=hp.s1;have hs2:=hp.s2;have hk1:=hp.k1;have hk2:=hp.k2
 refine(zV (xlb 0 pl_3 hS))<|(zV (xfb 3 fd_27_3))<|(zV (xlb 0 pl_3 hS))<|(zV (Zh (r:=p.stock+p.kerf)))<|(zP)<|zx5<|(zP)<|(zV (xln Zb hA.slh))<|(zP)<|zx6<|zlp (fun mm M w=>∃(l:Int) (i:Int),mm=((n-i).toNat)/\(0<=i)/\(i<=n)/\(l=p.stock+p.kerf-ZL p f i.toNat)/\(0<=l)/\(l<=p.stock+p.kerf)/\(∀k,0<=k->k<i->0<=f k/\f k<=2000)/\M= [(2,Or g1),(6,.int Oi l),(25,vA),(26,.int Oi n),(27,.int Oi i)]/\Sat w0 w [.blk g1 [vL,vD,.int Oi p.stock,.int Oi p.kerf]]) ⟨p.stock+p.kerf,0,rfl,Oa,Oa,?_,Oa,Oa,?_,rfl,hS⟩ ?_
 ·
  show _=_-0;omega
 ·
  intro k k0 k1;omega
 clear hS w
 rintro mm M w ⟨l,i,rfl,h0,h1,hl,hl0,hl1,qa,rfl,hS⟩
 refine zsr<|(zP)<|zx7<|Zf ?_ ?_<;>intro hc
 ·
  refine zx3<|zlv xmv ?_
  have he:=hp.all i h0 Oa;unfold Prob.each at he
  have hqd:=YU (a:=l) (d:=p.L i+p.kerf) (A:=2100) Oa Oa
  refine(zV (xix (kk:=i) Zb hA.slh))<|(zV (xlr (u:= .int Oi (f i)) pl_3 (hA.below hS.below)))<|(On)<|zx5<|(Oo)<|zlb 34 ?_ ?_<;>intro hc
  ·
   iterate 7 refine zlo ?_
   refine(zP)<|zlt<|zct<|zsr ?_
   refine(On)<|zlt<|zrt<|ztr<|zbr<|ztr<|ztr<|zbr<|ztr<|zf2 ⟨_,rfl,?_⟩
   exact⟨_,False,by rw [ZA not_false],⟨fun hh=>hh.elim,fun hf=>by
     first
     |exact absurd hf.ok ‹¬p.Ok›
     |(have:=hf.eq;omega)
     |(have h8:=YQ hf h0 Oa;rw [<-show p.stock+p.kerf-ZL p f i.toNat=l by omega] at*;omega)
     |(have h8:=YQ hf h0 Oa;omega)⟩,hS.nl⟩
  refine(On)<|(zV (xls 0 st_27 hS))<|(zP)<|zlc (xc0 XO) (XR (p:=p) (i:=i) w (h.below hS.below) hp Oa Oa) ?_;rintro _ w ⟨rfl,hS'⟩
  replace hS:=hS.cmp hS';clear hS'
  refine(zV (Uk (r:=(Int.tdiv l (p.L i+p.kerf)))))<|(On)<|zlt<|Zf ?_ ?_<;>intro hc
  ·
   refine zsr<|(On)<|zlt<|zrt<|ztr<|zbr<|ztr<|ztr<|zbr<|ztr<|zf2 ⟨_,rfl,?_⟩
   exact⟨_,False,by rw [ZA not_false],⟨fun hh=>hh.elim,fun hf=>by
     first
     |exact absurd hf.ok ‹¬p.Ok›
     |(have:=hf.eq;omega)
     |(have h8:=YQ hf h0 Oa;rw [<-show p.stock+p.kerf-ZL p f i.toNat=l by omega] at*;omega)
     |(have h8:=YQ hf h0 Oa;omega)⟩,hS.nl⟩
  refine zsk<|ztn<|zrg<|zlv xmv ?_
  have hst:=Zfg hp h0 Oa hl0 hl1 (x:=f i) Oa Oa
  refine(zP)<|(zV (xls 0 st_27 hS))<|(zP)<|zlc (xc0 XO) (XR (p:=p) (i:=i) w (h.below hS.below) hp Oa Oa) ?_;rintro _ w ⟨rfl,hS'⟩
  replace hS:=hS.cmp hS';clear hS'
  refine(zV (Yi (r:=((f i)*(p.L i+p.kerf))) (e:=rfl)))<|(zV (Zp (r:=l-((f i)*(p.L i+p.kerf)))))<|(zP)<|zx10<|(zV (Zh (r:=i+1)))<|(zP)<|zln<|zlq ⟨l-((f i)*(p.L i+p.kerf)),i+1,rfl,Oa,Oa,?_,Oa,Oa,?_,rfl,hS⟩
  ·
   have h9:ZL p f (i+1).toNat=ZL p f i.toNat+f i*(p.L i+p.kerf):=ZF _ h0
   rw [h9];omega
  ·
   intro k h0' h1';rcases Int.lt_or_eq_of_le (show k<=i by omega) with hk|hk;exact qa k h0' hk;rw [hk];omega
 refine zx8<|(Oo)<|zx1<|zf2 ⟨_,rfl,?_⟩
 exact⟨_,True,by rw [ZQ trivial],⟨fun _=>⟨hp,Oa,fun k k0 k1=>(qa k k0 Oa),by rw [<-hnm,show n=i by omega];omega⟩,fun _=>trivial⟩,hS.nl⟩
theorem ZeC{vL:Value}{p:Prob}{n:Int}(w0:World)(h:PAt w0 vL vD p)(hA:Row w0 vA 1 n (ints f)):
   Calls Om 156 [.agg #[vL,vD,.int Oi p.stock,.int Oi p.kerf],vA].toArray w0 fun e w=>∃v,e= .returned v/\v=B (FitsP p n f)/\Sat w0 w []:=by
 refine zenG Tryz.func156 Tryz.ntmps156 fun w hS=> ?_
 refine zsr<|zla (xbx (cs:= [_,_,_,_]) hS) ?_;rintro _ w ⟨g1,rfl,hS⟩
 refine(zP)<|zlz<|(zV (xls 0 st_27 hS))<|(zP)<|zlc (xc0 ZmU) (ZnZ (p:=p) w (h.below hS.below) (hA.below hS.below)) ?_;rintro _ w ⟨rr1,kQ,rfl,fE,hS'⟩
 replace hS:=hS.cmp hS';clear hS'
 refine zs5 ?_
 refine zlz<|(On)<|zx1<|Oj ?_
 exact⟨Zm fE,hS.nl⟩
theorem KD{vL:Value}{p:Prob}{n:Int}(w0:World)(h:PAt w0 vL vD p)(hA:Row w0 vA 1 n (ints f)):
   Calls Om 161 [.agg #[vL,vD,.int Oi p.stock,.int Oi p.kerf],vA].toArray w0 fun e w=>∃v,e= .returned v/\v=B (Z6 p n f)/\Sat w0 w []:=by
 obtain⟨hm,hm1,hd,hd1,hs,hk⟩:=h.Oq
 have hn:=hA.slh.n0;have hn1:=hA.slh.n1
 refine zenG Tryz.func161 Tryz.ntmps161 fun w hS=> ?_
 refine zsr<|zla (xbx (cs:= [_,_,_,_]) hS) ?_;rintro _ w ⟨g1,rfl,hS⟩
 refine(zP)<|zx5<|(zV (xls 0 st_27 hS))<|(zP)<|zlc (xc0 ZhJ) (ZeC (p:=p) w (h.below hS.below) (hA.below hS.below)) ?_;rintro _ w ⟨rfl,hS'⟩
 replace hS:=hS.cmp hS';clear hS'
 refine(zP)<|zlt<|Zf ?_ ?_<;>intro hc
 ·
  refine zsr<|(zP)<|zx14<|Oj ?_
  exact⟨Zj (by intro hh;first|exact absurd hh.1 ‹_›|(have:=hh.2 i h0 Oa;omega)),hS.nl⟩
 refine zsk<|ztn<|zsq<|zsr<|(zP)<|(zV (xln Zb hA.slh))<|(zP)<|zx6 ?_
 have qR:FitsP p n f:=by first|assumption|exact Od ‹_›
 have hfe:=qR.eq;have hfd:=qR.ok.d
 refine zlp (fun mm M w=>∃(i:Int),mm=((n-i).toNat)/\(0<=i)/\(i<=n)/\(∀k,0<=k->k<i->f k<=p.D k)/\M= [(2,Or g1),(11,vA),(12,.int Oi n),(13,.int Oi i)]/\Sat w0 w [.blk g1 [vL,vD,.int Oi p.stock,.int Oi p.kerf]]) ⟨0,rfl,Oa,Oa,?_,rfl,hS⟩ ?_
 ·
  intro k k0 k1;omega
 clear hS w
 rintro mm M w ⟨i,rfl,h0,h1,qa,rfl,hS⟩
 refine zsr<|(zP)<|zx7<|Zf ?_ ?_<;>intro hc
 ·
  refine zx3<|(zP)<|(zV (xix (kk:=i) Zb hA.slh))<|(zV (xlr (u:= .int Oi (f i)) pl_3 (hA.below hS.below)))<|(On)<|zlz<|(zP)<|(zV (xfb 1 fd_27_1))<|(zV (xlb 0 pl_22 hS))<|(zP)<|(zV (xix (kk:=i) Zb h.D.slh))<|zlv (xlr (u:= .int Oi (p.D i)) pl_3 (h.D.below hS.below)) ?_
  have hbv:=h.iD i
  refine(zP)<|zlt<|Zf ?_ ?_<;>intro hc
  ·
   refine zsr<|(zP)<|zx2<|Oj ?_
   exact⟨Zj (by intro hh;first|exact absurd hh.1 ‹_›|(have:=hh.2 i h0 Oa;omega)),hS.nl⟩
  refine zx4<|(zV (Zh (r:=i+1)))<|(zP)<|zln<|zlq ⟨i+1,rfl,Oa,Oa,?_,rfl,hS⟩
  ·
   intro k h0' h1';rcases Int.lt_or_eq_of_le (show k<=i by omega) with hk|hk;exact qa k h0' hk;rw [hk];omega
 refine zx8<|(zP)<|zx1<|Oj ?_
 exact⟨Yn (by exact⟨qR,fun k k0 k1=>qa k k0 Oa⟩),hS.nl⟩
end Go.Proofs.YtpnamgfdakfccaaGreat
namespace Go.Proofs.YtpnamgfdakfccaaGreat
open Go Go.RowKit Go.Proofs.Gw
variable {gp:Nat} {vD:Value}
theorem Znc:Zd Om 160=true:=Oc
theorem ZhI:Zd Om 161=true:=Oc
theorem Sat.oldblk{w0 w:World}{l:List Ent}{g:Nat}{cs:List Value}(hS:Sat w0 w l)(h:(Ent.blk g cs).holds w0):(Ent.blk g cs).holds w:=by
 obtain⟨T,h⟩:=h
 exact⟨T,by rw [hS.below.block g (by rw [Array.getElem?_eq_some_iff] at h;exact h.1)];exact h⟩
theorem xlfs{L:List (Nat×Value)}{w0 w:World}{l:List Ent}{o:Oper}{x:Operand}{T:TypeId}{k g:Nat}{cs:List Value}(ht:Zx Om T=some k)(h:(Ent.blk g cs).holds w0)(hS:Sat w0 w l)(ho:o.op= .load T x:=by exact rfl)
 (hx:evL L x=some (Or g):=by exact rfl) (hk:cs.length=k:=by exact rfl):Runs Om L w o (.value (.agg cs.toArray)) w:=V8 ho (by rw [ht,hk]) hx (Sat.oldblk hS h).cells
theorem Zkc{vL:Value}{p:Prob}{vA:Value}{n:Int}{f:Of}(w0:World)(hG:(Ent.blk gp [vL,vD,.int Oi p.stock,.int Oi p.kerf]).holds w0)(h:PAt w0 vL vD p)(hA:Row w0 vA 1 n (ints f)):
   Calls Om 160 [vA,Or gp].toArray w0 fun e w=>∃v,e= .returned v/\v=B (¬Z6 p n f)/\Sat w0 w []:=by
 refine zenG Tryz.func160 Tryz.ntmps160 fun w hS=> ?_
 refine zsr<|(zP)<|zlz<|(zV (xlfs st_27 hG hS))<|(zP)<|zlc (xc0 ZhI) (KD (p:=p) w (h.below hS.below) (hA.below hS.below)) ?_;rintro _ w ⟨rfl,hS'⟩
 replace hS:=hS.cmp hS';clear hS'
 refine(On)<|zx1<|Oj ?_
 exact⟨rfl,hS⟩
theorem Zij{vL:Value}{p:Prob}{vM:Value}{u:Int}{mv:Int->Value}{ml:Of}{mf:Og}(w0:World)(hG:(Ent.blk gp [vL,vD,.int Oi p.stock,.int Oi p.kerf]).holds w0)(h:PAt w0 vL vD p)(hM:MAt w0 vM u mv ml mf):
   Calls Om 230 [vM,.func (.func 160) #[] #[Or gp]].toArray w0 fun e w=>∃v,e= .returned v/\∃r:Int,v= .int Oi r/\((r= -1/\∀k,0<=k->k<u->¬(¬Z6 p (ml k) (mf k)))\/(0<=r/\r<u/\(¬Z6 p (ml r) (mf r))))/\Sat w0 w []:=by
 have hn:=hM.row.slh.n0;have hn1:=hM.row.slh.n1
 refine zenG Tryz.func230 Tryz.ntmps230 fun w hS=> ?_
 refine zsr<|(zP)<|zx5<|(zP)<|(zV (xln Zk hM.row.slh))<|(zP)<|zx6<|zlp (fun mm M w=>∃(i:Int),mm=((u-i).toNat)/\(0<=i)/\(i<=u)/\(∀k,0<=k->k<i->¬(¬Z6 p (ml k) (mf k)))/\M= [(0,vM),(1,.func (.func 160) #[] #[Or gp]),(7,.int Oi u),(8,.int Oi i)]/\Sat w0 w []) ⟨0,rfl,Oa,Oa,?_,rfl,hS⟩ ?_
 ·
  intro k h0 h1;omega
 clear hS w
 rintro mm M w ⟨i,rfl,h0,h1,qa,rfl,hS⟩
 refine zsr<|(zP)<|zx7<|Zf ?_ ?_<;>intro hc
 ·
  refine zx3<|(On)<|zlz<|(Oo)<|(zV (xix (kk:=i) Zk hM.row.slh))<|(zV (xlr (u:=(mv i)) pl_22 (hM.row.below hS.below)))<|zlc (xcc (vs:= [_]) Znc) (Zkc (p:=p) w (Sat.oldblk hS hG) (h.below hS.below) ((hM.p i Oa Oa).below hS.below)) ?_;rintro _ w ⟨rfl,hS'⟩
  replace hS:=hS.cmp hS';clear hS'
  refine zlt<|Zf ?_ ?_<;>intro hc
  ·
   refine zsr<|(On)<|zx2<|Oj ?_
   exact⟨i,rfl,.inr ⟨by omega,Oa,‹¬Z6 p (ml i) (mf i)›⟩,hS⟩
  refine zx4<|(zV (Zh (r:=i+1)))<|(zP)<|zln<|zlq ⟨i+1,rfl,Oa,Oa,?_,rfl,hS⟩
  ·
   intro k h0' h1';rcases Int.lt_or_eq_of_le (show k<=i by omega) with hk|hk;exact qa k h0' hk;rw [hk];assumption
 refine zx8<|(zP)<|zx1<|Oj ?_
 exact⟨-1,rfl,.inl ⟨rfl,fun k h0 h1=>qa k h0 Oa⟩,hS⟩
theorem Zio{vL:Value}{p:Prob}{vM:Value}{u:Int}{mv:Int->Value}{ml:Of}{mf:Og}(w0:World)(hG:(Ent.blk gp [vL,vD,.int Oi p.stock,.int Oi p.kerf]).holds w0)(h:PAt w0 vL vD p)(hM:MAt w0 vM u mv ml mf):
   Calls Om 159 [vM,.func (.func 160) #[] #[Or gp]].toArray w0 fun e w=>∃v,e= .returned v/\v=B (∃k,0<=k/\k<u/\(¬Z6 p (ml k) (mf k)))/\Sat w0 w []:=by
 refine zenG Tryz.func159 Tryz.ntmps159 fun w hS=> ?_
 refine zsr<|(zP)<|zlz<|(On)<|zlc (xc0 Zdx) (Zij w (Sat.oldblk hS hG) (h.below hS.below) (hM.below hS.below)) ?_;rintro _ w ⟨r1,rfl,hr1,hS'⟩
 replace hS:=hS.cmp hS';clear hS'
 refine(On)<|zx1<|Oj ?_
 exact⟨Zm (by
  rcases hr1 with⟨h1,h2⟩|⟨h1,h2,h3⟩
  · exact⟨fun h=>Oa,fun⟨k,h4,h5,h6⟩=>absurd h6 (h2 k h4 h5)⟩
  · exact⟨fun _=>⟨_,h1,h2,h3⟩,fun _=>h1⟩),hS⟩
end Go.Proofs.YtpnamgfdakfccaaGreat
namespace Go.Proofs.Gw
open Go Go.RowKit
def Ru(v:Value)(q:Nat):Value:=match v with
  | .slice a _ cap=> .slice a q cap
  |u=>u
section
variable {P:Program} {L:List (Nat×Value)} {w w0:World} {o:Oper} {x y z:Operand} {T T':TypeId} {l:List Ent} {E:TypeId}
theorem ZdZ{v:Value}{n:Int}{q:Nat}(h:Slh v n)(hq:(q:Int)<=n):Slh (Ru v q) q:=by
 obtain⟨h0,h1,a,cap,rfl,hz⟩:=h
 refine⟨by omega,Oa,a,cap,rfl,?_⟩
 rcases hz with hz|hz
 · left;omega
 · exact .inr hz
theorem Zjd{v:Value}{n:Int}{q:Nat}{c:Int->Value}(h:Row w v 1 n c)(hq:(q:Int)<=n):Row w (Ru v q) 1 q c:=by
 refine⟨ZdZ h.slh hq,fun k hk=> ?_⟩
 have h2:=h.2 k Oa
 obtain⟨_,_,a,cap,rfl,_⟩:=h.slh
 cases a<;>exact h2
theorem ZfP{v:Value}{n i:Int}(q:Nat)(ht:Zu P T=some (E,1))(hv:Slh v n)(hq:(q:Int)=i:=by omega)(hn:0<n:=by omega)(h1:i<=n:=by omega)(ho:o.op= .slice T x (some y) none none:=by exact rfl)(hx:evL L x=some v:=by exact rfl)(hy:evL L y=some (.int Oi i):=by exact rfl):
   Runs P L w o (.value (Xv v q)) w:=fun ρ h=>by
 obtain⟨hu,inf,hin,hsz⟩:=Zr ht
 obtain⟨_,_,a,cap,rfl,hz⟩:=hv
 subst hq
 have hb:(Instr.sliceBounds true n.toNat cap (some (.int Oi (q:Int))) none none).run P w= .ok (q,n.toNat,cap) w:=by
   simp [Instr.sliceBounds,Instr.sliceBound,asIntOf]
   omega
 have e:(Instr.sliceAt T (.slice a n.toNat cap) (some (.int Oi (q:Int))) none none).run P w= .ok (Xv (.slice a n.toNat cap) q) w:=by
   unfold Instr.sliceAt
   simp only [Sem.run_bind,run_underlying hu,Result.andThen_ok,Instr.slice,hb]
   simp [sizeOf,typeInfo,hin,hsz,Xv]
   rcases hz with hz|⟨b,off,rfl⟩
   · omega
   · by_cases hc:cap=q
     · simp [hc]
     · simp [hc,Addr.add_eq]
 simp [execOp,ho,h _ _ hx,h _ _ hy,e]
theorem ZcP{v:Value}{n i:Int}(q:Nat)(ht:Zu P T=some (E,1))(hv:Slh v n)(hr:W0 v)(hq:(q:Int)=i:=by omega)(hn:0<n:=by omega)(h1:i<=n:=by omega)(ho:o.op= .slice T x none (some y) none:=by exact rfl)(hx:evL L x=some v:=by exact rfl)(hy:evL L y=some (.int Oi i):=by exact rfl):
   Runs P L w o (.value (Ru v q)) w:=fun ρ h=>by
 obtain⟨hu,inf,hin,hsz⟩:=Zr ht
 obtain⟨_,_,a,cap,rfl,hz⟩:=hv
 have hc:=hr _ _ _ rfl
 subst hq
 have hb:(Instr.sliceBounds true n.toNat cap none (some (.int Oi (q:Int))) none).run P w= .ok (0,q,cap) w:=by
   simp [Instr.sliceBounds,Instr.sliceBound,asIntOf]
   omega
 have e:(Instr.sliceAt T (.slice a n.toNat cap) none (some (.int Oi (q:Int))) none).run P w= .ok (Ru (.slice a n.toNat cap) q) w:=by
   unfold Instr.sliceAt
   simp only [Sem.run_bind,run_underlying hu,Result.andThen_ok,Instr.slice,hb]
   rcases hz with hz|⟨b,off,rfl⟩
   · omega
   · simp [sizeOf,typeInfo,hin,hsz,Ru,Addr.add]
 simp [execOp,ho,h _ _ hx,h _ _ hy,e]
def cpy(q:Nat)(r:Int)(d c:Int->Value):Int->Value:=fun k=>if(q:Int)<=k/\k<q+r then d (k-q) else c k
theorem T7{v D u:Value}{n m r:Int}{q:Nat}{c d:Int->Value}(i:Nat)(ho:o.op= .call {callee:= .builtin .copy,args:= #[x,y],argTypes:= #[T,T']})(ht:Zu P T=some (E,1))(hx:evL L x=some D)(hy:evL L y=some u)(hS:Sat w0 w l)(hi:l[i]? =some (.own v 1 E n c))(hD:D=Xv v q\/(D=v/\q=0))
   (hR:Row w u 1 m d) (hq:(q:Int)<n) (hm:0<m) (hr:r=min (n-q) m) (h1:∀k,0<=k->k<m->(d k).oneCell'=true):
   ∃rv w',Runs P L w o (.value rv) w'/\rv= .int Oi r/\Sat w0 w' (l.set i (.own v 1 E n (cpy q r d c))):=by
 obtain⟨hu,inf,hin,hsz⟩:=Zr ht
 have hS':=hS
 rw [Z3 hi] at hS'
 rw [Yx hi]
 have xZ:(P.info? E).map (·.size)=some 1:=by rw [hin];simp [hsz]
 have hg:=hS'.get
 obtain⟨_,_,a,cap,rfl,hz⟩:=hR.slh
 rcases hz with hz|⟨b,off,rfl⟩
 · omega
 obtain⟨_,_,⟨rfl,hz⟩|⟨g,cap',cur,rfl,hh,h2,h3,h4,h5⟩⟩:=hg
 · omega
 obtain⟨dCap,rfl⟩:∃dCap,D= .slice (some ⟨g,q,none⟩) (n.toNat-q) dCap:=by
   rcases hD with rfl|⟨rfl,rfl⟩
   · exact⟨cap'-q,by unfold Xv;dsimp only;rw [if_neg Oa];simp⟩
   · exact⟨cap',by simp⟩
 have done:∀{w':World} (r:Value),(Builtin.copy_ #[T,T'] 0 #[.slice (some ⟨g,q,none⟩) (n.toNat-q) dCap,.slice (some ⟨b,off,none⟩) m.toNat cap]).run P w= .ok r w'->Runs P L w o (.value r) w':=fun r hr ρ h=>by
   have hr':∀ty,(Builtin.copy_ #[T,T'] ty #[.slice (some ⟨g,q,none⟩) (n.toNat-q) dCap,.slice (some ⟨b,off,none⟩) m.toNat cap])=Builtin.copy_ #[T,T'] 0 #[.slice (some ⟨g,q,none⟩) (n.toNat-q) dCap,.slice (some ⟨b,off,none⟩) m.toNat cap]:=fun _=>rfl
   simp [execOp,ho,resolve,invoke,builtin,h _ _ hx,h _ _ hy,hr',hr]
 have hl:=YB d r.toNat
 have hr:=run_copy_row (P:=P) w T T' 0 E g q (n.toNat-q) dCap ⟨b,off,none⟩ m.toNat cap cur E (cellsOf d r.toNat) hu xZ hh (by rw [hl];show r.toNat=min m.toNat (n.toNat-q);omega) (fun j t hj=>by
   rw [cellsOf_get] at hj
   split at hj
   · rename_i hlt
     cases hj
     have:=hR.2 j Oa
     rw [Addr.add_eq _ rfl]
     simpa [cad] using this
   · cases hj) (by rw [hl,h4];omega) (fun t ht=>by
   obtain⟨j,hj⟩:=List.getElem?_of_mem ht
   rw [cellsOf_get] at hj
   split at hj
   · cases hj;exact h1 _ Oa Oa
   · cases hj)
 rw [hl] at hr
 refine⟨_,_,done _ hr,by simp [goInt];omega,?_⟩
 refine hS'.turn (fun k _ hk=> ?_) rfl rfl rfl (by simp [World.setRow]) ⟨by omega,Oa,.inr ⟨g,cap',_,rfl,setRow_heap w g cur _ E _ hh,h2,h3,?_,fun k hk=> ?_⟩⟩ (fun _ h=> .inl h)
 · have:k≠g:=fun e=>hk (by rw [e];rfl)
   simp [World.setRow,Array.getElem?_modify,Ne.symm this]
 · simp [hl,h4];omega
 · have hk':k<n.toNat:=Oa
   have h6:=h5 k hk
   have ht:(cur.toList.take q).length=q:=by simp [h4];omega
   show(cur.toList.take q++cellsOf d r.toNat++cur.toList.drop (q+r.toNat)).toArray[k]? =_
   rw [List.getElem?_toArray]
   unfold cpy
   by_cases k1:k<q
   · rw [if_neg Oa,List.getElem?_append_left (by rw [List.length_append,ht];omega),List.getElem?_append_left Oa,List.getElem?_take,if_pos k1,Array.getElem?_toList];exact h6
   · by_cases k2:k<q+r.toNat
     · rw [if_pos Oa,List.getElem?_append_left (by rw [List.length_append,ht,hl];omega),List.getElem?_append_right Oa,ht,cellsOf_get,if_pos Oa,show(((k-q:Nat)):Int)=(k:Int)-q by omega]
     · rw [if_neg Oa,List.getElem?_append_right (by rw [List.length_append,ht,hl];omega),List.length_append,ht,hl,List.getElem?_drop,Array.getElem?_toList,show q+r.toNat+(k-(q+r.toNat))=k by omega];exact h6
end
end Go.Proofs.Gw
namespace Go.Proofs.YtpnamgfdakfccaaGreat
open Go Go.RowKit Go.Proofs.Gw
theorem ZmT:Zd Om 231=true:=Oc
theorem X7:Tryz.prog.underlying 192=some (.int .u64):=Oc
theorem Zau:Tryz.prog.underlying 3=some (.int .i64):=Oc
theorem Ws:(Tryz.prog.underlying 192).isSome=true:=Oc
theorem Rt:(Tryz.prog.underlying 3).isSome=true:=Oc
def cpyI(q:Nat)(r:Int)(d c:Of):Of:=fun k=>if(q:Int)<=k/\k<q+r then d (k-q) else c k
theorem Re(q:Nat)(r:Int)(d c:Of):cpy q r (ints d) (ints c)=ints (cpyI q r d c):=by
 funext k
 by_cases h:(q:Int)<=k/\k<q+r
 · simp only [cpy,ints,cpyI,if_pos h]
 · simp only [cpy,ints,cpyI,if_neg h]
theorem ZpA(n:Int)(h:0<=n/\n<=1000000)(w0:World):Calls Om 231 [.int .u64 1,.int .u64 n].toArray w0 fun e w=>∃v,e= .returned v/\v= .tuple #[.int .u64 0,.int .u64 n]/\Sat w0 w []:=by
 obtain⟨k,rfl⟩:=Int.eq_ofNat_of_zero_le h.1
 have hm:=Tryz.bits_Mul 1 k (by decide) Oa w0
 refine hm.mono fun e w ⟨he,hw⟩=>⟨_,he,?_,by rw [hw];exact Sat.start _⟩
 rw [Nat.one_mul,Nat.div_eq_of_lt Oa,Nat.mod_eq_of_lt Oa];rfl
theorem Zh2{v:Value}{f:Of}{n:Int}(w0:World)(hR:Row w0 v 1 1 (ints f))(hn:1<=n/\n<=1000):
   Calls Om 163 [v,.int Oi n].toArray w0 fun e w=>∃v,e= .returned v/\∃r,v=r/\Slh r n/\Sat w0 w [.own r 1 3 n (ints fun _=>f 0)]:=by
 refine zenG Tryz.func163 Tryz.ntmps163 fun w hS=> ?_
 refine zsr<|(zP)<|zx5<|(zP)<|(zV (xkf Yc))<|zlt<|zcf<|zsk<|ztn<|zsr ?_
 refine(zP)<|(zV (xln Zb hR.slh))<|(zV (xcv Rt X7))<|(zP)<|(zV (xcv Rt X7))<|zlc (xc0 ZmT) (ZpA n Oa w) ?_;rintro _ w ⟨rfl,hS'⟩
 replace hS:=hS.cmp hS';clear hS'
 refine zs5 ?_
 refine zx5<|(zP)<|(zV (xkf Yw))<|(On)<|(zV (xkf Yw))<|(zP)<|zlt<|zcf<|zsk<|ztn<|zsr ?_
 refine(zP)<|(zV (xcv Ws Zau))<|zla (xmk Zb ZJ hS) ?_;rintro v1 w ⟨hS,hv1⟩
 refine(zP)<|zlz<|(On)<|KQ rfl rfl rfl (T7 (q:=0) (r:=1) 0 rfl Zb rfl rfl hS rfl (.inr ⟨rfl,rfl⟩) (hR.below hS.below) Oa Oa Oa (fun _ _ _=>rfl)) ?_;rintro _ w ⟨rfl,hS⟩
 replace hS:=hS.recont 0 rfl (d:=ints (cpyI 0 1 f (fun _=>0))) (fun k k0 k1=>congrFun (Re 0 1 f (fun _=>0)) k)
 refine(zP)<|zlt<|zsq<|zbk<|zlp (fun mm M w=>∃(b:Int) (g:Of),mm=((n-b).toNat)/\(1<=b)/\(b<=n)/\(∀k,0<=k->k<b->g k=f 0)/\M= [(4,Oh),(7,v1),(8,.int Oi b)]/\Sat w0 w [.own v1 1 3 n (ints g)]) ⟨1,(cpyI 0 1 f (fun _=>0)),rfl,Oa,Oa,?_,rfl,hS⟩ ?_
 ·
  intro k k0 k1;obtain rfl:k=0:=Oa
  rfl
 clear hS w
 rintro mm M w ⟨b,g,rfl,h0,h1,hg,rfl,hS⟩
 refine zsq<|zsr<|(On)<|(zV (xln Zb hv1))<|(zP)<|zlt<|Zf ?_ ?_<;>intro hc
 ·
  refine zsk<|ztn<|zbk<|zdst [] [] 1000 mx_ hS ?_;clear hS;intro w hS
  refine zDrv 0 xmv ?_
  obtain⟨q1,hq1⟩:∃q1:Nat,(q1:Int)=b:=⟨b.toNat,Oa⟩
  obtain⟨r1,hr1⟩:∃r1:Int,r1=min (n-b) b:=⟨_,rfl⟩
  refine(zDw 1 xmv)<|(zDw 2 xmv)<|(zDw 3 (ZfP q1 Zb hv1))<|(zDw 4 xmv)<|(zDw 5 xmv)<|(zDw 6 (ZcP q1 Zb hv1 (hS.holds _ (List.mem_of_getElem? (i:=0) rfl)).roomy))<|ZpT 7 rfl rfl rfl rfl (by kernel_rfl) (T7 (q:=q1) (r:=r1) 0 rfl Zb rfl rfl hS rfl (.inl rfl) (Zjd (hS.rowN 0 rfl) Oa) Oa Oa Oa (fun _ _ _=>rfl)) ?_;rintro _ w ⟨rfl,hS⟩
  refine⟨⟨fun _=>hS.nl,hS.nl⟩,?_⟩
  refine zDrv 8 (Zh (r:=b+r1)) ?_
  replace hS:=hS.recont 0 rfl (d:=ints (cpyI q1 r1 g g)) (fun k k0 k1=>congrFun (Re q1 r1 g g) k)
  refine(zDw 9 xas)<|zdd<|zbn<|zlq ⟨b+r1,(cpyI q1 r1 g g),rfl,Oa,Oa,?_,rfl,hS⟩
  ·
   intro k k0 k1;unfold cpyI;split
   · exact hg _ Oa Oa
   · exact hg k k0 Oa
 refine zx8<|(On)<|zx1<|Oj ?_
 obtain rfl:b=n:=Oa
 exact⟨_,rfl,hv1,(hS.recont 0 rfl (d:=ints fun _=>f 0) (fun k k0 k1=>by unfold ints;rw [hg k k0 Oa])).pk [0]⟩
theorem ZoQ{u i i2 k k2:Int}(k0:0<=k)(k1:k<u)(l0:0<=k2)(l1:k2<u)(e:i2*u+k2=i*u+k):i2=i/\k2=k:=by
 have hi:i2=i:=by
   rcases Int.lt_trichotomy i2 i with h|h|h
   · have:=Int.mul_le_mul_of_nonneg_right (show i2+1<=i by omega) (show 0<=u by omega);rw [Int.add_mul] at this;omega
   · exact h
   · have:=Int.mul_le_mul_of_nonneg_right (show i+1<=i2 by omega) (show 0<=u by omega);rw [Int.add_mul] at this;omega
 subst hi
 exact⟨rfl,Oa⟩
theorem Zax{u n i:Int}(u0:0<=u)(i0:0<=i)(i1:i<n):0<=i*u/\i*u+u<=n*u:=by
 refine⟨Int.mul_nonneg i0 u0,?_⟩
 have:=Int.mul_le_mul_of_nonneg_right (show i+1<=n by omega) u0
 rw [Int.add_mul] at this;omega
theorem Zj9{vM:Value}{u:Int}{mv:Int->Value}{ml:Of}{mf:Og}{n:Int}(w0:World)(hM:MAt w0 vM u mv ml mf)(hu:1<=u/\u<=60)(hn:1<=n/\n<=20)(hml:∀k,0<=k->k<u->ml k=n):
   Calls Om 164 [vM,.int Oi n].toArray w0 fun e w=>∃v,e= .returned v/\∃r vv,v=r/\Slh r n/\Sat w0 w [.own r 1 22 n vv,.sem (Frame.rows 3 n vv (fun _=>u) (fun i j=>mf j i))]:=by
 have hnu:=Zax (u:=u) (n:=n+1) (i:=n) Oa Oa Oa
 have k8:=Wx (a:=n) (b:=u) (A:=20) (B:=60) Oa Oa
 refine zenG Tryz.func164 Tryz.ntmps164 fun w hS=> ?_
 refine zsr<|(zP)<|zlz<|(On)<|(zV (xln Zk hM.row.slh))<|(zV (Yi (r:=(n*u)) (e:=rfl)))<|zla (xmk Zb ZJ hS) ?_;rintro v1 w ⟨hS,hv1⟩
 refine(zP)<|zx5<|(zP)<|(zV (xln Zk hM.row.slh))<|(zP)<|zx6<|zlp (fun mm M w=>∃(k:Int) (g:Of),mm=((u-k).toNat)/\(0<=k)/\(k<=u)/\(∀j,0<=j->j<k->∀i,0<=i->i<n->g (i*u+j)=mf j i)/\M= [(0,vM),(1,.int Oi n),(4,Oh),(5,v1),(17,vM),(18,.int Oi u),(19,.int Oi k)]/\Sat w0 w [.own v1 1 3 (n*u) (ints g)]) ⟨0,(fun _=>0),rfl,Oa,Oa,?_,rfl,hS⟩ ?_
 ·
  intro j j0 j1;omega
 clear hS w
 rintro mm M w ⟨k,g,rfl,k0,k1,hg,rfl,hS⟩
 refine zsr<|(zP)<|zx7<|Zf ?_ ?_<;>intro hc
 ·
  refine zx3<|zlv xmv ?_
  have mg:=hml k k0 Oa
  refine(zV (xix (kk:=k) Zk hM.row.slh))<|(zV (xlr (u:=(mv k)) pl_22 (hM.row.below hS.below)))<|(On)<|zlz<|(On)<|zx6<|zlp (fun mm M w=>∃(i:Int) (g:Of),mm=((n-i).toNat)/\(0<=i)/\(i<=n)/\(∀j,0<=j->j<k->∀i,0<=i->i<n->g (i*u+j)=mf j i)/\(∀q,0<=q->q<i->g (q*u+k)=mf k q)/\M= [(0,vM),(1,.int Oi n),(4,Oh),(5,v1),(6,.int Oi k),(7,(mv k)),(17,vM),(18,.int Oi u),(19,.int Oi k),(24,.int Oi n),(25,.int Oi i)]/\Sat w0 w [.own v1 1 3 (n*u) (ints g)]) ⟨0,g,rfl,Oa,Oa,?_,?_,rfl,hS⟩ ?_
  ·
   exact hg
  ·
   intro q q0 q1;omega
  clear hS w
  rintro mm M w ⟨i,g,rfl,i0,i1,hg2,hg3,rfl,hS⟩
  refine zsr<|(zP)<|zx7<|Zf ?_ ?_<;>intro hc
  ·
   refine zx3<|zlv xmv ?_
   have hgr:=Zax (u:=u) (n:=n) Oa i0 Oa
   refine(zP)<|zlt<|zrg<|(Oo)<|(zV (xln Zk hM.row.slh))<|(zV (Yi (r:=(i*u)) (e:=rfl)))<|(zP)<|(zV (Zh (r:=(i*u)+k)))<|(On)<|(zV (xix (kk:=i) Zb (hM.p k Oa Oa).slh))<|(zV (xlr (u:= .int Oi ((mf k) i)) pl_3 ((hM.p k Oa Oa).below hS.below)))<|(zV (xix (kk:=(i*u)+k) Zb hv1))<|zle (xso 0 pl_3 hS (ZD _ _ _)) ?_;clear hS;rintro w hS
   refine zx10<|(zV (Zh (r:=i+1)))<|(zP)<|zln<|zlq ⟨i+1,(upd g ((i*u)+k) ((mf k) i)),rfl,Oa,Oa,?_,?_,rfl,hS⟩
   ·
    intro j j0 j1 q q0 q1;rw [upd_ne _ _ (fun e=>by have:=ZoQ k0 Oa j0 Oa e;omega)];exact hg2 j j0 j1 q q0 q1
   ·
    intro q q0 q1;by_cases e:q=i
    · rw [e,ZC]
    · rw [upd_ne _ _ (fun e9=>e (ZoQ k0 Oa k0 Oa e9).1)];exact hg3 q q0 Oa
  refine zxt<|ztx<|ztx<|zbh<|zbn<|ztn<|zrg<|(zV (Zh (r:=k+1)))<|(zP)<|zln<|zlq ⟨k+1,g,rfl,Oa,Oa,?_,rfl,hS⟩
  ·
   intro j j0 j1 q q0 q1;by_cases e:j=k
   · rw [e];exact hg3 q q0 Oa
   · exact hg2 j j0 Oa q q0 q1
 refine zx8<|(zP)<|zx5<|(On)<|zx6 ?_
 replace hS:=hS.addnil 1 22 (fun _=>Oh)
 replace hS:=hS.addrows 3 (fun _=>Oh) (fun _=>u) (fun i j=>mf j i)
 have aV:=fun k (k0:0<=k) (k1:k<0)=>hS.slhIn 2 rfl k0 k1
 refine zlp (fun mm M w=>∃(nC:Int) (wv:Int->Value) (i:Int) (wC:Value),mm=((n-i).toNat)/\(0<=i)/\(i<=n)/\(nC=i)/\(Slh wC nC)/\M= [(0,vM),(4,Oh),(5,v1),(9,wC),(42,.int Oi n),(43,.int Oi i)]/\Sat w0 w [.own v1 1 3 (n*u) (ints g),.own wC 1 22 nC wv,.sem (Frame.rows 3 nC wv (fun _=>u) (fun i j=>mf j i))]) ⟨0,(fun _=>Oh),0,Oh,rfl,Oa,Oa,Oa,?_,rfl,hS⟩ ?_
 ·
  exact slh_nil
 clear hS w
 rintro mm M w ⟨nC,wv,i,wC,rfl,i0,i1,hnC,hwC,rfl,hS⟩
 have xp:=fun k (k0:0<=k) (k1:k<nC)=>hS.slhIn 2 rfl k0 k1
 refine zsr<|(zP)<|zx7<|Zf ?_ ?_<;>intro hc
 ·
  refine zx3<|zlv xmv ?_
  have hgr:=Zax (u:=u) (n:=n) Oa i0 Oa
  refine(zP)<|zlz<|(zP)<|(zV (xln Zk hM.row.slh))<|zla (xmk Zb ZJ hS) ?_;rintro v2 w ⟨hS,hv2⟩
  refine(zP)<|zlz<|zs4 ?_
  obtain⟨q1,hq1⟩:∃q1:Nat,(q1:Int)=i*u:=⟨(i*u).toNat,Oa⟩
  refine(zV (xln Zk hM.row.slh))<|(zV (Yi (r:=(i*u)) (e:=rfl)))<|(zV (ZfP q1 Zb hv1))<|KQ rfl rfl rfl (T7 (q:=0) (r:=u) 3 rfl Zb rfl rfl hS rfl (.inr ⟨rfl,rfl⟩) ((YV (q:=q1) hv1 (hS.holds _ (List.mem_of_getElem? (i:=0) rfl)).roomy Oa).row Oa (hS.rowN 0 rfl)) Oa Oa Oa (fun _ _ _=>rfl)) ?_;rintro _ w ⟨rfl,hS⟩
  refine zlt<|zrg<|zlv xmv ?_
  replace hS:=hS.recont 3 rfl (d:=ints (cpyI 0 u (fun k=>g (k+(q1:Int))) (fun _=>0))) (fun k k0 k1=>congrFun (Re 0 u (fun k=>g (k+(q1:Int))) (fun _=>0)) k)
  refine(zP)<|zla (xli (n:=1) (len:=1) (pv:= [(0,v2)]) (cs:= [v2]) (c:=(fun _=>v2)) Zk Yl hS (hf:=by obtain⟨_,_,_,_,rfl,_⟩:=hv2;kernel_rfl)) ?_;rintro v3 w ⟨hS,hv3⟩
  refine zla (xap 1 (r:=nC+1) Zk Yl hS (hS.rowN 4 rfl) (WE _ _ _) (h1:=fun _ _ _=>hv2.one)) ?_;rintro v4 w ⟨hS,hv4⟩
  replace hS:=Sat.merge (l1:= [_,_]) (l2:= []) (l3:= [_]) hS Oa
  have za:=fun k (k0:0<=k) (k1:k<nC+1)=>hS.slhIn 2 rfl k0 k1
  refine zlv xas ?_
  replace hS:=hS.rerows (vv':=gsn wv nC v2) (ln':=fun _=>u) (f':=fun i j=>mf j i) 2 rfl (fun k k0 k1=>by
    by_cases e:k<i
    · exact⟨rfl,Zq Oa,fun j _ _=>by rw [Zq Oa]⟩
    · have hki:k=i:=Oa
      refine⟨rfl,?_,fun b b0 b1=> ?_⟩
      · rw [ZB Oa]
      · rw [ZB Oa] at b1
        rw [ZB Oa,hki];unfold cpyI;rw [if_pos Oa];show g (b-(0:Nat)+q1)=_;rw [show b-((0:Nat):Int)+q1=i*u+b by omega];exact hg b b0 Oa i i0 Oa)
  have eX:=fun k (k0:0<=k) (k1:k<nC+1)=>hS.slhIn 2 rfl k0 k1
  refine zx10<|(zV (Zh (r:=i+1)))<|(zP)<|zln<|zlq ⟨nC+1,gsn wv nC v2,i+1,v4,rfl,Oa,Oa,Oa,?_,rfl,hS.pk [0,1,2]⟩
  ·
   exact hv4
 refine zx8<|(On)<|zx1<|Oj ?_
 obtain rfl:i=n:=Oa
 subst hnC
 exact⟨_,_,rfl,hwC,hS.pk [1,2]⟩
theorem Znb:Zd Om 162=true:=Oc
theorem Zna:Zd Om 163=true:=Oc
theorem Zm9:Zd Om 164=true:=Oc
theorem ZhA:Zd Om 91=true:=Oc
def ZgF(p:Prob)(u:Int)(mf:Og):Lp:=⟨u,p.m,p.d,fun _=>1,fun _=>u,fun i j=>mf j i,p.D⟩
def so0(p:Prob):So:=⟨0,p.m,fun _=>0,fun _=>0,0,1⟩
def W4(p:Prob)(u:Int)(ml:Of)(mf:Og):Prop:=p.Ok/\∀k,0<=k->k<u->Z6 p (ml k) (mf k)
def MSolveR (p:Prob) (u:Int) (ml:Of) (mf:Og) (s:So) (e:Int):Prop:=
  (¬W4 p u ml mf/\s=So.zero/\e=1)\/(W4 p u ml mf/\(16<p.m\/60<u)/\s=So.zero/\e=9)\/
    (W4 p u ml mf/\p.m<=16/\u<=60/\u=0/\(∃k,0<=k/\k<p.d/\0<p.D k)/\s=So.zero/\e=19)\/(W4 p u ml mf/\p.m<=16/\u<=60/\u=0/\(∀k,0<=k->k<p.d->p.D k<=0)/\s=so0 p/\e=0)\/
    (W4 p u ml mf/\p.m<=16/\u<=60/\1<=u/\SolveR (ZgF p u mf) s e)
theorem c_msolve{vL vD:Value}{p:Prob}{vM:Value}{u:Int}{mv:Int->Value}{ml:Of}{mf:Og}(w0:World)(h:PAt w0 vL vD p)(hM:MAt w0 vM u mv ml mf):
   Calls Om 87 [.agg #[vL,vD,.int Oi p.stock,.int Oi p.kerf],vM].toArray w0 fun e w=>∃v,e= .returned v/\∃vX vY s e,v= .tuple #[.agg #[vX,vY,.int Oi s.val,.int Oi s.den],.int Oi e]/\MSolveR p u ml mf s e/\Slh vX s.n/\Slh vY s.m/\Sat w0 w [.own vX 1 3 s.n (ints s.X),.own vY 1 3 s.m (ints s.Y)]:=by
 obtain⟨hm,hm1,hd,hd1,hs,hk⟩:=h.Oq
 have hu:=hM.row.slh.n0;have hu1:=hM.row.slh.n1
 refine zenG Tryz.func87 Tryz.ntmps87 fun w hS=> ?_
 refine zsr<|zla (xbx (cs:= [_,_,_,_]) hS) ?_;rintro _ w ⟨g1,rfl,hS⟩
 refine zla (xal (cs:= [_,_,_,_]) Ua hS) ?_;rintro _ w ⟨g2,rfl,hS⟩
 refine(zP)<|zlt<|zsq<|zbk<|zsr<|(zV (xls 0 st_27 hS))<|zlc (xc0 XP) (Ya (p:=p) w (h.below hS.below)) ?_;rintro _ w ⟨rfl,hS'⟩
 replace hS:=hS.cmp hS';clear hS'
 refine(On)<|zlb 10 ?_ ?_<;>intro hc
 ·
  iterate 3 refine zlo ?_
  refine(On)<|zlt<|zct<|zsr ?_
  refine(zV (xany (v:= .agg #[Oh,Oh,.int Oi 0,.int Oi 0])))<|zle (xsw 1 ZT hS) ?_;clear hS;rintro w hS
  refine(zP)<|zlt<|zrt<|zbr<|ztr<|Ym 1 ZT hS ⟨_,rfl,?_⟩
  exact⟨_,_,So.zero,1,rfl,.inl ⟨fun⟨h1,h2⟩=>by
    first
    |exact absurd h1 ‹¬p.Ok›
    |exact hc (h2 q q0 Oa)
    |(obtain⟨k,k0,k1,hk⟩:=‹∃k,0<=k/\k<u/\¬Z6 p (ml k) (mf k)›;exact hk (h2 k k0 k1)),rfl,rfl⟩,slh_nil,slh_nil,((hS.sub (.cons _ (.cons _ .slnil))).addnil 1 3 (ints So.zero.X)).addnil 1 3 (ints So.zero.Y)⟩
 refine(zP)<|(zV xmf)<|zlc (xc0 Zdy) (Zio (p:=p) (u:=u) (ml:=ml) (mf:=mf) w (hS.holds _ (List.mem_of_getElem? (i:=0) rfl)) (h.below hS.below) (hM.below hS.below)) ?_;rintro _ w ⟨rfl,hS'⟩
 replace hS:=hS.cmp hS';clear hS'
 refine(On)<|zlt<|Zf ?_ ?_<;>intro hc
 ·
  refine zsr<|(zV (xany (v:= .agg #[Oh,Oh,.int Oi 0,.int Oi 0])))<|zle (xsw 1 ZT hS) ?_;clear hS;rintro w hS
  refine(zP)<|zlt<|zrt<|zbr<|ztr<|Ym 1 ZT hS ⟨_,rfl,?_⟩
  exact⟨_,_,So.zero,1,rfl,.inl ⟨fun⟨h1,h2⟩=>by
    first
    |exact absurd h1 ‹¬p.Ok›
    |exact hc (h2 q q0 Oa)
    |(obtain⟨k,k0,k1,hk⟩:=‹∃k,0<=k/\k<u/\¬Z6 p (ml k) (mf k)›;exact hk (h2 k k0 k1)),rfl,rfl⟩,slh_nil,slh_nil,((hS.sub (.cons _ (.cons _ .slnil))).addnil 1 3 (ints So.zero.X)).addnil 1 3 (ints So.zero.Y)⟩
 refine zsr<|zlv (xfb 0 fd_27_0) ?_
 have hok:p.Ok:=by first|assumption|exact Od ‹_›
 have hpr:∀k,0<=k->k<u->Z6 p (ml k) (mf k):=fun k k0 k1=>Od fun hh=>‹¬∃k,0<=k/\k<u/\¬Z6 p (ml k) (mf k)› ⟨k,k0,k1,hh⟩
 have hpd:=hok.d;have hpm:=hok.m1;have xb:=hok.m2
 refine(zV (xlb 0 pl_22 hS))<|(zV (xln Zb h.L.slh))<|(On)<|zlb 21 ?_ ?_<;>intro hc
 ·
  iterate 3 refine zlo ?_
  refine(On)<|zlt<|zct<|zsr ?_
  refine(zV (xany (v:= .agg #[Oh,Oh,.int Oi 0,.int Oi 0])))<|zle (xsw 1 ZT hS) ?_;clear hS;rintro w hS
  refine(zP)<|zlt<|zrt<|zbr<|ztr<|Ym 1 ZT hS ⟨_,rfl,?_⟩
  exact⟨_,_,So.zero,9,rfl,.inr (.inl ⟨⟨hok,hpr⟩,Oa,rfl,rfl⟩),slh_nil,slh_nil,((hS.sub (.cons _ (.cons _ .slnil))).addnil 1 3 (ints So.zero.X)).addnil 1 3 (ints So.zero.Y)⟩
 refine(zP)<|(zV (xln Zk hM.row.slh))<|(Oo)<|zlt<|Zf ?_ ?_<;>intro hc
 ·
  refine zsr<|(zV (xany (v:= .agg #[Oh,Oh,.int Oi 0,.int Oi 0])))<|zle (xsw 1 ZT hS) ?_;clear hS;rintro w hS
  refine(zP)<|zlt<|zrt<|zbr<|ztr<|Ym 1 ZT hS ⟨_,rfl,?_⟩
  exact⟨_,_,So.zero,9,rfl,.inr (.inl ⟨⟨hok,hpr⟩,Oa,rfl,rfl⟩),slh_nil,slh_nil,((hS.sub (.cons _ (.cons _ .slnil))).addnil 1 3 (ints So.zero.X)).addnil 1 3 (ints So.zero.Y)⟩
 refine zsr<|(zP)<|(zV (xln Zk hM.row.slh))<|(On)<|zlb 31 ?_ ?_<;>intro hc
 ·
  refine(zV (xfb 1 fd_27_1))<|(zV (xlb 0 pl_22 hS))<|zlc (xc0 ZhA) (Zic (n:=p.d) (f:=p.D) w (h.D.below hS.below) Oa) ?_;rintro _ w ⟨x1,rfl,ya,yA,hS'⟩
  replace hS:=hS.cmp hS';clear hS'
  refine(Oo)<|zlt<|Zf ?_ ?_<;>intro hc
  ·
   refine zsr<|(zV (xany (v:= .agg #[Oh,Oh,.int Oi 0,.int Oi 0])))<|zle (xsw 1 ZT hS) ?_;clear hS;rintro w hS
   refine(zP)<|zlt<|zrt<|zbr<|ztr<|Ym 1 ZT hS ⟨_,rfl,?_⟩
   exact⟨_,_,So.zero,19,rfl,.inr (.inr (.inl ⟨⟨hok,hpr⟩,Oa,Oa,Oa,by first|(obtain⟨k,k0,k1,hk⟩:=ya;exact⟨k,k0,k1,Oa⟩)|exact⟨_,‹0<=j›,‹j<p.d›,‹_›⟩|exact⟨j,Oa,Oa,Oa⟩,rfl,rfl⟩)),slh_nil,slh_nil,((hS.sub (.cons _ (.cons _ .slnil))).addnil 1 3 (ints So.zero.X)).addnil 1 3 (ints So.zero.Y)⟩
  refine zsr<|(zP)<|(zV (xln Zk hM.row.slh))<|(zV (xkt YT))<|(zP)<|zlt<|zct<|zsr ?_
  refine(zV (xfb 0 fd_27_0))<|(zV (xlb 0 pl_22 hS))<|(zV (xln Zb h.L.slh))<|zla (xmk Zb ZJ hS) ?_;rintro v1 w ⟨hS,hv1⟩
  refine zlv (xany (v:= .agg #[Oh,v1,.int Oi 0,.int Oi 1]) (hr:=by obtain⟨_,_,_,_,rfl,_⟩:=hv1;kernel_rfl)) ?_
  refine zle (xsw 1 ZT hS (hd:=(Za rfl (Za hv1.one (Za rfl (Za rfl Zi)))))) ?_;clear hS;rintro w hS
  refine(zP)<|zlt<|zrt<|zbr<|ztr<|Ym 1 ZT hS ⟨_,rfl,?_⟩
  exact⟨_,_,so0 p,0,rfl,.inr (.inr (.inr (.inl ⟨⟨hok,hpr⟩,Oa,Oa,Oa,(fun k k0 k1=>by first|(have:=yA k k0 k1;omega)|(have:=qa k k0 Oa;omega)),rfl,rfl⟩))),slh_nil,hv1,(hS.addnil 1 3 (ints fun _=>0)).pk [3,2]⟩
 iterate 4 refine zlo ?_
 refine(On)<|zlt<|zcf<|zsr ?_
 refine(zP)<|(zV (xln Zk hM.row.slh))<|(On)<|zlt<|Zf ?_ ?_<;>intro hc
 ·
  exfalso;omega
 refine zsk<|zbn<|ztn<|zsq<|zdst [0,1] [0] 16 mx_ hS ?_;clear hS;intro w hS
 refine(zDw 1 xmv)<|(zDw 2 (xln Zk hM.row.slh))<|(zDw 4 xmv)<|(zDw 5 (xfb 0 fd_27_0))<|(zDl 6 (fun w hS=>(xlb 0 pl_22 hS)))<|(zDw 7 (xln Zb h.L.slh))<|(zDw 9 (xfb 1 fd_27_1))<|(zDl 10 (fun w hS=>(xlb 0 pl_22 hS)))<|zda 0 (xli (n:=1) (len:=1) (pv:= [(0,.int Oi 1)]) (cs:= [.int Oi 1]) (c:=ints (fun _=>1)) Zb ZJ hS) ?_;rintro v2 w ⟨hS,hv2⟩
 refine⟨⟨fun _=>hS.pk [0,1],hS.pk [0]⟩,?_⟩
 refine zdc 3 (xc0 Zna) (Zh2 (n:=u) w (hS.rowN 2 rfl) Oa) ?_;rintro dR w ⟨_,rfl,eJ,hS'⟩
 replace hS:=(hS.comp hS').n4;clear hS'
 refine⟨⟨fun _=>hS.pk [0,1],hS.pk [0]⟩,?_⟩
 refine zdc 8 (xc0 Zm9) (Zj9 (n:=p.m) w (hM.below hS.below) Oa Oa (fun k k0 k1=>(hpr k k0 k1).1.eq)) ?_;rintro cT w ⟨_,eo,rfl,eH,hS'⟩
 replace hS:=(hS.comp hS').n6;clear hS'
 have kh:=fun k (k0:0<=k) (k1:k<p.m)=>hS.slhIn 5 rfl k0 k1
 refine⟨⟨fun _=>hS.pk [0,1],hS.pk [0]⟩,?_⟩
 refine zdc 11 (xc0 cl_66) (c_clone (n:=p.d) (f:=p.D) w (h.D.below hS.below) Oa) ?_;rintro vq2 w ⟨_,rfl,qg,hS'⟩
 replace hS:=(hS.comp hS').n7;clear hS'
 refine⟨⟨fun _=>hS.pk [0,1],hS.pk [0]⟩,?_⟩
 refine zDrv 12 (xany (v:= .agg #[dR,cT,vq2]) (hr:=by obtain⟨_,_,_,_,rfl,_⟩:=eJ;obtain⟨_,_,_,_,rfl,_⟩:=eH;obtain⟨_,_,_,_,rfl,_⟩:=qg;kernel_rfl)) ?_
 refine zdc 13 (xc0 Znb) (Zkd (p:=(⟨u,p.m,p.d,(fun _=>(fun _=>1) 0),(fun _=>u),(fun i j=>mf j i),p.D⟩:Lp)) w (⟨(hS.rowN 3 rfl),(⟨(hS.rowN 4 rfl),fun k k0 k1=>hS.rowIn 5 rfl k0 k1,fun k k0 k1=>hS.roomIn 5 rfl k0 k1⟩:MAt _ cT p.m eo (fun _=>u) (fun i j=>mf j i)),(hS.rowN 6 rfl)⟩:LAt _ dR cT vq2 eo (⟨u,p.m,p.d,(fun _=>(fun _=>1) 0),(fun _=>u),(fun i j=>mf j i),p.D⟩:Lp))) ?_;rintro _ w ⟨kO,kN,ss1,es1,rfl,eS,cu,cr,hS'⟩
 replace hS:=(hS.comp hS').n9;clear hS'
 refine⟨⟨fun _=>hS.pk [0,1],hS.pk [0]⟩,?_⟩
 refine(zDw 14 xex)<|(zDw 15 xex)<|zde 16 (xsw 1 ZT hS (hd:=(Za cu.one (Za cr.one (Za rfl (Za rfl Zi)))))) ?_;clear hS;rintro w hS
 refine⟨⟨fun h=>absurd h (by decide),hS.pk [0]⟩,?_⟩
 refine(zDw 17 xas)<|zdd<|ztn<|zrt<|Ym 1 ZT hS ⟨_,rfl,?_⟩
 exact⟨_,_,ss1,_,rfl,.inr (.inr (.inr (.inr ⟨⟨hok,hpr⟩,Oa,Oa,Oa,eS⟩))),cu,cr,hS.pk [7,8]⟩
def Zla(u u2:Int)(ml ml2:Of)(mf mf2:Og):Prop:=u=u2/\∀k,0<=k->k<u->ml k=ml2 k/\∀j,0<=j->j<ml k->mf k j=mf2 k j
theorem ZgW{x y:Int}(hx:0<=x)(hy:0<y):Int.gcd y (x.tmod y)=Int.gcd x y:=by
 rw [Int.tmod_eq_emod_of_nonneg hx]
 obtain⟨m,rfl⟩:=Int.eq_ofNat_of_zero_le hx
 obtain⟨n,rfl⟩:=Int.eq_ofNat_of_zero_le (show 0<=y by omega)
 show Nat.gcd n (m%n)=Nat.gcd m n
 rw [Nat.gcd_comm,<-Nat.gcd_rec,Nat.gcd_comm]
theorem ZpD{x y:Int}(w0:World)(hx0:0<=x/\x<=9223372036854775807)(hy0:0<=y/\y<=9223372036854775807):
   Calls Om 281 [.int Oi x,.int Oi y].toArray w0 fun e w=>∃v,e= .returned v/\v= .int Oi (Int.gcd x y)/\Sat w0 w []:=by
 refine zenG Tryz.func281 Tryz.ntmps281 fun w hS=> ?_
 refine zsr<|(zP)<|zlt<|zsq<|zbk<|zlp (fun mm M w=>∃(x1:Int) (y1:Int),mm=y1.toNat/\(0<=x1)/\(x1<=9223372036854775807)/\(0<=y1)/\(y1<=9223372036854775807)/\(Int.gcd x1 y1=Int.gcd x y)/\M= [(0,.int Oi x1),(1,.int Oi y1),(4,.int Oi 0)]/\Sat w0 w []) ⟨x,y,rfl,Oa,Oa,Oa,?_,?_,rfl,hS⟩ ?_
 ·
  omega
 ·
  rfl
 clear hS w
 rintro mm M w ⟨x1,y1,rfl,hx,hx1,hy,hy1,hgc,rfl,hS⟩
 have htn:=Int.tmod_nonneg y1 hx
 refine zsq<|zsr<|(On)<|zlt<|Zf ?_ ?_<;>intro hc
 ·
  refine zsk<|ztn<|zbk<|zdst [] [] 1000 mx_ hS ?_;clear hS;intro w hS
  refine(zDw 0 xmv)<|(zDw 1 xmv)<|(zDw 2 xmv)<|(zDw 3 (ZfQ (r:=(Int.tmod x1 y1))))<|(zDw 4 xas)<|(zDw 5 xas)<|zdd<|zbn<|zlq ⟨y1,(Int.tmod x1 y1),rfl,Oa,Oa,Oa,?_,?_,rfl,hS⟩ (hlt:=(by have:=Int.tmod_lt_of_pos x1 (show 0<y1 by omega);omega))
  ·
   have:=Int.tmod_lt_of_pos x1 (show 0<y1 by omega);omega
  ·
   rw [ZgW hx Oa];exact hgc
 refine zx8<|(On)<|zx1<|Oj ?_
 obtain rfl:y1=0:=Oa
 exact⟨by rw [<-hgc,Int.gcd_zero_right];congr 1;omega,hS⟩
end Go.Proofs.YtpnamgfdakfccaaGreat
