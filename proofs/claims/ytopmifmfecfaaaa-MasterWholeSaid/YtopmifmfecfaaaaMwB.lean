/- Part 2 of the texts that the proof needs. -/
import Derived.Test.YtopmifmfecfaaaaMwA
set_option linter.unusedVariables false
set_option linter.unusedSimpArgs false
namespace Go.Proofs.Ytopmifmfecfaaaa
open Go Go.RowKit Go.Proofs.Gw
theorem cl_111:Zd Try.prog 111=true:=by kernel_rfl
theorem Zbu:Zd Try.prog 112=true:=by kernel_rfl
theorem RZ:Zd Try.prog 113=true:=by kernel_rfl
theorem Vx:Zd Try.prog 114=true:=by kernel_rfl
theorem Vw:Zd Try.prog 115=true:=by kernel_rfl
theorem Zbt:Zd Try.prog 120=true:=by kernel_rfl
theorem Zbs:Zd Try.prog 121=true:=by kernel_rfl
theorem Zbr:Zd Try.prog 122=true:=by kernel_rfl
theorem Zbq:Zd Try.prog 123=true:=by kernel_rfl
theorem Zbp:Zd Try.prog 124=true:=by kernel_rfl
theorem Zbo:Zd Try.prog 129=true:=by kernel_rfl
theorem Zbn:Zd Try.prog 130=true:=by kernel_rfl
theorem Zbm:Zd Try.prog 132=true:=by kernel_rfl
theorem Zbl:Zd Try.prog 134=true:=by kernel_rfl
theorem cl_35:Zd Try.prog 35=true:=by kernel_rfl
theorem XA:Zd Try.prog 42=true:=by kernel_rfl
theorem RW:Zd Try.prog 69=true:=by kernel_rfl
theorem cl_75:Zd Try.prog 75=true:=by kernel_rfl
theorem ZaA:Zd Try.prog 78=true:=by kernel_rfl
theorem Yd:ZV Try.prog 108=some (.agg #[.int .i64 0,.int .i64 0,.slice none 0 0,.slice none 0 0,.slice none 0 0],5,88):=by kernel_rfl
theorem YA:ZV Try.prog 22=some (.slice none 0 0,1,24):=by kernel_rfl
theorem ZG:ZV Try.prog 3=some (.int .i64 0,1,8):=by kernel_rfl
theorem fd_108_0:Zr Try.prog 108 0=some 0:=by kernel_rfl
theorem fd_108_1:Zr Try.prog 108 1=some 1:=by kernel_rfl
theorem fd_108_2:Zr Try.prog 108 2=some 2:=by kernel_rfl
theorem fd_108_3:Zr Try.prog 108 3=some 3:=by kernel_rfl
theorem fd_108_4:Zr Try.prog 108 4=some 4:=by kernel_rfl
theorem mx_:Try.prog.follows .mixedOrders=true:=by kernel_rfl
theorem pl_22:ZE Try.prog 22=true:=by kernel_rfl
theorem pl_3:ZE Try.prog 3=true:=by kernel_rfl
theorem pl_32:ZE Try.prog 32=true:=by kernel_rfl
theorem sl_22:Zo Try.prog 22=some (3,1):=by kernel_rfl
theorem sl_32:Zo Try.prog 32=some (22,1):=by kernel_rfl
theorem st_108:Zv Try.prog 108=some 5:=by kernel_rfl
theorem ZbG{x m:Int}{a1:Addr}(w0:World)(hp1:w0.cell? a1=some (.int .i64 m))(hm:0<=m/\m<=1099511627776):
    Calls Try.prog 120 [.int .i64 x,.pointer (some a1)].toArray w0 fun e w=>∃v,e= .returned v/\v=B (¬(-m<=x/\x<=m))/\Sat w0 w []:=by
  refine Zn Try.func120 Try.ntmps120 fun w hS=> ?_
  refine zsr ?_
  refine zlv xas ?_
  refine zlz ?_
  refine zlv xmv ?_
  refine zlv (xlf pl_3 hp1 hS) ?_
  refine zlv (xneg (r:= -m)) ?_
  refine zs2 ?_
  refine zlb 8 ?_ ?_<;>intro hc
  ·
   iterate 3 refine zlo ?_
   refine zs2 ?_
   refine zx1<|zf1 ⟨_,rfl,?_⟩
   exact⟨ZW (by omega),hS⟩
  refine zlv xmv ?_
  refine zlv (xlf pl_3 hp1 hS) ?_
  refine zs3 ?_
  refine zx1<|zf1 ⟨_,rfl,?_⟩
  exact⟨Zw (by omega),hS⟩
theorem Zaj{v:Value}{n m:Int}{f:Int->Int}{a1:Addr}(w0:World)(hR:Row w0 v 1 n (ints f))(hp1:w0.cell? a1=some (.int .i64 m))(hm:0<=m/\m<=1099511627776):
    Calls Try.prog 78 [v,.func (.func 120) #[] #[.pointer (some a1)]].toArray w0 fun e w=>∃v,e= .returned v/\∃r:Int,v= .int .i64 r/\((r= -1/\∀k,0<=k->k<n->¬(¬(-m<=f k/\f k<=m)))\/(0<=r/\r<n/\(¬(-m<=f r/\f r<=m))))/\Sat w0 w []:=by
  have hn:=hR.slh.n0;have hn1:=hR.slh.n1
  refine Zn Try.func78 Try.ntmps78 fun w hS=> ?_
  refine zsr ?_
  refine zlv xas ?_
  refine zx5 ?_
  refine zlv xmv ?_
  refine zlv (xln sl_22 hR.slh) ?_
  refine zlv xmv ?_
  refine zx6<|zlp (fun mm M w=>∃(i:Int),mm=((n-i).toNat)/\(0<=i)/\(i<=n)/\(∀k,0<=k->k<i->¬(¬(-m<=f k/\f k<=m)))/\M= [(0,v),(1,.func (.func 120) #[] #[.pointer (some a1)]),(7,.int .i64 n),(8,.int .i64 i)]/\Sat w0 w []) ⟨0,rfl,(by omega),(by omega),?_,rfl,hS⟩ ?_
  ·
   intro k h0 h1;omega
  clear hS w
  rintro mm M w ⟨i,rfl,h0,h1,hall,rfl,hS⟩
  refine zsr ?_
  refine zlv Zk ?_
  refine zlt<|zsq ?_
  refine zcif ?_ ?_<;>intro hc
  ·
   refine zx3 ?_
   refine zs2 ?_
   refine zlz ?_
   refine zs3 ?_
   refine zlv (xix (kk:=i) sl_22 hR.slh) ?_
   refine zlv (xlr (u:= .int .i64 (f i)) pl_3 (hR.below hS.below)) ?_
   refine zlc (xcc (vs:= [_]) Zbt) (ZbG (x:=(f i)) (m:=m) w (hS.ref hp1) hm) ?_;rintro _ w ⟨rfl,hS'⟩
   replace hS:=hS.cmp hS';clear hS'
   refine zlt ?_
   refine zcif ?_ ?_<;>intro hc
   ·
    refine zsr ?_
    refine zs2 ?_
    refine zx2<|zf1 ⟨_,rfl,?_⟩
    exact⟨i,rfl,.inr ⟨by omega,by omega,‹¬(-m<=f i/\f i<=m)›⟩,hS⟩
   refine zx4 ?_
   refine zlv (xadd (r:=i+1)) ?_
   refine zlv xmv ?_
   refine zln<|zlq ⟨i+1,rfl,(by omega),(by omega),?_,rfl,hS⟩
   ·
    intro k h0' h1';rcases Int.lt_or_eq_of_le (show k<=i by omega) with hk|hk;exact hall k h0' hk;rw [hk];assumption
  refine zx8 ?_
  refine zlv xas ?_
  refine zx1<|zf1 ⟨_,rfl,?_⟩
  exact⟨-1,rfl,.inl ⟨rfl,fun k h0 h1=>hall k h0 (by omega)⟩,hS⟩
theorem Zal{v:Value}{n m:Int}{f:Int->Int}{a1:Addr}(w0:World)(hR:Row w0 v 1 n (ints f))(hp1:w0.cell? a1=some (.int .i64 m))(hm:0<=m/\m<=1099511627776):
    Calls Try.prog 75 [v,.func (.func 120) #[] #[.pointer (some a1)]].toArray w0 fun e w=>∃v,e= .returned v/\v=B (∃k,0<=k/\k<n/\(¬(-m<=f k/\f k<=m)))/\Sat w0 w []:=by
  refine Zn Try.func75 Try.ntmps75 fun w hS=> ?_
  refine zsr ?_
  refine zlv xas ?_
  refine zlz ?_
  refine zs2 ?_
  refine zlc (xc0 ZaA) (Zaj w (hR.below hS.below) (hS.ref hp1) hm) ?_;rintro _ w ⟨r1,rfl,hr1,hS'⟩
  replace hS:=hS.cmp hS';clear hS'
  refine zs2 ?_
  refine zx1<|zf1 ⟨_,rfl,?_⟩
  exact⟨Zw (by
   rcases hr1 with⟨h1,h2⟩|⟨h1,h2,h3⟩
   · exact⟨fun h=>by omega,fun⟨k,h4,h5,h6⟩=>absurd h6 (h2 k h4 h5)⟩
   · exact⟨fun _=>⟨_,h1,h2,h3⟩,fun _=>h1⟩),hS⟩
theorem c_between{v:Value}{n m:Int}{f:Int->Int}(w0:World)(hR:Row w0 v 1 n (ints f))(hm:0<=m/\m<=1099511627776):
    Calls Try.prog 111 [v,.int .i64 m].toArray w0 fun e w=>∃v,e= .returned v/\v=B (Btw f n m)/\Sat w0 w []:=by
  refine Zn Try.func111 Try.ntmps111 fun w hS=> ?_
  refine zsr ?_
  refine zla (xbx (cs:= [_]) hS) ?_;rintro _ w ⟨g1,rfl,hS⟩
  replace hS:=hS.n1
  refine zlv xas ?_
  refine zlz ?_
  refine zlv xmv ?_
  refine zlv xmf ?_
  refine zlc (xc0 cl_75) (Zal (m:=m) w (hR.below hS.below) (hS.cellN 0 rfl rfl) hm) ?_;rintro _ w ⟨rfl,hS'⟩
  replace hS:=hS.cmp hS';clear hS'
  refine zs2 ?_
  refine zx1<|zf1 ⟨_,rfl,?_⟩
  exact⟨Zw ⟨fun h k k0 k1=>Classical.not_not.1 fun hh=>h ⟨k,k0,k1,hh⟩,fun h ⟨k,k0,k1,hh⟩=>hh (h k k0 k1)⟩,hS.nl⟩
set_option maxRecDepth 20000 in
theorem ZaF{v:Value}{n:Int}{f:Int->Int}(w0:World)(hR:Row w0 v 1 n (ints f))(hn:1<=n):
    Calls Try.prog 113 [v].toArray w0 fun e w=>∃v,e= .returned v/\∃x:Int,v= .int .i64 x/\(∃k,0<=k/\k<n/\f k=x)/\(∀k,0<=k->k<n->x<=f k)/\Sat w0 w []:=by
  have hn1:=hR.slh.n1
  refine Zn Try.func113 Try.ntmps113 fun w hS=> ?_
  refine zsr ?_
  refine zlv xas ?_
  refine zx5 ?_
  refine zlv xmv ?_
  refine zlv (xln sl_22 hR.slh) ?_
  refine zlv (xkf Zk) ?_
  refine zlt<|zcf<|zsk<|ztn<|zsr ?_
  refine zlv xmv ?_
  refine zlv (xix (kk:=0) sl_22 hR.slh) ?_
  refine zlv (xlr (u:= .int .i64 (f 0)) pl_3 (hR.below hS.below)) ?_
  refine zlv xas ?_
  refine zx5 ?_
  refine zlv xas ?_
  refine zx6<|zlp (fun mm M w=>∃(x:Int) (i:Int),mm=((n-i).toNat)/\(1<=i)/\(i<=n)/\(∃k,0<=k/\k<n/\f k=x)/\(∀k,0<=k->k<i->x<=f k)/\M= [(0,v),(2,.int .i64 0),(3,.int .i64 x),(4,.int .i64 i)]/\Sat w0 w []) ⟨(f 0),1,rfl,(by omega),(by omega),?_,?_,rfl,hS⟩ ?_
  ·
   exact⟨0,by omega,by omega,rfl⟩
  ·
   intro k k0 k1;rw [show k=0 by omega];exact Int.le_refl _
  clear hS w
  rintro mm M w ⟨x,i,rfl,h0,h1,hex,hall,rfl,hS⟩
  refine zsq<|zsr ?_
  refine zs2 ?_
  refine zlv (xln sl_22 hR.slh) ?_
  refine zlv Zk ?_
  refine zlt ?_
  refine zcif ?_ ?_<;>intro hc
  ·
   refine zsk<|ztn<|zsq<|zbk<|zrg ?_
   refine zs3 ?_
   refine zlv (xix (kk:=i) sl_22 hR.slh) ?_
   refine zlv (xlr (u:= .int .i64 (f i)) pl_3 (hR.below hS.below)) ?_
   refine zlv (ZaH (r:=(min x (f i)))) ?_
   refine zlv xas ?_
   refine zx10 ?_
   refine zlv xmv ?_
   refine zlv (xadd (r:=i+1)) ?_
   refine zlv xas ?_
   refine zln<|zlq ⟨(min x (f i)),i+1,rfl,(by omega),(by omega),?_,?_,rfl,hS⟩
   ·
    rcases Int.le_total x (f i) with hh|hh
    · first|(rw [Int.min_eq_left hh];exact hex)|(rw [Int.min_eq_right hh];exact⟨i,by omega,by omega,rfl⟩)
    · first|(rw [Int.min_eq_right hh];exact⟨i,by omega,by omega,rfl⟩)|(rw [Int.min_eq_left hh];exact hex)
   ·
    intro k k0 k1;rcases Int.lt_or_eq_of_le (show k<=i by omega) with hk|hk
    · have:=hall k k0 hk;omega
    · rw [hk];omega
  refine zx8 ?_
  refine zs2 ?_
  refine zx1<|zf1 ⟨_,rfl,?_⟩
  exact⟨_,rfl,hex,fun k k0 k1=>hall k k0 (by omega),hS⟩
set_option maxRecDepth 20000 in
theorem c_max{v:Value}{n:Int}{f:Int->Int}(w0:World)(hR:Row w0 v 1 n (ints f))(hn:1<=n):
    Calls Try.prog 38 [v].toArray w0 fun e w=>∃v,e= .returned v/\∃x:Int,v= .int .i64 x/\(∃k,0<=k/\k<n/\f k=x)/\(∀k,0<=k->k<n->f k<=x)/\Sat w0 w []:=by
  have hn1:=hR.slh.n1
  refine Zn Try.func38 Try.ntmps38 fun w hS=> ?_
  refine zsr ?_
  refine zlv xas ?_
  refine zx5 ?_
  refine zlv xmv ?_
  refine zlv (xln sl_22 hR.slh) ?_
  refine zlv (xkf Zk) ?_
  refine zlt<|zcf<|zsk<|ztn<|zsr ?_
  refine zlv xmv ?_
  refine zlv (xix (kk:=0) sl_22 hR.slh) ?_
  refine zlv (xlr (u:= .int .i64 (f 0)) pl_3 (hR.below hS.below)) ?_
  refine zlv xas ?_
  refine zx5 ?_
  refine zlv xas ?_
  refine zx6<|zlp (fun mm M w=>∃(x:Int) (i:Int),mm=((n-i).toNat)/\(1<=i)/\(i<=n)/\(∃k,0<=k/\k<n/\f k=x)/\(∀k,0<=k->k<i->f k<=x)/\M= [(0,v),(2,.int .i64 0),(3,.int .i64 x),(4,.int .i64 i)]/\Sat w0 w []) ⟨(f 0),1,rfl,(by omega),(by omega),?_,?_,rfl,hS⟩ ?_
  ·
   exact⟨0,by omega,by omega,rfl⟩
  ·
   intro k k0 k1;rw [show k=0 by omega];exact Int.le_refl _
  clear hS w
  rintro mm M w ⟨x,i,rfl,h0,h1,hex,hall,rfl,hS⟩
  refine zsq<|zsr ?_
  refine zs2 ?_
  refine zlv (xln sl_22 hR.slh) ?_
  refine zlv Zk ?_
  refine zlt ?_
  refine zcif ?_ ?_<;>intro hc
  ·
   refine zsk<|ztn<|zsq<|zbk<|zrg ?_
   refine zs3 ?_
   refine zlv (xix (kk:=i) sl_22 hR.slh) ?_
   refine zlv (xlr (u:= .int .i64 (f i)) pl_3 (hR.below hS.below)) ?_
   refine zlv (ZcD (r:=(max x (f i)))) ?_
   refine zlv xas ?_
   refine zx10 ?_
   refine zlv xmv ?_
   refine zlv (xadd (r:=i+1)) ?_
   refine zlv xas ?_
   refine zln<|zlq ⟨(max x (f i)),i+1,rfl,(by omega),(by omega),?_,?_,rfl,hS⟩
   ·
    rcases Int.le_total x (f i) with hh|hh
    · first|(rw [Int.max_eq_left hh];exact hex)|(rw [Int.max_eq_right hh];exact⟨i,by omega,by omega,rfl⟩)
    · first|(rw [Int.max_eq_right hh];exact⟨i,by omega,by omega,rfl⟩)|(rw [Int.max_eq_left hh];exact hex)
   ·
    intro k k0 k1;rcases Int.lt_or_eq_of_le (show k<=i by omega) with hk|hk
    · have:=hall k k0 hk;omega
    · rw [hk];omega
  refine zx8 ?_
  refine zs2 ?_
  refine zx1<|zf1 ⟨_,rfl,?_⟩
  exact⟨_,rfl,hex,fun k k0 k1=>hall k k0 (by omega),hS⟩
theorem Yq {v:Value} {n:Int} {f:Int->Int} (w0:World) (hR:Row w0 v 1 n (ints f)) (hn:n<=1000000):Calls Try.prog 42 [v].toArray w0 fun e w=>∃u,e= .returned u/\∃r,u=r/\Slh r n/\Sat w0 w [.own r 1 3 n (ints f)]:=by
  have hn0:=hR.slh.n0
  have hl:=Zm f n
  have fin:∀{r:Value} {w:World} {xs:List Value},w.ownsRow w0.heap.size 3 1 r n.toNat xs->xs=cellsOf (ints f) n.toNat->Below w0.heap.size w0 w->Slh r n/\Sat w0 w [.own r 1 3 n (ints f)]:=fun {r w xs} hrow hxs hB=>by
    subst hxs
    have hE:(Ent.own r 1 3 n (ints f)).holds w:=Ent.holds.of_owns hn0 (by omega) (by rw [Nat.mul_one];exact hrow)
    exact⟨hE.row.slh,hB,fun e he=>by obtain rfl:=List.mem_singleton.1 he;exact hE,fun e he g hg=>by obtain rfl:=List.mem_singleton.1 he;exact(hrow.lt g hg).1,List.pairwise_singleton _ _⟩
  obtain⟨_,_,a,cap,rfl,h⟩:=hR.slh
  cases a with
  | none=>
    have h0:n=0:=by rcases h with h|⟨_,_,h⟩;exact h;cases h
    subst h0
    refine(slices_Clone_int_nil 0 cap w0).mono fun e w ⟨he,hw⟩=>⟨_,he,_,rfl,slh_nil,?_⟩
    rw [hw]
    exact(Sat.start w0).addnil 1 3 (ints f)
  | some ad=>
    rcases h with h|⟨b,off,h⟩
    · subst h
      refine(slices_Clone_int_zero ad cap w0).mono fun e w ⟨r,he,hrow,_,hB⟩=>⟨r,he,r,rfl,?_⟩
      exact fin hrow rfl hB
    · cases h
      refine(slices_Clone_int b off n.toNat cap (Zg f n) w0 (by omega) (by omega) (fun j hj=> ?_)).mono fun e w ⟨r,he,hrow,_,hB⟩=>⟨r,he,r,rfl,fin hrow ?_ hB⟩
      · have:=hR.2 j (by omega)
        simp only [cad,Int.toNat_natCast] at this
        rw [this]
        rw [hl] at hj
        simp [ints,Zg,hj]
      · rw [List.take_of_length_le (by omega),XN];rfl
set_option maxRecDepth 20000 in
theorem ZbC{n:Int}(w0:World)(h0:0<=n)(h1:n<=1000000):
    Calls Try.prog 132 [.slice none 0 0,.int .i64 n].toArray w0 fun e w=>∃v,e= .returned v/\∃r,v=r/\Slh r 0/\Sat w0 w [.own r 1 3 0 (ints (fun _=>0))]:=by
  refine Zn Try.func132 Try.ntmps132 fun w hS=> ?_
  refine zsr ?_
  refine zlv xas ?_
  refine zx5 ?_
  refine zlv xmv ?_
  refine zlv (xkf Zk) ?_
  refine zlt<|zcf<|zsk<|ztn<|zsq<|zsr ?_
  refine zs2 ?_
  refine zlvr rfl rfl rfl (ex_cap_nil rfl sl_22 rfl) ?_
  refine zlv xmv ?_
  refine zlv (xln sl_22 slh_nil) ?_
  refine zlv (xsub (r:=0)) ?_
  refine zlv (xsub (r:=n)) ?_
  refine zlv xas ?_
  refine zlz ?_
  refine zs2 ?_
  refine zlt ?_
  refine zcif ?_ ?_<;>intro hc
  ·
   refine zrg ?_
   refine zs2 ?_
   refine zlvr rfl rfl rfl (ex_cap_nil rfl sl_22 rfl) ?_
   refine zlv (xany (v:= .slice none 0 0)) ?_
   refine zlv xmv ?_
   refine Kk rfl rfl rfl (Wp rfl sl_22 Try.underlying3 ZG rfl (by omega) rfl rfl (by omega) (by omega) hS) ?_;rintro v1 w ⟨hS,hv1⟩
   replace hS:=hS.n1
   refine zlv xmv ?_
   refine zlv (xln sl_22 slh_nil) ?_
   refine zlvr rfl rfl rfl (Vo rfl sl_22 rfl rfl hv1) ?_
   replace hS:=hS.cut 0 rfl (ints (fun _=>0))
   replace hS:=hS.n1
   refine zlv xas ?_
   refine zlz ?_
   refine zs2 ?_
   refine zx1<|zf1 ⟨_,rfl,?_⟩
   exact⟨_,rfl,(KX hv1),hS⟩
  refine zsk<|ztn<|zsr ?_
  refine zs2 ?_
  refine zx1<|zf1 ⟨_,rfl,?_⟩
  exact⟨_,rfl,slh_nil,(hS.addnil 1 3 (ints fun _=>0)).sub (.cons_cons _ .slnil)⟩
set_option maxRecDepth 20000 in
theorem Kb{v:Value}{n:Int}{vv:Int->Value}{ln:Int->Int}{f:Int->Int->Int}(w0:World)(hM:NAt w0 v n vv ln f)(ht:∀k,0<=k->k<=n->tot ln k.toNat<=100000):
    Calls Try.prog 123 [v].toArray w0 fun e w=>∃v,e= .returned v/\∃r,v=r/\Slh r (tot ln n.toNat)/\Sat w0 w [.own r 1 3 (tot ln n.toNat) (ints (Xm ln f n.toNat))]:=by
  have hn:=hM.row.slh.n0;have hn1:=hM.row.slh.n1
  refine Zn Try.func123 Try.ntmps123 fun w hS=> ?_
  refine zsr ?_
  refine zlv xas ?_
  refine zlz ?_
  refine zlv xas ?_
  refine zx5 ?_
  refine zlv xmv ?_
  refine zlv (xln sl_32 hM.row.slh) ?_
  refine zlv xmv ?_
  refine zx6<|zlp (fun mm M w=>∃(s:Int) (i:Int),mm=((n-i).toNat)/\(0<=i)/\(i<=n)/\(s=tot ln i.toNat)/\(0<=s)/\M= [(0,v),(2,.slice none 0 0),(3,.int .i64 s),(9,v),(10,.int .i64 n),(11,.int .i64 i)]/\Sat w0 w []) ⟨0,0,rfl,(by omega),(by omega),?_,(by omega),rfl,hS⟩ ?_
  ·
   rfl
  clear hS w
  rintro mm M w ⟨s,i,rfl,h0,h1,hs,hs0,rfl,hS⟩
  refine zsr ?_
  refine zlv Zk ?_
  refine zlt<|zsq ?_
  refine zcif ?_ ?_<;>intro hc
  ·
   refine zx3 ?_
   refine zlv (xix (kk:=i) sl_32 hM.row.slh) ?_
   refine zlv (xlr (u:=(vv i)) pl_22 (hM.row.below hS.below)) ?_
   have hl:=(hM.p i h0 (by omega)).slh.n0;have ht1:=ht (i+1) (by omega) (by omega);rw [Xr ln h0] at ht1
   refine zlv xas ?_
   refine zlz ?_
   refine zs2 ?_
   refine zlv (xln sl_22 (hM.p i (by omega) (by omega)).slh) ?_
   refine zlv (xadd (r:=s+(ln i))) ?_
   refine zlv xas ?_
   refine zlz ?_
   refine zlv xmv ?_
   refine zlv (xkf Zk) ?_
   refine zlt<|zcf<|zsk<|zbn<|ztn<|zrg ?_
   refine zlv (xadd (r:=i+1)) ?_
   refine zlv xmv ?_
   refine zln<|zlq ⟨s+(ln i),i+1,rfl,(by omega),(by omega),?_,(by omega),rfl,hS⟩
   ·
    rw [Xr ln h0,hs]
  refine zx8 ?_
  refine zlv xmv ?_
  have hin:i=n:=by omega
  have ht2:=ht n hn (Int.le_refl _);rw [<-hin] at ht2
  refine zlc (xc0 Zbm) (ZbC (n:=s) w (by omega) (by omega)) ?_;rintro vq1 w ⟨_,rfl,hslq1,hS'⟩
  replace hS:Sat w0 w [.own vq1 1 3 0 (ints (fun _=>0))]:=hS.comp hS';clear hS'
  refine zlv xas ?_
  refine zx5 ?_
  refine zlv xmv ?_
  refine zlv (xln sl_32 hM.row.slh) ?_
  refine zlv xmv ?_
  refine zx6<|zlp (fun mm M w=>∃(m:Int) (j:Int) (vb:Value) (g:Int->Int),mm=((n-j).toNat)/\(0<=j)/\(j<=n)/\(m=tot ln j.toNat)/\(0<=m)/\(g=Xm ln f j.toNat)/\(Slh vb m)/\M= [(2,.slice none 0 0),(6,vb),(25,v),(26,.int .i64 n),(27,.int .i64 j)]/\Sat w0 w [.own vb 1 3 m (ints g)]) ⟨0,0,vq1,(fun _=>0),rfl,(by omega),(by omega),?_,(by omega),?_,?_,rfl,hS⟩ ?_
  ·
   rfl
  ·
   rfl
  ·
   exact hslq1
  clear hS w
  rintro mm M w ⟨m,j,vb,g,rfl,h0,h1,hm,hm0,hg,hvb,rfl,hS⟩
  refine zsr ?_
  refine zlv Zk ?_
  refine zlt<|zsq ?_
  refine zcif ?_ ?_<;>intro hc
  ·
   refine zx3 ?_
   refine zlv (xix (kk:=j) sl_32 hM.row.slh) ?_
   refine zlv (xlr (u:=(vv j)) pl_22 (hM.row.below hS.below)) ?_
   have hl:=(hM.p j h0 (by omega)).slh.n0;have ht1:=ht (j+1) (by omega) (by omega);rw [Xr ln h0] at ht1
   refine zlv xas ?_
   refine zlt<|zrg ?_
   refine zs2 ?_
   refine zla (xap 0 (r:=m+(ln j)) (f:=ints (cat m g (f j))) sl_22 ZG hS ((hM.p j (by omega) (by omega)).below hS.below) (by exact Yf _ _ _)) ?_;rintro v1 w ⟨hS,hv1⟩
   replace hS:=hS.n1
   refine zlv xas ?_
   refine zx10 ?_
   refine zlv (xadd (r:=j+1)) ?_
   refine zlv xmv ?_
   refine zln<|zlq ⟨m+(ln j),j+1,v1,(cat m g (f j)),rfl,(by omega),(by omega),?_,(by omega),?_,?_,rfl,hS⟩
   ·
    rw [Xr ln h0,hm]
   ·
    rw [TY ln f h0,<-hg,<-hm]
   ·
    exact hv1
  refine zx8 ?_
  refine zs2 ?_
  refine zx1<|zf1 ⟨_,rfl,?_⟩
  obtain rfl:j=n:=by omega
  subst hg;subst hm
  exact⟨_,rfl,hvb,hS⟩
theorem R4{vs:Value}{n:Int}(w0:World)(hsl:Slh vs n):
    Calls Try.prog 122 [vs].toArray w0 fun e w=>∃v,e= .returned v/\∃g,v= .func (.func 131) #[] #[.pointer (some ⟨g,0,none⟩)]/\Sat w0 w [.blk g [vs]]:=by
  refine Zn Try.func122 Try.ntmps122 fun w hS=> ?_
  refine zsr ?_
  refine zla (xbx (cs:= [_]) hS (hc:=Slh.cells hsl)) ?_;rintro _ w ⟨g1,rfl,hS⟩
  replace hS:=hS.n1
  refine zlv xas ?_
  refine zlz ?_
  refine zlv xmf ?_
  refine zlv xas ?_
  refine zx1<|zf1 ⟨_,rfl,?_⟩
  exact⟨_,rfl,hS⟩
theorem T3{v:Value}{n:Int}{f:Int->Int}{Bs:Nat}{E:TypeId}(w0:World)(hcs:w0.cell? ⟨Bs,0,none⟩=some v)(ho:(Ent.own v 1 E n (ints f)).holds w0)(hn:n<=1000000):
    Calls Try.prog 129 [.func (.func 131) #[] #[.pointer (some (⟨Bs,0,none⟩))]].toArray w0 fun e w=>∃v,e= .returned v/\∃r,v=r/\Slh r n/\Sat w0 w [.own r 1 3 n (ints f)]:=by
  refine Zn Try.func129 Try.ntmps129 fun w hS=> ?_
  refine zsr ?_
  refine zlv xas ?_
  refine zlz ?_
  refine zlv xmv ?_
  refine zlc (xc0 Zbl) (c_appendSeq (f:=f) w (hS.ref hcs) (hS.kept ho) hn) ?_;rintro vq1 w ⟨_,rfl,hslq1,hS'⟩
  replace hS:Sat w0 w [.own vq1 1 3 n (ints f)]:=hS.comp hS';clear hS'
  refine zlv xas ?_
  refine zx1<|zf1 ⟨_,rfl,?_⟩
  exact⟨_,rfl,hslq1,hS⟩
theorem R5{v:Value}{n:Int}{f:Int->Int}{Bs:Nat}{E:TypeId}(w0:World)(hcs:w0.cell? ⟨Bs,0,none⟩=some v)(ho:(Ent.own v 1 E n (ints f)).holds w0)(hn:n<=1000000):
    Calls Try.prog 121 [.func (.func 131) #[] #[.pointer (some (⟨Bs,0,none⟩))]].toArray w0 fun e w=>∃v,e= .returned v/\∃r g,v=r/\Slh r n/\Zg g n=((Zg f n).mergeSort fun x y=>decide (x<=y))/\Sat w0 w [.own r 1 3 n (ints g)]:=by
  refine Zn Try.func121 Try.ntmps121 fun w hS=> ?_
  refine zsr ?_
  refine zlv xas ?_
  refine zlz ?_
  refine zlv xmv ?_
  refine zlc (xc0 Zbo) (T3 (f:=f) w (hS.ref hcs) (hS.kept ho) hn) ?_;rintro vq1 w ⟨_,rfl,hslq1,hS'⟩
  replace hS:Sat w0 w [.own vq1 1 3 n (ints f)]:=hS.comp hS';clear hS'
  refine zlv xas ?_
  refine zlz ?_
  refine zlv xmv ?_
  refine zlc (xc0 Zbn) (TJ (fun p cap w=>slices_Sort_int_none p cap w) (fun blk off cap zs w=>slices_Sort_int blk off cap zs w) (l1:= []) (l2:= []) hS) ?_;rintro _ w ⟨rfl,sg1,hsosg1,hS⟩
  replace hS:=hS.n1
  refine zlz ?_
  refine zs2 ?_
  refine zx1<|zf1 ⟨_,rfl,?_⟩
  exact⟨_,_,rfl,hslq1,hsosg1,hS⟩
theorem Zbw{v:Value}{n q:Int}{f:Int->Int}{a1:Addr}(w0:World)(hR:Row w0 v 1 n (ints f))(hp1:w0.cell? a1=some (.int .i64 q))(hq:0<=q/\q<=100):
    Calls Try.prog 124 [v,.pointer (some a1)].toArray w0 fun e w=>∃v,e= .returned v/\v=B (¬(n=q+1/\Btw f n 1073741824))/\Sat w0 w []:=by
  have hn1:=hR.slh.n1
  refine Zn Try.func124 Try.ntmps124 fun w hS=> ?_
  refine zsr ?_
  refine zlv xas ?_
  refine zlz ?_
  refine zlv xmv ?_
  refine zlv (xln sl_22 hR.slh) ?_
  refine zlv (xlf pl_3 hp1 hS) ?_
  refine zlv (xadd (r:=q+1)) ?_
  refine zs2 ?_
  refine zlb 9 ?_ ?_<;>intro hc
  ·
   iterate 3 refine zlo ?_
   refine zs2 ?_
   refine zx1<|zf1 ⟨_,rfl,?_⟩
   exact⟨ZW (by omega),hS⟩
  refine zlv xmv ?_
  refine zlc (xc0 cl_111) (c_between (n:=n) (m:=1073741824) (f:=f) w (hR.below hS.below) (by omega)) ?_;rintro _ w ⟨rfl,hS'⟩
  replace hS:=hS.cmp hS';clear hS'
  refine zs3 ?_
  refine zx1<|zf1 ⟨_,rfl,?_⟩
  exact⟨Zw (by exact⟨fun h hh=>h hh.2,fun h hh=>h ⟨by omega,hh⟩⟩),hS⟩
theorem ZbB{v:Value}{n q:Int}{vv:Int->Value}{ln:Int->Int}{f:Int->Int->Int}{a1:Addr}(w0:World)(hM:MAt w0 v n vv ln f)(hp1:w0.cell? a1=some (.int .i64 q))(hq:0<=q/\q<=100):
    Calls Try.prog 69 [v,.func (.func 124) #[] #[.pointer (some a1)]].toArray w0 fun e w=>∃v,e= .returned v/\∃r:Int,v= .int .i64 r/\((r= -1/\∀k,0<=k->k<n->¬(¬((ln k)=q+1/\Btw (f k) (ln k) 1073741824)))\/(0<=r/\r<n/\(¬((ln r)=q+1/\Btw (f r) (ln r) 1073741824))))/\Sat w0 w []:=by
  have hn:=hM.row.slh.n0;have hn1:=hM.row.slh.n1
  refine Zn Try.func69 Try.ntmps69 fun w hS=> ?_
  refine zsr ?_
  refine zlv xas ?_
  refine zx5 ?_
  refine zlv xmv ?_
  refine zlv (xln sl_32 hM.row.slh) ?_
  refine zlv xmv ?_
  refine zx6<|zlp (fun mm M w=>∃(i:Int),mm=((n-i).toNat)/\(0<=i)/\(i<=n)/\(∀k,0<=k->k<i->¬(¬((ln k)=q+1/\Btw (f k) (ln k) 1073741824)))/\M= [(0,v),(1,.func (.func 124) #[] #[.pointer (some a1)]),(7,.int .i64 n),(8,.int .i64 i)]/\Sat w0 w []) ⟨0,rfl,(by omega),(by omega),?_,rfl,hS⟩ ?_
  ·
   intro k h0 h1;omega
  clear hS w
  rintro mm M w ⟨i,rfl,h0,h1,hall,rfl,hS⟩
  refine zsr ?_
  refine zlv Zk ?_
  refine zlt<|zsq ?_
  refine zcif ?_ ?_<;>intro hc
  ·
   refine zx3 ?_
   refine zs2 ?_
   refine zlz ?_
   refine zs3 ?_
   refine zlv (xix (kk:=i) sl_32 hM.row.slh) ?_
   refine zlv (xlr (u:=(vv i)) pl_22 (hM.row.below hS.below)) ?_
   refine zlc (xcc (vs:= [_]) Zbp) (Zbw (n:=(ln i)) (q:=q) (f:=(f i)) w ((hM.p i (by omega) (by omega)).below hS.below) (hS.ref hp1) hq) ?_;rintro _ w ⟨rfl,hS'⟩
   replace hS:=hS.cmp hS';clear hS'
   refine zlt ?_
   refine zcif ?_ ?_<;>intro hc
   ·
    refine zsr ?_
    refine zs2 ?_
    refine zx2<|zf1 ⟨_,rfl,?_⟩
    exact⟨i,rfl,.inr ⟨by omega,by omega,‹¬((ln i)=q+1/\Btw (f i) (ln i) 1073741824)›⟩,hS⟩
   refine zx4 ?_
   refine zlv (xadd (r:=i+1)) ?_
   refine zlv xmv ?_
   refine zln<|zlq ⟨i+1,rfl,(by omega),(by omega),?_,rfl,hS⟩
   ·
    intro k h0' h1';rcases Int.lt_or_eq_of_le (show k<=i by omega) with hk|hk;exact hall k h0' hk;rw [hk];assumption
  refine zx8 ?_
  refine zlv xas ?_
  refine zx1<|zf1 ⟨_,rfl,?_⟩
  exact⟨-1,rfl,.inl ⟨rfl,fun k h0 h1=>hall k h0 (by omega)⟩,hS⟩
theorem ZbF{v:Value}{n q:Int}{vv:Int->Value}{ln:Int->Int}{f:Int->Int->Int}{a1:Addr}(w0:World)(hM:MAt w0 v n vv ln f)(hp1:w0.cell? a1=some (.int .i64 q))(hq:0<=q/\q<=100):
    Calls Try.prog 35 [v,.func (.func 124) #[] #[.pointer (some a1)]].toArray w0 fun e w=>∃v,e= .returned v/\v=B (∃k,0<=k/\k<n/\(¬((ln k)=q+1/\Btw (f k) (ln k) 1073741824)))/\Sat w0 w []:=by
  refine Zn Try.func35 Try.ntmps35 fun w hS=> ?_
  refine zsr ?_
  refine zlv xas ?_
  refine zlz ?_
  refine zs2 ?_
  refine zlc (xc0 RW) (ZbB w (hM.below hS.below) (hS.ref hp1) hq) ?_;rintro _ w ⟨r1,rfl,hr1,hS'⟩
  replace hS:=hS.cmp hS';clear hS'
  refine zs2 ?_
  refine zx1<|zf1 ⟨_,rfl,?_⟩
  exact⟨Zw (by
   rcases hr1 with⟨h1,h2⟩|⟨h1,h2,h3⟩
   · exact⟨fun h=>by omega,fun⟨k,h4,h5,h6⟩=>absurd h6 (h2 k h4 h5)⟩
   · exact⟨fun _=>⟨_,h1,h2,h3⟩,fun _=>h1⟩),hS⟩
theorem Zbv{v:Value}{n q:Int}{f:Int->Int}{a1:Addr}(w0:World)(hR:Row w0 v 1 n (ints f))(hp1:w0.cell? a1=some (.int .i64 q))(hq:0<=q/\q<=100):
    Calls Try.prog 112 [v,.pointer (some a1)].toArray w0 fun e w=>∃v,e= .returned v/\v=B (¬(n=q/\Btw f n 1000000))/\Sat w0 w []:=by
  have hn1:=hR.slh.n1
  refine Zn Try.func112 Try.ntmps112 fun w hS=> ?_
  refine zsr ?_
  refine zlv xas ?_
  refine zlz ?_
  refine zlv xmv ?_
  refine zlv (xln sl_22 hR.slh) ?_
  refine zlv (xlf pl_3 hp1 hS) ?_
  refine zs2 ?_
  refine zlb 8 ?_ ?_<;>intro hc
  ·
   iterate 3 refine zlo ?_
   refine zs2 ?_
   refine zx1<|zf1 ⟨_,rfl,?_⟩
   exact⟨ZW (by omega),hS⟩
  refine zlv xmv ?_
  refine zlc (xc0 cl_111) (c_between (n:=n) (m:=1000000) (f:=f) w (hR.below hS.below) (by omega)) ?_;rintro _ w ⟨rfl,hS'⟩
  replace hS:=hS.cmp hS';clear hS'
  refine zs3 ?_
  refine zx1<|zf1 ⟨_,rfl,?_⟩
  exact⟨Zw (by exact⟨fun h hh=>h hh.2,fun h hh=>h ⟨by omega,hh⟩⟩),hS⟩
theorem ZbA{v:Value}{n q:Int}{vv:Int->Value}{ln:Int->Int}{f:Int->Int->Int}{a1:Addr}(w0:World)(hM:MAt w0 v n vv ln f)(hp1:w0.cell? a1=some (.int .i64 q))(hq:0<=q/\q<=100):
    Calls Try.prog 69 [v,.func (.func 112) #[] #[.pointer (some a1)]].toArray w0 fun e w=>∃v,e= .returned v/\∃r:Int,v= .int .i64 r/\((r= -1/\∀k,0<=k->k<n->¬(¬((ln k)=q/\Btw (f k) (ln k) 1000000)))\/(0<=r/\r<n/\(¬((ln r)=q/\Btw (f r) (ln r) 1000000))))/\Sat w0 w []:=by
  have hn:=hM.row.slh.n0;have hn1:=hM.row.slh.n1
  refine Zn Try.func69 Try.ntmps69 fun w hS=> ?_
  refine zsr ?_
  refine zlv xas ?_
  refine zx5 ?_
  refine zlv xmv ?_
  refine zlv (xln sl_32 hM.row.slh) ?_
  refine zlv xmv ?_
  refine zx6<|zlp (fun mm M w=>∃(i:Int),mm=((n-i).toNat)/\(0<=i)/\(i<=n)/\(∀k,0<=k->k<i->¬(¬((ln k)=q/\Btw (f k) (ln k) 1000000)))/\M= [(0,v),(1,.func (.func 112) #[] #[.pointer (some a1)]),(7,.int .i64 n),(8,.int .i64 i)]/\Sat w0 w []) ⟨0,rfl,(by omega),(by omega),?_,rfl,hS⟩ ?_
  ·
   intro k h0 h1;omega
  clear hS w
  rintro mm M w ⟨i,rfl,h0,h1,hall,rfl,hS⟩
  refine zsr ?_
  refine zlv Zk ?_
  refine zlt<|zsq ?_
  refine zcif ?_ ?_<;>intro hc
  ·
   refine zx3 ?_
   refine zs2 ?_
   refine zlz ?_
   refine zs3 ?_
   refine zlv (xix (kk:=i) sl_32 hM.row.slh) ?_
   refine zlv (xlr (u:=(vv i)) pl_22 (hM.row.below hS.below)) ?_
   refine zlc (xcc (vs:= [_]) Zbu) (Zbv (n:=(ln i)) (q:=q) (f:=(f i)) w ((hM.p i (by omega) (by omega)).below hS.below) (hS.ref hp1) hq) ?_;rintro _ w ⟨rfl,hS'⟩
   replace hS:=hS.cmp hS';clear hS'
   refine zlt ?_
   refine zcif ?_ ?_<;>intro hc
   ·
    refine zsr ?_
    refine zs2 ?_
    refine zx2<|zf1 ⟨_,rfl,?_⟩
    exact⟨i,rfl,.inr ⟨by omega,by omega,‹¬((ln i)=q/\Btw (f i) (ln i) 1000000)›⟩,hS⟩
   refine zx4 ?_
   refine zlv (xadd (r:=i+1)) ?_
   refine zlv xmv ?_
   refine zln<|zlq ⟨i+1,rfl,(by omega),(by omega),?_,rfl,hS⟩
   ·
    intro k h0' h1';rcases Int.lt_or_eq_of_le (show k<=i by omega) with hk|hk;exact hall k h0' hk;rw [hk];assumption
  refine zx8 ?_
  refine zlv xas ?_
  refine zx1<|zf1 ⟨_,rfl,?_⟩
  exact⟨-1,rfl,.inl ⟨rfl,fun k h0 h1=>hall k h0 (by omega)⟩,hS⟩
theorem c_comv{v:Value}{n q:Int}{vv:Int->Value}{ln:Int->Int}{f:Int->Int->Int}{a1:Addr}(w0:World)(hM:MAt w0 v n vv ln f)(hp1:w0.cell? a1=some (.int .i64 q))(hq:0<=q/\q<=100):
    Calls Try.prog 35 [v,.func (.func 112) #[] #[.pointer (some a1)]].toArray w0 fun e w=>∃v,e= .returned v/\v=B (∃k,0<=k/\k<n/\(¬((ln k)=q/\Btw (f k) (ln k) 1000000)))/\Sat w0 w []:=by
  refine Zn Try.func35 Try.ntmps35 fun w hS=> ?_
  refine zsr ?_
  refine zlv xas ?_
  refine zlz ?_
  refine zs2 ?_
  refine zlc (xc0 RW) (ZbA w (hM.below hS.below) (hS.ref hp1) hq) ?_;rintro _ w ⟨r1,rfl,hr1,hS'⟩
  replace hS:=hS.cmp hS';clear hS'
  refine zs2 ?_
  refine zx1<|zf1 ⟨_,rfl,?_⟩
  exact⟨Zw (by
   rcases hr1 with⟨h1,h2⟩|⟨h1,h2,h3⟩
   · exact⟨fun h=>by omega,fun⟨k,h4,h5,h6⟩=>absurd h6 (h2 k h4 h5)⟩
   · exact⟨fun _=>⟨_,h1,h2,h3⟩,fun _=>h1⟩),hS⟩
set_option maxRecDepth 20000 in
theorem XB{vB vF vC:Value}{vv:Int->Value}{t:Tb}(w0:World)(hT:TAt w0 vB vF vC vv t):
    Calls Try.prog 114 [.agg #[.int .i64 t.vars,.int .i64 t.den,vB,vF,vC]].toArray w0 fun e w=>∃v,e= .returned v/\v=B (TPrp t)/\Sat w0 w []:=by
  have hn:=hT.F.slh.n0;have hn1:=hT.F.slh.n1;have hb:=hT.B.slh.n0;have hb1:=hT.B.slh.n1;have hc0:=hT.C.row.slh.n0;have hc1:=hT.C.row.slh.n1
  refine Zn Try.func114 Try.ntmps114 fun w hS=> ?_
  refine zsr ?_
  refine zla (xbx (cs:= [_,_,_,_,_]) hS) ?_;rintro _ w ⟨g1,rfl,hS⟩
  replace hS:=hS.n1
  refine zlv xas ?_
  refine zlt<|zsq ?_
  refine zdst [0] [0] 7 mx_ hS ?_;clear hS;intro w hS
  refine zDrv 0 (xfb 3 fd_108_3) ?_
  refine zdla 1 (fun w hS=>(xlb 0 pl_22 hS)) ?_
  refine zDrv 2 (xln sl_22 hT.F.slh) ?_
  refine zDrv 3 (xfb 2 fd_108_2) ?_
  refine zdla 4 (fun w hS=>(xlb 0 pl_22 hS)) ?_
  refine zDrv 5 (xln sl_22 hT.B.slh) ?_
  refine zda 6 (xal (cs:= [_]) ZG hS) ?_;rintro _ w ⟨g2,rfl,hS⟩
  replace hS:=hS.n2
  refine⟨⟨fun _=>hS.pk [0],hS.pk [0]⟩,?_⟩
  refine zde 7 (xsb 1 pl_3 hS) ?_;clear hS;rintro w hS
  replace hS:=hS.n2
  refine⟨⟨fun h=>absurd h (by decide),hS.pk [0]⟩,?_⟩
  refine zDrv 8 xas ?_
  refine zdd<|ztn<|zsq<|zsr ?_
  refine zlv (xlb 1 pl_3 hS) ?_
  refine zs2 ?_
  refine zlb 16 ?_ ?_<;>intro hc;rotate_left
  refine zlv (xlb 1 pl_3 hS) ?_
  refine zs3 ?_
  refine zlb 20 ?_ ?_<;>intro hc;rotate_left
  refine zs4 ?_
  refine zlb 24 ?_ ?_<;>intro hc;rotate_left
  refine zlv (xfb 0 fd_108_0) ?_
  refine zlv (xlb 0 pl_3 hS) ?_
  refine zlv (xlb 1 pl_3 hS) ?_
  refine zs3 ?_
  refine zlb 30 ?_ ?_<;>intro hc;rotate_left
  refine zlv (xfb 1 fd_108_1) ?_
  refine zlv (xlb 0 pl_3 hS) ?_
  refine zs3 ?_
  refine zlb 35 ?_ ?_<;>intro hc;rotate_left
  refine zlv (xfb 1 fd_108_1) ?_
  refine zlv (xlb 0 pl_3 hS) ?_
  refine zs3 ?_
  refine zlb 40 ?_ ?_<;>intro hc;rotate_left
  refine zlv (xfb 4 fd_108_4) ?_
  refine zlv (xlb 0 pl_32 hS) ?_
  refine zlv (xln sl_32 hT.C.row.slh) ?_
  refine zlv xmv ?_
  refine zlv (xadd (r:=t.nb+1)) ?_
  refine zs2 ?_
  refine zlt ?_
  refine zcif ?_ ?_<;>intro hc
  ·
   refine zsr ?_
   refine zlv xas ?_
   refine zx14<|zf1 ⟨_,rfl,?_⟩
   exact⟨Zc (by intro hp;have b1:=hp.n1;have b2:=hp.n2;have b3:=hp.m2;have b4:=hp.v;have b5:=hp.d1;have b6:=hp.d2;have b7:=hp.c;first|omega|(have hq1:=(YD (by omega) hsosgq2).2 (hp.perm.congr fun k k0 k1=>(Un t.nf t.nb t.F t.B k0).symm) i (by omega) (by omega);omega)),hS.nl⟩
  refine zsk<|ztn<|zsr ?_
  refine zlv (xfb 3 fd_108_3) ?_
  refine zlv (xlb 0 pl_22 hS) ?_
  refine zlv (xfb 2 fd_108_2) ?_
  refine zlv (xlb 0 pl_22 hS) ?_
  refine zla (xli (n:=2) (len:=2) (pv:= [(0,vF),(1,vB)]) (cs:= [vF,vB]) (c:=(Zq vF vB)) sl_32 YA hS (hf:=by obtain⟨_,_,_,_,rfl,_⟩:=hT.F.slh;obtain⟨_,_,_,_,rfl,_⟩:=hT.B.slh;kernel_rfl)) ?_;rintro v1 w ⟨hS,hv1⟩
  replace hS:=hS.n3
  have hna:=ZcL (w:=w) (a:=vF) (b:=vB) (n:=t.nf) (m:=t.nb) (f:=t.F) (g:=t.B) (hS.rowN 2 rfl) (hT.F.below hS.below) (hT.B.below hS.below)
  have htt:∀k:Int,0<=k->k<=2->tot (Zq t.nf t.nb) k.toNat<=100000:=fun k k0 k1=>by
    have:k=0\/k=1\/k=2:=by omega
    rcases this with rfl|rfl|rfl
    · simp [tot]
    · simp [tot,Zq];omega
    · have e2:=ZbS t.nf t.nb;rw [show(2:Int).toNat=2 from rfl,e2];omega
  refine zlc (xc0 Zbq) (Kb w hna htt) ?_;rintro vq1 w ⟨_,rfl,hslq1,hS'⟩
  rw [show(2:Int).toNat=2 from rfl,ZbS] at hslq1 hS'
  replace hS:Sat w0 w [.blk g1 [.int .i64 t.vars,.int .i64 t.den,vB,vF,vC],.blk g2 [.int .i64 t.nf],.own v1 1 22 2 (Zq vF vB),.own vq1 1 3 (t.nf+t.nb) (ints (Xm (Zq t.nf t.nb) (Zq t.F t.B) 2))]:=hS.comp hS'
  clear hS'
  refine zlc (xc0 Zbr) (R4 (n:=(t.nf+t.nb)) w hslq1) ?_;rintro _ w ⟨gv1,rfl,hS'⟩
  replace hS:Sat w0 w [.blk g1 [.int .i64 t.vars,.int .i64 t.den,vB,vF,vC],.blk g2 [.int .i64 t.nf],.own v1 1 22 2 (Zq vF vB),.own vq1 1 3 (t.nf+t.nb) (ints (Xm (Zq t.nf t.nb) (Zq t.F t.B) 2)),.blk gv1 [vq1]]:=hS.comp hS';clear hS'
  refine zlc (xc0 Zbs) (R5 (n:=(t.nf+t.nb)) (f:=(Xm (Zq t.nf t.nb) (Zq t.F t.B) 2)) w (hS.cellN 4 rfl rfl) (hS.holds _ (List.mem_of_getElem? (i:=3) rfl)) (by omega)) ?_;rintro vq2 w ⟨_,sgq2,rfl,hslq2,hsosgq2,hS'⟩
  replace hS:Sat w0 w [.blk g1 [.int .i64 t.vars,.int .i64 t.den,vB,vF,vC],.blk g2 [.int .i64 t.nf],.own v1 1 22 2 (Zq vF vB),.own vq1 1 3 (t.nf+t.nb) (ints (Xm (Zq t.nf t.nb) (Zq t.F t.B) 2)),.blk gv1 [vq1],.own vq2 1 3 (t.nf+t.nb) (ints sgq2)]:=hS.comp hS';clear hS'
  refine zlv xas ?_
  refine zx5 ?_
  refine zlv xmv ?_
  refine zlv (xln sl_22 hslq2) ?_
  refine zlv xmv ?_
  refine zx6<|zlp (fun mm M w=>∃(i:Int),mm=((t.nf+t.nb-i).toNat)/\(0<=i)/\(i<=t.nf+t.nb)/\(∀k,0<=k->k<i->sgq2 k=k)/\M= [(1,.pointer (some ⟨g1,0,none⟩)),(3,.pointer (some ⟨g2,0,none⟩)),(56,vq2),(57,.int .i64 (t.nf+t.nb)),(58,.int .i64 i)]/\Sat w0 w [.blk g1 [.int .i64 t.vars,.int .i64 t.den,vB,vF,vC],.blk g2 [.int .i64 t.nf],.own v1 1 22 2 (Zq vF vB),.own vq1 1 3 (t.nf+t.nb) (ints (Xm (Zq t.nf t.nb) (Zq t.F t.B) 2)),.blk gv1 [vq1],.own vq2 1 3 (t.nf+t.nb) (ints sgq2)]) ⟨0,rfl,(by omega),(by omega),?_,rfl,hS⟩ ?_
  ·
   intro k h0 h1;omega
  clear hS w
  rintro mm M w ⟨i,rfl,h0,h1,hall,rfl,hS⟩
  refine zsr ?_
  refine zlv Zk ?_
  refine zlt<|zsq ?_
  refine zcif ?_ ?_<;>intro hc
  ·
   refine zx3 ?_
   refine zlv xmv ?_
   refine zlv (xix (kk:=i) sl_22 hslq2) ?_
   refine zlv (xlr (u:= .int .i64 (sgq2 i)) pl_3 (hS.rowN 5 rfl)) ?_
   refine zs2 ?_
   refine zlz ?_
   refine zs3 ?_
   refine zlt ?_
   refine zcif ?_ ?_<;>intro hc
   ·
    refine zsr ?_
    refine zlv xas ?_
    refine zx2<|zf1 ⟨_,rfl,?_⟩
    exact⟨Zc (by intro hp;have b1:=hp.n1;have b2:=hp.n2;have b3:=hp.m2;have b4:=hp.v;have b5:=hp.d1;have b6:=hp.d2;have b7:=hp.c;first|omega|(have hq1:=(YD (by omega) hsosgq2).2 (hp.perm.congr fun k k0 k1=>(Un t.nf t.nb t.F t.B k0).symm) i (by omega) (by omega);omega)),hS.nl⟩
   refine zx4 ?_
   refine zlv (xadd (r:=i+1)) ?_
   refine zlv xmv ?_
   refine zln<|zlq ⟨i+1,rfl,(by omega),(by omega),?_,rfl,hS⟩
   ·
    intro k h0' h1';rcases Int.lt_or_eq_of_le (show k<=i by omega) with hk|hk;exact hall k h0' hk;rw [hk];omega
  refine zx8 ?_
  refine zlv (xfb 4 fd_108_4) ?_
  refine zlv (xlb 0 pl_32 hS) ?_
  refine zlv xmf ?_
  refine zlc (xc0 cl_35) (ZbF (n:=t.nc) (q:=t.nf) (vv:=vv) (ln:=t.ln) (f:=t.C) w (hT.C.below hS.below) (hS.cellN 1 rfl rfl) (by omega)) ?_;rintro _ w ⟨rfl,hS'⟩
  replace hS:=hS.cmp hS';clear hS'
  refine zs2 ?_
  refine zx1<|zf1 ⟨_,rfl,?_⟩
  refine⟨Zw ⟨fun hx=> ?_,fun hp hx=> ?_⟩,hS.nl⟩
  · refine⟨by omega,by omega,by omega,by omega,by omega,by omega,by omega,((YD (by omega) hsosgq2).1 fun k k0 k1=>hall k k0 (by omega)).congr fun k k0 k1=>Un t.nf t.nb t.F t.B k0,fun k k0 k1=> ?_⟩
    have hy:=Classical.not_not.1 fun hh=>hx ⟨k,k0,k1,hh⟩
    exact⟨hy.1,hy.2⟩
  · obtain⟨k,k0,k1,hh⟩:=hx
    have hr:=hp.rows k k0 k1
    exact hh ⟨hr.1,hr.2⟩
  all_goals
   refine Xe ?_
   refine zlt<|zct<|zsr ?_
   refine Xe ?_
   refine zx14<|zf1 ⟨_,rfl,?_⟩
   exact⟨Zc (by intro hp;have b1:=hp.n1;have b2:=hp.n2;have b3:=hp.m2;have b4:=hp.v;have b5:=hp.d1;have b6:=hp.d2;have b7:=hp.c;first|omega|(have hq1:=(YD (by omega) hsosgq2).2 (hp.perm.congr fun k k0 k1=>(Un t.nf t.nb t.F t.B k0).symm) i (by omega) (by omega);omega)),hS.nl⟩
set_option maxRecDepth 20000 in
theorem XC{v:Value}{n:Int}{vv:Int->Value}{ln:Int->Int}{f:Int->Int->Int}(w0:World)(hM:MAt w0 v n vv ln f)(hn2:n<=1000)(hll:∀k,0<=k->k<n->ln k<=1000):
    Calls Try.prog 115 [v].toArray w0 fun e w=>∃v,e= .returned v/\∃vo vw,v=vo/\Slh vo n/\Sat w0 w [.own vo 1 22 n vw,.sem (Frame.rows 3 n vw ln f)]:=by
  have hn:=hM.row.slh.n0;have hn1:=hM.row.slh.n1
  refine Zn Try.func115 Try.ntmps115 fun w hS=> ?_
  refine zsr ?_
  refine zlv xas ?_
  refine zlz ?_
  refine zlv xmv ?_
  refine zlv (xln sl_32 hM.row.slh) ?_
  refine zla (xmk sl_32 YA hS) ?_;rintro v1 w ⟨hS,hv1⟩
  replace hS:=hS.n1
  refine zlv xas ?_
  refine zx5 ?_
  refine zlv xmv ?_
  refine zlv (xln sl_32 hM.row.slh) ?_
  refine zlv xmv ?_
  refine zx6 ?_
  replace hS:=hS.addrows 3 (fun _=>Value.slice none 0 0) ln f
  replace hS:=hS.n2
  refine zlp (fun mm M w=>∃(c:Int->Value) (i:Int),mm=((n-i).toNat)/\(0<=i)/\(i<=n)/\M= [(2,.slice none 0 0),(3,v1),(9,v),(10,.int .i64 n),(11,.int .i64 i)]/\Sat w0 w [.own v1 1 22 n c,.sem (Frame.rows 3 i c ln f)]) ⟨(fun _=>Value.slice none 0 0),0,rfl,(by omega),(by omega),rfl,hS⟩ ?_
  clear hS w
  rintro mm M w ⟨c,i,rfl,h0,h1,rfl,hS⟩
  have hrs1:=fun k (k0:0<=k) (k1:k<i)=>hS.slhIn 1 rfl k0 k1
  refine zsr ?_
  refine zlv Zk ?_
  refine zlt<|zsq ?_
  refine zcif ?_ ?_<;>intro hc
  ·
   refine zx3 ?_
   refine zlv xmv ?_
   refine zlv (xix (kk:=i) sl_32 hM.row.slh) ?_
   refine zlv (xlr (u:=(vv i)) pl_22 (hM.row.below hS.below)) ?_
   have hli:=hll i h0 (by omega);have hl0:=(hM.p i h0 (by omega)).slh.n0
   refine zs2 ?_
   refine zlz ?_
   refine zs3 ?_
   refine zlv (xln sl_22 (hM.p i (by omega) (by omega)).slh) ?_
   refine zla (xmk sl_22 ZG hS) ?_;rintro v2 w ⟨hS,hv2⟩
   replace hS:=hS.n3
   refine zlv (xix (kk:=i) sl_32 hv1) ?_
   refine zle (xso 0 pl_22 hS rfl (hv:=hv2.one)) ?_;clear hS;rintro w hS
   replace hS:=hS.n3
   refine zlt<|zrg ?_
   refine zs2 ?_
   refine zlv (xix (kk:=i) sl_32 hv1) ?_
   refine zlv (xlr (u:=v2) pl_22 (hS.rowN 0 rfl) (e:=(gu_self _ _ _))) ?_
   refine zlv xmv ?_
   refine Kk rfl rfl rfl (KP 2 rfl sl_22 rfl rfl hS rfl ((hM.p i (by omega) (by omega)).below hS.below) (fun _ _ _=>rfl)) ?_;rintro _ w ⟨rfl,hS⟩
   replace hS:=hS.n3
   replace hS:=Sat.merge (l1:= [.own v1 1 22 n (upd c i (v2))]) (l2:= []) (l3:= []) hS (by omega)
   replace hS:=hS.rerows (vv':=upd c i (v2)) (ln':=ln) (f':=f) 1 rfl (fun k k0 k1=>by
     by_cases e:k<i
     · rw [Zx e,Zx e,Zx e];exact⟨(gu_ne (by omega)).symm,rfl,fun _ _ _=>rfl⟩
     · obtain rfl:i=k:=(by omega);rw [YI,YI,YI];exact⟨(gu_self _ _ _).symm,rfl,fun _ _ _=>rfl⟩)
   replace hS:=hS.n2
   refine zx10 ?_
   refine zlv (xadd (r:=i+1)) ?_
   refine zlv xmv ?_
   refine zln<|zlq ⟨upd c i (v2),i+1,rfl,(by omega),(by omega),rfl,hS⟩
  refine zx8 ?_
  refine zs2 ?_
  refine zx1<|zf1 ⟨_,rfl,?_⟩
  obtain rfl:i=n:=by omega
  exact⟨_,_,rfl,hv1,hS⟩
set_option maxRecDepth 20000 in
theorem Zbz{vB vF vC:Value}{vv:Int->Value}{t:Tb}(w0:World)(hT:TAt w0 vB vF vC vv t):
    Calls Try.prog 91 [.agg #[.int .i64 t.vars,.int .i64 t.den,vB,vF,vC]].toArray w0 fun e w=>∃v,e= .returned v/\∃r c d e,v= .tuple #[.int .i64 r,.int .i64 c,.bool d,.int .i64 e]/\NextR t r c d e/\Sat w0 w []:=by
  have hn:=hT.F.slh.n0;have hn1:=hT.F.slh.n1;have hb:=hT.B.slh.n0;have hb1:=hT.B.slh.n1;have hc0:=hT.C.row.slh.n0;have hc1:=hT.C.row.slh.n1
  refine Zn Try.func91 Try.ntmps91 fun w hS=> ?_
  refine zsr ?_
  refine zla (xbx (cs:= [_,_,_,_,_]) hS) ?_;rintro _ w ⟨g1,rfl,hS⟩
  replace hS:=hS.n1
  refine zs4 ?_
  refine zx5 ?_
  refine zlv (xls 0 st_108 hS) ?_
  refine zlc (xc0 Vx) (XB (t:=t) w (hT.below hS.below)) ?_;rintro _ w ⟨rfl,hS'⟩
  replace hS:=hS.cmp hS';clear hS'
  refine zs2 ?_
  refine zlb 17 ?_ ?_<;>intro hc
  ·
   iterate 7 refine zlo ?_
   refine zlv xpt ?_
   refine zlt<|zct<|zsr ?_
   refine zs4 ?_
   refine zx14<|zf4 ⟨_,rfl,?_⟩
   refine⟨_,_,_,_,rfl,.inl ⟨?_,rfl,rfl,rfl,rfl⟩,hS.nl⟩
   first|exact fun hh=>absurd hh.1 ‹_›|(rintro⟨_,hco⟩;obtain⟨k,k0,k1,k2⟩:=hex1;have:=hco (k+1) (by omega) (by omega);omega)
  refine zlv (xfb 4 fd_108_4) ?_
  have hp:=(Classical.not_not.1 ‹¬¬(TPrp t)›)
  have b1:=hp.n1
  have b2:=hp.n2
  have b3:=hp.m2
  have b4:=hp.v
  have b5:=hp.d1
  have b6:=hp.d2
  have b7:=hp.c
  have hl0:=hp.len (i:=0) (by omega) (by omega)
  refine zlv (xlb 0 pl_32 hS) ?_
  refine zlv (xix (kk:=0) sl_32 hT.C.row.slh) ?_
  refine zlv (xlr (u:=(vv 0)) pl_22 (hT.C.row.below hS.below)) ?_
  refine zlvr rfl rfl rfl (YZ (q:=1) rfl sl_22 rfl rfl rfl (hT.C.p 0 (by omega) (by omega)).slh rfl (by omega) (by omega)) ?_
  refine zlc (xc0 RZ) (ZaF (n:=((t.ln 0)-1)) (f:=(fun k=>(t.C 0) (k+1))) w ((Yw (q:=1) (hT.C.p 0 (by omega) (by omega)).slh (hT.C.room 0 (by omega) (by omega)) (by omega)).row (by omega) ((hT.C.p 0 (by omega) (by omega)).below hS.below)) (by omega)) ?_;rintro _ w ⟨x1,rfl,hex1,hax1,hS'⟩
  replace hS:=hS.cmp hS';clear hS'
  refine zs2 ?_
  refine zlt ?_
  refine zcif ?_ ?_<;>intro hc
  ·
   refine zsr ?_
   refine zs4 ?_
   refine zx14<|zf4 ⟨_,rfl,?_⟩
   refine⟨_,_,_,_,rfl,.inl ⟨?_,rfl,rfl,rfl,rfl⟩,hS.nl⟩
   first|exact fun hh=>absurd hh.1 ‹_›|(rintro⟨_,hco⟩;obtain⟨k,k0,k1,k2⟩:=hex1;have:=hco (k+1) (by omega) (by omega);omega)
  refine zsk<|ztn<|zsr ?_
  refine zlv xas ?_
  refine zx5 ?_
  refine zlv (xfb 2 fd_108_2) ?_
  refine zlv (xlb 0 pl_22 hS) ?_
  refine zlv (xln sl_22 hT.B.slh) ?_
  refine zlv xmv ?_
  refine zx6<|zlp (fun mm M w=>∃(r:Int) (i:Int),mm=((t.nb-i).toNat)/\(0<=i)/\(i<=t.nb)/\(r=ZM t i.toNat)/\M= [(1,.pointer (some ⟨g1,0,none⟩)),(2,.int .i64 r),(3,.int .i64 0),(4,.bool false),(5,.int .i64 0),(27,vB),(28,.int .i64 t.nb),(29,.int .i64 i)]/\Sat w0 w [.blk g1 [.int .i64 t.vars,.int .i64 t.den,vB,vF,vC]]) ⟨(-1),0,rfl,(by omega),(by omega),?_,rfl,hS⟩ ?_
  ·
   rfl
  clear hS w
  rintro mm M w ⟨r,i,rfl,h0,h1,hr,rfl,hS⟩
  have hrr:=Z7 t i.toNat;rw [<-hr] at hrr
  refine zsr ?_
  refine zlv Zk ?_
  refine zlt<|zsq ?_
  refine zcif ?_ ?_<;>intro hc
  ·
   refine zx3 ?_
   refine zlv xmv ?_
   refine zlv (xix (kk:=i) sl_22 hT.B.slh) ?_
   refine zlv (xlr (u:= .int .i64 (t.B i)) pl_3 (hT.B.below hS.below)) ?_
   refine zs2 ?_
   refine zlz ?_
   refine zlv (xfb 4 fd_108_4) ?_
   refine zlv (xlb 0 pl_32 hS) ?_
   refine zlv xmv ?_
   refine zlv (xadd (r:=i+1)) ?_
   refine zlv (xix (kk:=i+1) sl_32 hT.C.row.slh) ?_
   refine zlv (xlr (u:=(vv (i+1))) pl_22 (hT.C.row.below hS.below)) ?_
   have hlen:=hp.len (i:=i+1) (by omega) (by omega)
   refine zlv (xix (kk:=0) sl_22 (hT.C.p (i+1) (by omega) (by omega)).slh) ?_
   refine zlv (xlr (u:= .int .i64 ((t.C (i+1)) 0)) pl_3 ((hT.C.p (i+1) (by omega) (by omega)).below hS.below)) ?_
   refine zs2 ?_
   refine zlb 43 ?_ ?_<;>intro hc
   ·
    refine zs3 ?_
    have hrr:=Z7 t i.toNat;rw [<-hr] at hrr
    refine zlb 46 ?_ ?_<;>intro hc
    ·
     iterate 7 refine zlo ?_
     refine zs2 ?_
     refine zlt<|zct<|zrg ?_
     refine zs2 ?_
     refine zx10 ?_
     refine zlv (xadd (r:=i+1)) ?_
     refine zlv xmv ?_
     refine zln<|zlq ⟨i,i+1,rfl,(by omega),(by omega),?_,rfl,hS⟩
     ·
      rw [Y9 t h0,<-hr];split<;>omega
    refine zlv xmv ?_
    refine zlv (xfb 2 fd_108_2) ?_
    refine zlv (xlb 0 pl_22 hS) ?_
    refine zlv xmv ?_
    refine zlv (xix (kk:=r) sl_22 hT.B.slh) ?_
    refine zlv (xlr (u:= .int .i64 (t.B r)) pl_3 (hT.B.below hS.below)) ?_
    refine zs3 ?_
    refine zlt ?_
    refine zcif ?_ ?_<;>intro hc
    ·
     refine zrg ?_
     refine zs2 ?_
     refine zx10 ?_
     refine zlv (xadd (r:=i+1)) ?_
     refine zlv xmv ?_
     refine zln<|zlq ⟨i,i+1,rfl,(by omega),(by omega),?_,rfl,hS⟩
     ·
      rw [Y9 t h0,<-hr];split<;>omega
    refine zx4 ?_
    refine zlv (xadd (r:=i+1)) ?_
    refine zlv xmv ?_
    refine zln<|zlq ⟨r,i+1,rfl,(by omega),(by omega),?_,rfl,hS⟩
    ·
     rw [Y9 t h0,<-hr];split<;>omega
   iterate 11 refine zlo ?_
   refine zlv xpf ?_
   refine zlt<|zcf<|zsk<|zbn<|ztn<|zrg ?_
   refine zlv (xadd (r:=i+1)) ?_
   refine zlv xmv ?_
   refine zln<|zlq ⟨r,i+1,rfl,(by omega),(by omega),?_,rfl,hS⟩
   ·
    rw [Y9 t h0,<-hr];split<;>omega
  refine zxt<|ztx<|ztx<|zbh<|ztn<|zsq<|zsr ?_
  refine zs2 ?_
  refine zlt ?_
  refine zcif ?_ ?_<;>intro hc
  ·
   refine zsr ?_
   refine zs4 ?_
   refine zx14<|zf4 ⟨_,rfl,?_⟩
   obtain rfl:i=t.nb:=by omega
   exact⟨_,_,_,_,rfl,.inr (.inl ⟨hp,(fun j j0 j1=>by have:=hax1 (j-1) (by omega) (by omega);rw [show j-1+1=j by omega] at this;omega),by omega,rfl,rfl,rfl,rfl⟩),hS.nl⟩
  refine zsk<|ztn<|zsr ?_
  refine zlv xas ?_
  refine zlt<|zsq ?_
  refine zdst [0] [0] 1000 mx_ hS ?_;clear hS;intro w hS
  refine zDrv 0 (xfb 4 fd_108_4) ?_
  have hin:i=t.nb:=by omega
  have hrr:=Z7 t i.toNat;rw [<-hr] at hrr;have hlr:=hp.len (i:=r+1) (by omega) (by omega)
  refine zdla 1 (fun w hS=>(xlb 0 pl_32 hS)) ?_
  refine zDrv 2 (xix (kk:=0) sl_32 hT.C.row.slh) ?_
  refine zdla 3 (fun w hS=>(xlr (u:=(vv 0)) pl_22 (hT.C.row.below hS.below))) ?_
  refine ZbL 4 rfl rfl rfl rfl (by kernel_rfl) rfl (fun w=>(YZ (q:=1) rfl sl_22 rfl rfl rfl (hT.C.p 0 (by omega) (by omega)).slh rfl (by omega) (by omega))) ?_
  refine zDrv 5 (xfb 4 fd_108_4) ?_
  refine zdla 6 (fun w hS=>(xlb 0 pl_32 hS)) ?_
  refine zDrv 7 xmv ?_
  refine zDrv 8 (xadd (r:=r+1)) ?_
  refine zDrv 9 (xix (kk:=r+1) sl_32 hT.C.row.slh) ?_
  refine zdla 10 (fun w hS=>(xlr (u:=(vv (r+1))) pl_22 (hT.C.row.below hS.below))) ?_
  refine ZbL 11 rfl rfl rfl rfl (by kernel_rfl) rfl (fun w=>(YZ (q:=1) rfl sl_22 rfl rfl rfl (hT.C.p (r+1) (by omega) (by omega)).slh rfl (by omega) (by omega))) ?_
  refine zDrv 12 xas ?_
  refine zDrv 13 xas ?_
  refine zdd<|ztn<|zsq<|zsr ?_
  refine zlv xmv ?_
  refine zlv (xln sl_22 (Yw (q:=1) (hT.C.p (r+1) (by omega) (by omega)).slh (hT.C.room (r+1) (by omega) (by omega)) (by omega)).slh) ?_
  refine zlv xmv ?_
  refine zx6<|zlp (fun mm M w=>∃(c:Int) (j:Int),mm=((t.nf-j).toNat)/\(0<=j)/\(j<=t.nf)/\(c=Zz t r j.toNat)/\M= [(1,.pointer (some ⟨g1,0,none⟩)),(2,.int .i64 r),(3,.int .i64 c),(4,.bool false),(5,.int .i64 0),(8,(Xs (vv 0) 1)),(9,(Xs (vv (r+1)) 1)),(72,(Xs (vv (r+1)) 1)),(73,.int .i64 ((t.ln (r+1))-1)),(74,.int .i64 j)]/\Sat w0 w [.blk g1 [.int .i64 t.vars,.int .i64 t.den,vB,vF,vC]]) ⟨(-1),0,rfl,(by omega),(by omega),?_,rfl,hS⟩ ?_
  ·
   rfl
  clear hS w
  rintro mm M w ⟨c,j,rfl,j0,j1,hcc,rfl,hS⟩
  have hcr:=YJ t r j.toNat;rw [<-hcc] at hcr
  refine zsr ?_
  refine zlv Zk ?_
  refine zlt<|zsq ?_
  refine zcif ?_ ?_<;>intro hc
  ·
   refine zx3 ?_
   refine zlv xmv ?_
   refine zlv (xix (kk:=j) sl_22 (Yw (q:=1) (hT.C.p (r+1) (by omega) (by omega)).slh (hT.C.room (r+1) (by omega) (by omega)) (by omega)).slh) ?_
   refine zlv (xlr (u:= .int .i64 ((t.C (r+1)) (j+1))) pl_3 ((Yw (q:=1) (hT.C.p (r+1) (by omega) (by omega)).slh (hT.C.room (r+1) (by omega) (by omega)) (by omega)).row (by omega) ((hT.C.p (r+1) (by omega) (by omega)).below hS.below))) ?_
   refine zs2 ?_
   refine zx5 ?_
   refine zs2 ?_
   refine zlt ?_
   refine zcif ?_ ?_<;>intro hc
   ·
    refine zxt<|ztx<|zbh<|ztn<|zrg ?_
    refine zlv (xadd (r:=j+1)) ?_
    refine zlv xmv ?_
    refine zln<|zlq ⟨c,j+1,rfl,(by omega),(by omega),?_,rfl,hS⟩
    ·
     rw [Yt t r j0,<-hcc];(repeat' split)<;>omega
   refine zsk<|ztn<|zsq<|zsr ?_
   refine zs2 ?_
   have hcr:=YJ t r j.toNat;rw [<-hcc] at hcr
   refine zlt ?_
   refine zcif ?_ ?_<;>intro hc
   ·
    refine zsq ?_
    refine zdst [0] [0] 1000 mx_ hS ?_;clear hS;intro w hS
    refine zDrv 0 xmv ?_
    have hm1:=YO (hp.cell (i:=0) (j:=j+1) (by omega) (by omega) (by omega) (by omega)) (hp.cell (i:=r+1) (j:=c+1) (by omega) (by omega) (by omega) (by omega));have hm2:=YO (hp.cell (i:=0) (j:=c+1) (by omega) (by omega) (by omega) (by omega)) (hp.cell (i:=r+1) (j:=j+1) (by omega) (by omega) (by omega) (by omega))
    have hne:t.F j≠t.F c:=fun hh=>by have:=hp.injF (i:=j) (j:=c) (by omega) (by omega) (by omega) (by omega) (by omega) hh;omega
    refine zDrv 1 xmv ?_
    refine zDrv 2 (xix (kk:=j) sl_22 (Yw (q:=1) (hT.C.p 0 (by omega) (by omega)).slh (hT.C.room 0 (by omega) (by omega)) (by omega)).slh) ?_
    refine zdla 3 (fun w hS=>(xlr (u:= .int .i64 ((t.C 0) (j+1))) pl_3 ((Yw (q:=1) (hT.C.p 0 (by omega) (by omega)).slh (hT.C.room 0 (by omega) (by omega)) (by omega)).row (by omega) ((hT.C.p 0 (by omega) (by omega)).below hS.below)))) ?_
    refine zDrv 4 xmv ?_
    refine zDrv 5 xmv ?_
    refine zDrv 6 (xix (kk:=c) sl_22 (Yw (q:=1) (hT.C.p (r+1) (by omega) (by omega)).slh (hT.C.room (r+1) (by omega) (by omega)) (by omega)).slh) ?_
    refine zdla 7 (fun w hS=>(xlr (u:= .int .i64 ((t.C (r+1)) (c+1))) pl_3 ((Yw (q:=1) (hT.C.p (r+1) (by omega) (by omega)).slh (hT.C.room (r+1) (by omega) (by omega)) (by omega)).row (by omega) ((hT.C.p (r+1) (by omega) (by omega)).below hS.below)))) ?_
    refine zdv 8 (fun _=>(Xp (r:=(((t.C 0) (j+1))*((t.C (r+1)) (c+1)))) (e:=rfl) (hr:=(by unfold I64;omega)))) ?_
    refine zDrv 9 xmv ?_
    refine zDrv 10 xmv ?_
    refine zDrv 11 (xix (kk:=c) sl_22 (Yw (q:=1) (hT.C.p 0 (by omega) (by omega)).slh (hT.C.room 0 (by omega) (by omega)) (by omega)).slh) ?_
    refine zdla 12 (fun w hS=>(xlr (u:= .int .i64 ((t.C 0) (c+1))) pl_3 ((Yw (q:=1) (hT.C.p 0 (by omega) (by omega)).slh (hT.C.room 0 (by omega) (by omega)) (by omega)).row (by omega) ((hT.C.p 0 (by omega) (by omega)).below hS.below)))) ?_
    refine zDrv 13 xmv ?_
    refine zdv 14 (fun _=>(Xp (r:=(((t.C 0) (c+1))*((t.C (r+1)) (j+1)))) (e:=rfl) (hr:=(by unfold I64;omega)))) ?_
    refine zDrv 15 xas ?_
    refine zDrv 16 xas ?_
    refine zdd<|ztn<|zsq ?_
    refine zdst [0] [0] 1000 mx_ hS ?_;clear hS;intro w hS
    refine zDrv 0 xmv ?_
    refine zDrv 1 xmv ?_
    refine zDrv 2 xgtr ?_
    refine zDrv 3 xmv ?_
    refine zdb 101 ?_ ?_<;>intro hc
    ·
     refine zdof 4 ?_
     refine zdof 5 ?_
     refine zdof 6 ?_
     refine zdof 7 ?_
     refine zdof 8 ?_
     refine zdof 9 ?_
     refine zdof 10 ?_
     refine zdof 11 ?_
     refine zdof 12 ?_
     refine zdof 13 ?_
     refine zdof 14 ?_
     refine zdof 15 ?_
     refine zdof 16 ?_
     refine zdof 17 ?_
     refine zdof 18 ?_
     refine zdof 19 ?_
     refine zDrv 20 xpt ?_
     refine zdd<|ztn<|zct<|zxt<|ztx<|zbh<|ztn<|zrg ?_
     refine zlv (xadd (r:=j+1)) ?_
     refine zlv xmv ?_
     refine zln<|zlq ⟨c,j+1,rfl,(by omega),(by omega),?_,rfl,hS⟩
     ·
      rw [Yt t r j0,<-hcc];(repeat' split)<;>omega
    refine zDrv 4 xmv ?_
    refine zDrv 5 xmv ?_
    refine zDrv 6 xeql ?_
    refine zDrv 7 xmv ?_
    refine zdb 105 ?_ ?_<;>intro hc
    ·
     refine zDrv 8 (xfb 3 fd_108_3) ?_
     refine zdla 9 (fun w hS=>(xlb 0 pl_22 hS)) ?_
     refine zDrv 10 xmv ?_
     refine zDrv 11 (xix (kk:=j) sl_22 hT.F.slh) ?_
     refine zdla 12 (fun w hS=>(xlr (u:= .int .i64 (t.F j)) pl_3 (hT.F.below hS.below))) ?_
     refine zDrv 13 (xfb 3 fd_108_3) ?_
     refine zdla 14 (fun w hS=>(xlb 0 pl_22 hS)) ?_
     refine zDrv 15 xmv ?_
     refine zDrv 16 (xix (kk:=c) sl_22 hT.F.slh) ?_
     refine zdla 17 (fun w hS=>(xlr (u:= .int .i64 (t.F c)) pl_3 (hT.F.below hS.below))) ?_
     refine zDrv 18 xgtr ?_
     refine zDrv 19 xpt ?_
     refine zDrv 20 xpf ?_
     refine zdd<|ztn ?_
     refine zcif ?_ ?_<;>intro hc
     ·
      refine zxt<|ztx<|zbh<|ztn<|zrg ?_
      refine zlv (xadd (r:=j+1)) ?_
      refine zlv xmv ?_
      refine zln<|zlq ⟨c,j+1,rfl,(by omega),(by omega),?_,rfl,hS⟩
      ·
       rw [Yt t r j0,<-hcc];(repeat' split)<;>omega
     refine zsk<|ztn<|zrg ?_
     refine zs2 ?_
     refine zx10 ?_
     refine zlv (xadd (r:=j+1)) ?_
     refine zlv xmv ?_
     refine zln<|zlq ⟨j,j+1,rfl,(by omega),(by omega),?_,rfl,hS⟩
     ·
      rw [Yt t r j0,<-hcc];(repeat' split)<;>omega
    refine zdof 8 ?_
    refine zdof 9 ?_
    refine zdof 10 ?_
    refine zdof 11 ?_
    refine zdof 12 ?_
    refine zdof 13 ?_
    refine zdof 14 ?_
    refine zdof 15 ?_
    refine zdof 16 ?_
    refine zdof 17 ?_
    refine zdof 18 ?_
    refine zDrv 19 xpf ?_
    refine zDrv 20 xpf ?_
    refine zdd<|ztn<|zcf<|zsk<|ztn<|zrg ?_
    refine zs2 ?_
    refine zx10 ?_
    refine zlv (xadd (r:=j+1)) ?_
    refine zlv xmv ?_
    refine zln<|zlq ⟨j,j+1,rfl,(by omega),(by omega),?_,rfl,hS⟩
    ·
     rw [Yt t r j0,<-hcc];(repeat' split)<;>omega
   refine zsk<|ztn<|zrg ?_
   refine zs2 ?_
   refine zx10 ?_
   refine zlv (xadd (r:=j+1)) ?_
   refine zlv xmv ?_
   refine zln<|zlq ⟨j,j+1,rfl,(by omega),(by omega),?_,rfl,hS⟩
   ·
    rw [Yt t r j0,<-hcc];(repeat' split)<;>omega
  refine zxt<|ztx<|ztx<|zbh<|ztn<|zsq<|zsr ?_
  refine zs2 ?_
  refine zlt ?_
  refine zcif ?_ ?_<;>intro hc
  ·
   refine zsr ?_
   refine zs4 ?_
   refine zx14<|zf4 ⟨_,rfl,?_⟩
   obtain rfl:i=t.nb:=by omega
   obtain rfl:j=t.nf:=by omega
   subst hr;exact⟨_,_,_,_,rfl,.inr (.inr (.inl ⟨hp,(fun j j0 j1=>by have:=hax1 (j-1) (by omega) (by omega);rw [show j-1+1=j by omega] at this;omega),by omega,by omega,rfl,rfl,rfl,rfl⟩)),hS.nl⟩
  refine zsk<|ztn<|zsr ?_
  refine zs6 ?_
  refine zx1<|zf4 ⟨_,rfl,?_⟩
  obtain rfl:i=t.nb:=by omega
  obtain rfl:j=t.nf:=by omega
  subst hr;exact⟨_,_,_,_,rfl,.inr (.inr (.inr ⟨hp,(fun j j0 j1=>by have:=hax1 (j-1) (by omega) (by omega);rw [show j-1+1=j by omega] at this;omega),by omega,by omega,rfl,hcc,rfl,rfl⟩)),hS.nl⟩
set_option maxRecDepth 20000 in
theorem Zaf{vB vF vC:Value}{vv:Int->Value}{t:Tb}{row col:Int}(w0:World)(hT:TAt w0 vB vF vC vv t)(hrow0: -9223372036854775808<=row/\row<=9223372036854775807)(hcol0: -9223372036854775808<=col/\col<=9223372036854775807):
    Calls Try.prog 92 [.agg #[.int .i64 t.vars,.int .i64 t.den,vB,vF,vC],.int .i64 row,.int .i64 col].toArray w0 fun e w=>∃v,e= .returned v/\∃vB vF vC vv t' e,v= .tuple #[.agg #[.int .i64 t'.vars,.int .i64 t'.den,vB,vF,vC],.int .i64 e]/\PivR t row col t' e/\Slh vB t'.nb/\Slh vF t'.nf/\Slh vC t'.nc/\Sat w0 w [.own vB 1 3 t'.nb (ints t'.B),.own vF 1 3 t'.nf (ints t'.F),.own vC 1 22 t'.nc vv,.sem (Frame.rows 3 t'.nc vv t'.ln t'.C)]:=by
  have hn:=hT.F.slh.n0;have hn1:=hT.F.slh.n1;have hb:=hT.B.slh.n0;have hb1:=hT.B.slh.n1;have hc0:=hT.C.row.slh.n0;have hc1:=hT.C.row.slh.n1
  refine Zn Try.func92 Try.ntmps92 fun w hS=> ?_
  refine zsr ?_
  refine zla (xbx (cs:= [_,_,_,_,_]) hS) ?_;rintro _ w ⟨g1,rfl,hS⟩
  replace hS:=hS.n1
  refine zla (xal (cs:= [_,_,_,_,_]) Yd hS) ?_;rintro _ w ⟨g2,rfl,hS⟩
  replace hS:=hS.n2
  refine zlv xas ?_
  refine zx5 ?_
  refine zlv (xls 0 st_108 hS) ?_
  refine zlc (xc0 Vx) (XB (t:=t) w (hT.below hS.below)) ?_;rintro _ w ⟨rfl,hS'⟩
  replace hS:=hS.cmp hS';clear hS'
  refine zs2 ?_
  refine zlb 23 ?_ ?_<;>intro hc;rotate_left
  refine zlv xmv ?_
  have hp:=(Classical.not_not.1 ‹¬¬(TPrp t)›)
  have b1:=hp.n1
  have b2:=hp.n2
  have b3:=hp.m2
  have b4:=hp.v
  have b5:=hp.d1
  have b6:=hp.d2
  have b7:=hp.c
  refine zs3 ?_
  refine zlb 27 ?_ ?_<;>intro hc;rotate_left
  refine zlv xmv ?_
  refine zlv (xfb 2 fd_108_2) ?_
  refine zlv (xlb 0 pl_22 hS) ?_
  refine zlv (xln sl_22 hT.B.slh) ?_
  refine zs3 ?_
  refine zlb 34 ?_ ?_<;>intro hc;rotate_left
  refine zs4 ?_
  refine zlb 38 ?_ ?_<;>intro hc;rotate_left
  refine zlv xmv ?_
  refine zlv (xfb 3 fd_108_3) ?_
  refine zlv (xlb 0 pl_22 hS) ?_
  refine zlv (xln sl_22 hT.F.slh) ?_
  refine zs3 ?_
  refine zlb 45 ?_ ?_<;>intro hc;rotate_left
  refine zlv (xfb 4 fd_108_4) ?_
  refine zlv (xlb 0 pl_32 hS) ?_
  refine zlv xmv ?_
  refine zlv (xadd (r:=row+1)) ?_
  refine zlv (xix (kk:=row+1) sl_32 hT.C.row.slh) ?_
  refine zlv (xlr (u:=(vv (row+1))) pl_22 (hT.C.row.below hS.below)) ?_
  have hlr:=hp.len (i:=row+1) (by omega) (by omega)
  refine zlv xmv ?_
  refine zlv (xadd (r:=col+1)) ?_
  refine zlv (xix (kk:=col+1) sl_22 (hT.C.p (row+1) (by omega) (by omega)).slh) ?_
  refine zlv (xlr (u:= .int .i64 ((t.C (row+1)) (col+1))) pl_3 ((hT.C.p (row+1) (by omega) (by omega)).below hS.below)) ?_
  refine zs2 ?_
  refine zlt ?_
  refine zcif ?_ ?_<;>intro hc
  ·
   refine zsr ?_
   refine zlv (xany (v:= .agg #[.int .i64 0,.int .i64 0,.slice none 0 0,.slice none 0 0,.slice none 0 0])) ?_
   refine zle (xsw 1 st_108 hS) ?_;clear hS;rintro w hS
   replace hS:=hS.n2
   refine zlv xas ?_
   refine zx14<|Ym 1 st_108 hS ⟨_,rfl,?_⟩
   exact⟨_,_,_,fun _=>undef,Tb.zero,1,rfl,.inl ⟨by first|exact fun hh=>absurd hh.1 ‹_›|(rintro⟨_,p1,p2,p3,p4,p5⟩;omega),rfl,rfl⟩,slh_nil,slh_nil,slh_nil,((((hS.sub (.cons _ (.cons _ .slnil))).addnil 1 3 (ints Tb.zero.B)).addnil 1 3 (ints Tb.zero.F)).addnil 1 22 (fun _=>undef)).addrows 3 (fun _=>undef) Tb.zero.ln Tb.zero.C⟩
  refine zsk<|ztn<|zsr ?_
  refine zlv xmv ?_
  refine zlv (xadd (r:=row+1)) ?_
  have hnz:t.C (row+1) (col+1)≠0:=by omega
  have hpb:=hp.cell (i:=row+1) (j:=col+1) (by omega) (by omega) (by omega) (by omega)
  refine zlv xmv ?_
  refine zlv (xadd (r:=col+1)) ?_
  refine zs2 ?_
  refine zlt<|zsq ?_
  refine zdst [0,1] [0,1] 1000 mx_ hS ?_;clear hS;intro w hS
  refine zDrv 0 (xfb 4 fd_108_4) ?_
  refine zdla 1 (fun w hS=>(xlb 0 pl_32 hS)) ?_
  refine zDrv 2 xmv ?_
  refine zDrv 3 (xix (kk:=row+1) sl_32 hT.C.row.slh) ?_
  refine zdla 4 (fun w hS=>(xlr (u:=(vv (row+1))) pl_22 (hT.C.row.below hS.below))) ?_
  refine zDrv 5 xmv ?_
  refine zDrv 6 (xix (kk:=col+1) sl_22 (hT.C.p (row+1) (by omega) (by omega)).slh) ?_
  refine zdla 7 (fun w hS=>(xlr (u:= .int .i64 ((t.C (row+1)) (col+1))) pl_3 ((hT.C.p (row+1) (by omega) (by omega)).below hS.below))) ?_
  refine zDrv 8 (xfb 1 fd_108_1) ?_
  refine zdla 9 (fun w hS=>(xlb 0 pl_3 hS)) ?_
  refine zDrv 10 xas ?_
  refine zDrv 11 xas ?_
  refine zdd<|ztn<|zsq<| ?_
  refine T7 (fun M w=>∃(g3:Nat) (vq1:Value) (vq2:Value) (voq3:Value) (vwq3:Int->Value),(Slh vq1 t.nb)/\(Slh vq2 t.nf)/\(Slh voq3 t.nc)/\(∀k,0<=k->k<t.nc->Slh (vwq3 k) (t.ln k))/\M= [(0,.agg #[.int .i64 t.vars,.int .i64 t.den,vB,vF,vC]),(1,.int .i64 row),(2,.int .i64 col),(3,.pointer (some ⟨g1,0,none⟩)),(6,.pointer (some ⟨g2,0,none⟩)),(7,.int .i64 0),(20,.agg #[.int .i64 t.vars,.int .i64 t.den,vB,vF,vC]),(21,B (TPrp t)),(22,B (¬(TPrp t))),(23,.bool false),(24,.int .i64 row),(25,B (row<0)),(26,B (row<0)),(27,.bool false),(28,.int .i64 row),(29,.pointer (some ⟨g1,2,none⟩)),(30,vB),(31,.int .i64 t.nb),(32,B (t.nb<=row)),(33,B (t.nb<=row)),(34,.bool false),(35,.int .i64 col),(36,B (col<0)),(37,B (col<0)),(38,.bool false),(39,.int .i64 col),(40,.pointer (some ⟨g1,3,none⟩)),(41,vF),(42,.int .i64 t.nf),(43,B (t.nf<=col)),(44,B (t.nf<=col)),(45,.bool false),(46,.pointer (some ⟨g1,4,none⟩)),(47,vC),(48,.int .i64 row),(49,.int .i64 (row+1)),(50,.pointer (some (cad vC (row+1)))),(51,(vv (row+1))),(52,.int .i64 col),(53,.int .i64 (col+1)),(54,.pointer (some (cad (vv (row+1)) (col+1)))),(55,.int .i64 ((t.C (row+1)) (col+1))),(56,B (((t.C (row+1)) (col+1))=0)),(57,B (((t.C (row+1)) (col+1))=0)),(59,.int .i64 row),(60,.int .i64 (row+1)),(61,.int .i64 col),(62,.int .i64 (col+1)),(8,.int .i64 (row+1)),(9,.int .i64 (col+1)),(63,.pointer (some ⟨g1,4,none⟩)),(64,vC),(65,.int .i64 (row+1)),(66,.pointer (some (cad vC (row+1)))),(67,(vv (row+1))),(68,.int .i64 (col+1)),(69,.pointer (some (cad (vv (row+1)) (col+1)))),(70,.int .i64 ((t.C (row+1)) (col+1))),(71,.pointer (some ⟨g1,1,none⟩)),(72,.int .i64 t.den),(10,.int .i64 ((t.C (row+1)) (col+1))),(11,.int .i64 t.den),(73,.pointer (some ⟨g1,0,none⟩)),(74,.int .i64 t.vars),(75,.int .i64 ((t.C (row+1)) (col+1))),(76,.pointer (some ⟨g1,2,none⟩)),(77,vB),(79,.pointer (some ⟨g1,3,none⟩)),(80,vF),(82,.pointer (some ⟨g1,4,none⟩)),(83,vC),(78,vq1),(81,vq2),(84,voq3),(85,.agg #[.int .i64 t.vars,.int .i64 ((t.C (row+1)) (col+1)),vq1,vq2,voq3]),(12,.pointer (some ⟨g3,0,none⟩))]/\Sat w0 w [.blk g1 [.int .i64 t.vars,.int .i64 t.den,vB,vF,vC],.blk g2 [.int .i64 0,.int .i64 0,.slice none 0 0,.slice none 0 0,.slice none 0 0],.own vq1 1 3 t.nb (ints t.B),.own vq2 1 3 t.nf (ints t.F),.own voq3 1 22 t.nc vwq3,.sem (Frame.rows 3 t.nc vwq3 t.ln t.C),.blk g3 [.int .i64 t.vars,.int .i64 ((t.C (row+1)) (col+1)),vq1,vq2,voq3]]) ?_ ?_
  ·
   refine zdst [0,1] [0,1] 14 mx_ hS ?_;clear hS;intro w hS
   refine zDrv 0 (xfb 0 fd_108_0) ?_
   refine zdla 1 (fun w hS=>(xlb 0 pl_3 hS)) ?_
   refine zDrv 2 xmv ?_
   refine zDrv 3 (xfb 2 fd_108_2) ?_
   refine zdla 4 (fun w hS=>(xlb 0 pl_22 hS)) ?_
   refine zDrv 6 (xfb 3 fd_108_3) ?_
   refine zdla 7 (fun w hS=>(xlb 0 pl_22 hS)) ?_
   refine zDrv 9 (xfb 4 fd_108_4) ?_
   refine zdla 10 (fun w hS=>(xlb 0 pl_32 hS)) ?_
   refine X8 (r:= [5,13]) ((Yu ?_ (Yu ?_ X7)))
   ·
    refine zkc (xc0 XA) (Yq (n:=t.nb) (f:=t.B) w (hT.B.below hS.below) (by omega)) ?_;rintro vq1 w ⟨_,rfl,hslq1,hS'⟩
    replace hS:Sat w0 w [.blk g1 [.int .i64 t.vars,.int .i64 t.den,vB,vF,vC],.blk g2 [.int .i64 0,.int .i64 0,.slice none 0 0,.slice none 0 0,.slice none 0 0],.own vq1 1 3 t.nb (ints t.B)]:=hS.comp hS';clear hS'
    refine⟨⟨fun _=>hS.pk [0,1],hS.pk [0,1]⟩,?_⟩
    refine X8 (r:= [8,13]) ((Yu ?_ (Yu ?_ X7)))
    ·
     refine zkc (xc0 XA) (Yq (n:=t.nf) (f:=t.F) w (hT.F.below hS.below) (by omega)) ?_;rintro vq2 w ⟨_,rfl,hslq2,hS'⟩
     replace hS:Sat w0 w [.blk g1 [.int .i64 t.vars,.int .i64 t.den,vB,vF,vC],.blk g2 [.int .i64 0,.int .i64 0,.slice none 0 0,.slice none 0 0,.slice none 0 0],.own vq1 1 3 t.nb (ints t.B),.own vq2 1 3 t.nf (ints t.F)]:=hS.comp hS';clear hS'
     refine⟨⟨fun _=>hS.pk [0,1],hS.pk [0,1]⟩,?_⟩
     refine X8 (r:= [11,13]) ((Yu ?_ (Yu ?_ X7)))
     ·
      refine zkc (xc0 Vw) (XC (n:=t.nc) (vv:=vv) (ln:=t.ln) (f:=t.C) w (hT.C.below hS.below) (by omega) (fun k k0 k1=>by have:=hp.len (i:=k) (by omega) (by omega);omega)) ?_;rintro voq3 w ⟨_,vwq3,rfl,hslq3,hS'⟩
      replace hS:Sat w0 w [.blk g1 [.int .i64 t.vars,.int .i64 t.den,vB,vF,vC],.blk g2 [.int .i64 0,.int .i64 0,.slice none 0 0,.slice none 0 0,.slice none 0 0],.own vq1 1 3 t.nb (ints t.B),.own vq2 1 3 t.nf (ints t.F),.own voq3 1 22 t.nc vwq3,.sem (Frame.rows 3 t.nc vwq3 t.ln t.C)]:=hS.comp hS';clear hS'
      have hrsq3:=fun k (k0:0<=k) (k1:k<t.nc)=>hS.slhIn 5 rfl k0 k1
      refine⟨⟨fun _=>hS.pk [0,1],hS.pk [0,1]⟩,?_⟩
      refine zdv 12 (fun _=>(xany (v:= .agg #[.int .i64 t.vars,.int .i64 ((t.C (row+1)) (col+1)),vq1,vq2,voq3]) (hr:=by obtain⟨_,_,_,_,rfl,_⟩:=hslq1;obtain⟨_,_,_,_,rfl,_⟩:=hslq2;obtain⟨_,_,_,_,rfl,_⟩:=hslq3;kernel_rfl))) ?_
      refine zda 13 (xal (cs:= [_,_,_,_,_]) Yd hS) ?_;rintro _ w ⟨g3,rfl,hS⟩
      replace hS:=hS.n7
      refine⟨⟨fun _=>hS.pk [0,1],hS.pk [0,1]⟩,?_⟩
      refine zde 14 (xsw 6 st_108 hS (hd:=(Za rfl (Za rfl (Za hslq1.one (Za hslq2.one (Za hslq3.one Zh))))))) ?_;clear hS;rintro w hS
      replace hS:=hS.n7
      refine⟨⟨fun h=>absurd h (by decide),hS.pk [0,1]⟩,?_⟩
      refine zdd<|zgj ⟨g3,vq1,vq2,voq3,vwq3,hslq1,hslq2,hslq3,hrsq3,rfl,hS⟩
     refine zka (xal (cs:= [_,_,_,_,_]) Yd hS) ?_;rintro _ w ⟨g3,rfl,hS⟩
     replace hS:=hS.n5
     refine⟨⟨fun _=>hS.pk [0,1],hS.pk [0,1]⟩,?_⟩
     refine zdc 11 (xc0 Vw) (XC (n:=t.nc) (vv:=vv) (ln:=t.ln) (f:=t.C) w (hT.C.below hS.below) (by omega) (fun k k0 k1=>by have:=hp.len (i:=k) (by omega) (by omega);omega)) ?_;rintro voq3 w ⟨_,vwq3,rfl,hslq3,hS'⟩
     replace hS:Sat w0 w [.blk g1 [.int .i64 t.vars,.int .i64 t.den,vB,vF,vC],.blk g2 [.int .i64 0,.int .i64 0,.slice none 0 0,.slice none 0 0,.slice none 0 0],.own vq1 1 3 t.nb (ints t.B),.own vq2 1 3 t.nf (ints t.F),.blk g3 [.int .i64 0,.int .i64 0,.slice none 0 0,.slice none 0 0,.slice none 0 0],.own voq3 1 22 t.nc vwq3,.sem (Frame.rows 3 t.nc vwq3 t.ln t.C)]:=hS.comp hS';clear hS'
     have hrsq3:=fun k (k0:0<=k) (k1:k<t.nc)=>hS.slhIn 6 rfl k0 k1
     refine⟨⟨fun _=>hS.pk [0,1],hS.pk [0,1]⟩,?_⟩
     refine zdv 12 (fun _=>(xany (v:= .agg #[.int .i64 t.vars,.int .i64 ((t.C (row+1)) (col+1)),vq1,vq2,voq3]) (hr:=by obtain⟨_,_,_,_,rfl,_⟩:=hslq1;obtain⟨_,_,_,_,rfl,_⟩:=hslq2;obtain⟨_,_,_,_,rfl,_⟩:=hslq3;kernel_rfl))) ?_
     refine zde 14 (xsw 4 st_108 hS (hd:=(Za rfl (Za rfl (Za hslq1.one (Za hslq2.one (Za hslq3.one Zh))))))) ?_;clear hS;rintro w hS
     replace hS:=hS.n7
     refine⟨⟨fun h=>absurd h (by decide),hS.pk [0,1]⟩,?_⟩
     refine zdd<|zgj ⟨g3,vq1,vq2,voq3,vwq3,hslq1,hslq2,hslq3,hrsq3,rfl,hS.pk [0,1,2,3,5,6,4]⟩
    refine zka (xal (cs:= [_,_,_,_,_]) Yd hS) ?_;rintro _ w ⟨g3,rfl,hS⟩
    replace hS:=hS.n4
    refine⟨⟨fun _=>hS.pk [0,1],hS.pk [0,1]⟩,?_⟩
    refine zdc 8 (xc0 XA) (Yq (n:=t.nf) (f:=t.F) w (hT.F.below hS.below) (by omega)) ?_;rintro vq2 w ⟨_,rfl,hslq2,hS'⟩
    replace hS:Sat w0 w [.blk g1 [.int .i64 t.vars,.int .i64 t.den,vB,vF,vC],.blk g2 [.int .i64 0,.int .i64 0,.slice none 0 0,.slice none 0 0,.slice none 0 0],.own vq1 1 3 t.nb (ints t.B),.blk g3 [.int .i64 0,.int .i64 0,.slice none 0 0,.slice none 0 0,.slice none 0 0],.own vq2 1 3 t.nf (ints t.F)]:=hS.comp hS';clear hS'
    refine⟨⟨fun _=>hS.pk [0,1],hS.pk [0,1]⟩,?_⟩
    refine zdc 11 (xc0 Vw) (XC (n:=t.nc) (vv:=vv) (ln:=t.ln) (f:=t.C) w (hT.C.below hS.below) (by omega) (fun k k0 k1=>by have:=hp.len (i:=k) (by omega) (by omega);omega)) ?_;rintro voq3 w ⟨_,vwq3,rfl,hslq3,hS'⟩
    replace hS:Sat w0 w [.blk g1 [.int .i64 t.vars,.int .i64 t.den,vB,vF,vC],.blk g2 [.int .i64 0,.int .i64 0,.slice none 0 0,.slice none 0 0,.slice none 0 0],.own vq1 1 3 t.nb (ints t.B),.blk g3 [.int .i64 0,.int .i64 0,.slice none 0 0,.slice none 0 0,.slice none 0 0],.own vq2 1 3 t.nf (ints t.F),.own voq3 1 22 t.nc vwq3,.sem (Frame.rows 3 t.nc vwq3 t.ln t.C)]:=hS.comp hS';clear hS'
    have hrsq3:=fun k (k0:0<=k) (k1:k<t.nc)=>hS.slhIn 6 rfl k0 k1
    refine⟨⟨fun _=>hS.pk [0,1],hS.pk [0,1]⟩,?_⟩
    refine zdv 12 (fun _=>(xany (v:= .agg #[.int .i64 t.vars,.int .i64 ((t.C (row+1)) (col+1)),vq1,vq2,voq3]) (hr:=by obtain⟨_,_,_,_,rfl,_⟩:=hslq1;obtain⟨_,_,_,_,rfl,_⟩:=hslq2;obtain⟨_,_,_,_,rfl,_⟩:=hslq3;kernel_rfl))) ?_
    refine zde 14 (xsw 3 st_108 hS (hd:=(Za rfl (Za rfl (Za hslq1.one (Za hslq2.one (Za hslq3.one Zh))))))) ?_;clear hS;rintro w hS
    replace hS:=hS.n7
    refine⟨⟨fun h=>absurd h (by decide),hS.pk [0,1]⟩,?_⟩
    refine zdd<|zgj ⟨g3,vq1,vq2,voq3,vwq3,hslq1,hslq2,hslq3,hrsq3,rfl,hS.pk [0,1,2,4,5,6,3]⟩
   refine zka (xal (cs:= [_,_,_,_,_]) Yd hS) ?_;rintro _ w ⟨g3,rfl,hS⟩
   replace hS:=hS.n3
   refine⟨⟨fun _=>hS.pk [0,1],hS.pk [0,1]⟩,?_⟩
   refine zdc 5 (xc0 XA) (Yq (n:=t.nb) (f:=t.B) w (hT.B.below hS.below) (by omega)) ?_;rintro vq1 w ⟨_,rfl,hslq1,hS'⟩
   replace hS:Sat w0 w [.blk g1 [.int .i64 t.vars,.int .i64 t.den,vB,vF,vC],.blk g2 [.int .i64 0,.int .i64 0,.slice none 0 0,.slice none 0 0,.slice none 0 0],.blk g3 [.int .i64 0,.int .i64 0,.slice none 0 0,.slice none 0 0,.slice none 0 0],.own vq1 1 3 t.nb (ints t.B)]:=hS.comp hS';clear hS'
   refine⟨⟨fun _=>hS.pk [0,1],hS.pk [0,1]⟩,?_⟩
   refine zdc 8 (xc0 XA) (Yq (n:=t.nf) (f:=t.F) w (hT.F.below hS.below) (by omega)) ?_;rintro vq2 w ⟨_,rfl,hslq2,hS'⟩
   replace hS:Sat w0 w [.blk g1 [.int .i64 t.vars,.int .i64 t.den,vB,vF,vC],.blk g2 [.int .i64 0,.int .i64 0,.slice none 0 0,.slice none 0 0,.slice none 0 0],.blk g3 [.int .i64 0,.int .i64 0,.slice none 0 0,.slice none 0 0,.slice none 0 0],.own vq1 1 3 t.nb (ints t.B),.own vq2 1 3 t.nf (ints t.F)]:=hS.comp hS';clear hS'
   refine⟨⟨fun _=>hS.pk [0,1],hS.pk [0,1]⟩,?_⟩
   refine zdc 11 (xc0 Vw) (XC (n:=t.nc) (vv:=vv) (ln:=t.ln) (f:=t.C) w (hT.C.below hS.below) (by omega) (fun k k0 k1=>by have:=hp.len (i:=k) (by omega) (by omega);omega)) ?_;rintro voq3 w ⟨_,vwq3,rfl,hslq3,hS'⟩
   replace hS:Sat w0 w [.blk g1 [.int .i64 t.vars,.int .i64 t.den,vB,vF,vC],.blk g2 [.int .i64 0,.int .i64 0,.slice none 0 0,.slice none 0 0,.slice none 0 0],.blk g3 [.int .i64 0,.int .i64 0,.slice none 0 0,.slice none 0 0,.slice none 0 0],.own vq1 1 3 t.nb (ints t.B),.own vq2 1 3 t.nf (ints t.F),.own voq3 1 22 t.nc vwq3,.sem (Frame.rows 3 t.nc vwq3 t.ln t.C)]:=hS.comp hS';clear hS'
   have hrsq3:=fun k (k0:0<=k) (k1:k<t.nc)=>hS.slhIn 6 rfl k0 k1
   refine⟨⟨fun _=>hS.pk [0,1],hS.pk [0,1]⟩,?_⟩
   refine zdv 12 (fun _=>(xany (v:= .agg #[.int .i64 t.vars,.int .i64 ((t.C (row+1)) (col+1)),vq1,vq2,voq3]) (hr:=by obtain⟨_,_,_,_,rfl,_⟩:=hslq1;obtain⟨_,_,_,_,rfl,_⟩:=hslq2;obtain⟨_,_,_,_,rfl,_⟩:=hslq3;kernel_rfl))) ?_
   refine zde 14 (xsw 2 st_108 hS (hd:=(Za rfl (Za rfl (Za hslq1.one (Za hslq2.one (Za hslq3.one Zh))))))) ?_;clear hS;rintro w hS
   replace hS:=hS.n7
   refine⟨⟨fun h=>absurd h (by decide),hS.pk [0,1]⟩,?_⟩
   refine zdd<|zgj ⟨g3,vq1,vq2,voq3,vwq3,hslq1,hslq2,hslq3,hrsq3,rfl,hS.pk [0,1,3,4,5,6,2]⟩
  clear hS w;rintro M w ⟨g3,vq1,vq2,voq3,vwq3,hslq1,hslq2,hslq3,hrsq3,rfl,hS⟩
  refine ztn<|zsq ?_
  refine zdst [0,1,2,3,4,5,6] [0,1,4,5,6] 17 mx_ hS ?_;clear hS;intro w hS
  refine zDrv 0 (xfb 2 fd_108_2) ?_
  refine zdla 1 (fun w hS=>(xlb 4 pl_22 hS)) ?_
  refine zDrv 2 xmv ?_
  refine zDrv 3 (xfb 3 fd_108_3) ?_
  refine zdla 4 (fun w hS=>(xlb 4 pl_22 hS)) ?_
  refine zDrv 5 xmv ?_
  refine zDrv 6 (xfb 3 fd_108_3) ?_
  refine zdla 7 (fun w hS=>(xlb 0 pl_22 hS)) ?_
  refine zDrv 8 xmv ?_
  refine zDrv 9 (xix (kk:=col) sl_22 hT.F.slh) ?_
  refine zdla 10 (fun w hS=>(xlr (u:= .int .i64 (t.F col)) pl_3 (hT.F.below hS.below))) ?_
  refine zDrv 11 (xfb 2 fd_108_2) ?_
  refine zdla 12 (fun w hS=>(xlb 0 pl_22 hS)) ?_
  refine zDrv 13 xmv ?_
  refine zDrv 14 (xix (kk:=row) sl_22 hT.B.slh) ?_
  refine zdla 15 (fun w hS=>(xlr (u:= .int .i64 (t.B row)) pl_3 (hT.B.below hS.below))) ?_
  refine zDrv 16 (xix (kk:=row) sl_22 hslq1) ?_
  refine zde 17 (xso 2 pl_3 hS (ZZ _ _ _)) ?_;clear hS;rintro w hS
  replace hS:=hS.n7
  refine⟨⟨fun h=>absurd h (by decide),hS.pk [0,1,4,5,6]⟩,?_⟩
  refine zDrv 18 (xix (kk:=col) sl_22 hslq2) ?_
  refine zde 19 (xso 3 pl_3 hS (ZZ _ _ _)) ?_;clear hS;rintro w hS
  replace hS:=hS.n7
  refine⟨⟨fun h=>absurd h (by decide),hS.pk [0,1,4,5,6]⟩,?_⟩
  refine zdd<|ztn<|zsq<|zsr ?_
  refine zlv (xfb 4 fd_108_4) ?_
  refine zlv (xlb 0 pl_32 hS) ?_
  refine zlv (xln sl_32 hT.C.row.slh) ?_
  refine zlv xmv ?_
  refine zx6<|zlp (fun mm M w=>∃(cf:Int->Int->Int) (i:Int),mm=((t.nc-i).toNat)/\(0<=i)/\(i<=t.nc)/\(∀a b,0<=a->a<i->0<=b->b<=t.nf->cf a b=ZD t (row+1) (col+1) a b)/\(∀a b,0<=a->a<i->0<=b->b<=t.nf->Zbj t (row+1) (col+1) a b)/\M= [(3,.pointer (some ⟨g1,0,none⟩)),(6,.pointer (some ⟨g2,0,none⟩)),(8,.int .i64 (row+1)),(9,.int .i64 (col+1)),(10,.int .i64 ((t.C (row+1)) (col+1))),(11,.int .i64 t.den),(12,.pointer (some ⟨g3,0,none⟩)),(105,vC),(106,.int .i64 t.nc),(107,.int .i64 i)]/\Sat w0 w [.blk g1 [.int .i64 t.vars,.int .i64 t.den,vB,vF,vC],.blk g2 [.int .i64 0,.int .i64 0,.slice none 0 0,.slice none 0 0,.slice none 0 0],.own vq1 1 3 t.nb (ints (upd t.B row (t.F col))),.own vq2 1 3 t.nf (ints (upd t.F col (t.B row))),.own voq3 1 22 t.nc vwq3,.sem (Frame.rows 3 t.nc vwq3 t.ln cf),.blk g3 [.int .i64 t.vars,.int .i64 ((t.C (row+1)) (col+1)),vq1,vq2,voq3]]) ⟨t.C,0,rfl,(by omega),(by omega),?_,?_,rfl,hS⟩ ?_
  ·
   intro a b a0 a1;omega
  ·
   intro a b a0 a1;omega
  clear hS w
  rintro mm M w ⟨cf,i,rfl,h0,h1,hcf,hdv,rfl,hS⟩
  refine zsr ?_
  refine zlv Zk ?_
  refine zlt<|zsq ?_
  refine zcif ?_ ?_<;>intro hc
  ·
   refine zx3 ?_
   refine zlv xmv ?_
   refine zlv (xix (kk:=i) sl_32 hT.C.row.slh) ?_
   refine zlv (xlr (u:=(vv i)) pl_22 (hT.C.row.below hS.below)) ?_
   have hli:=hp.len (i:=i) (by omega) (by omega)
   refine zs2 ?_
   refine zlz ?_
   refine zlv xmv ?_
   refine zlv (xln sl_22 (hT.C.p i (by omega) (by omega)).slh) ?_
   refine zlv xmv ?_
   refine zx6<|zlp (fun mm M w=>∃(cf:Int->Int->Int) (j:Int),mm=((t.nf+1-j).toNat)/\(0<=j)/\(j<=t.nf+1)/\(∀a b,0<=a->a<i->0<=b->b<=t.nf->cf a b=ZD t (row+1) (col+1) a b)/\(∀b,0<=b->b<j->cf i b=ZD t (row+1) (col+1) i b)/\(∀b,0<=b->b<j->Zbj t (row+1) (col+1) i b)/\M= [(3,.pointer (some ⟨g1,0,none⟩)),(6,.pointer (some ⟨g2,0,none⟩)),(8,.int .i64 (row+1)),(9,.int .i64 (col+1)),(10,.int .i64 ((t.C (row+1)) (col+1))),(11,.int .i64 t.den),(12,.pointer (some ⟨g3,0,none⟩)),(13,.int .i64 i),(14,(vv i)),(105,vC),(106,.int .i64 t.nc),(107,.int .i64 i),(112,(vv i)),(113,.int .i64 (t.ln i)),(114,.int .i64 j)]/\Sat w0 w [.blk g1 [.int .i64 t.vars,.int .i64 t.den,vB,vF,vC],.blk g2 [.int .i64 0,.int .i64 0,.slice none 0 0,.slice none 0 0,.slice none 0 0],.own vq1 1 3 t.nb (ints (upd t.B row (t.F col))),.own vq2 1 3 t.nf (ints (upd t.F col (t.B row))),.own voq3 1 22 t.nc vwq3,.sem (Frame.rows 3 t.nc vwq3 t.ln cf),.blk g3 [.int .i64 t.vars,.int .i64 ((t.C (row+1)) (col+1)),vq1,vq2,voq3]]) ⟨cf,0,rfl,(by omega),(by omega),?_,?_,?_,rfl,hS⟩ ?_
   ·
    exact hcf
   ·
    intro b b0 b1;omega
   ·
    intro b b0 b1;omega
   clear hS w
   rintro mm M w ⟨cf,j,rfl,j0,j1,hold,hrow,hdr,rfl,hS⟩
   refine zsr ?_
   refine zlv Zk ?_
   refine zlt<|zsq ?_
   refine zcif ?_ ?_<;>intro hc
   ·
    refine zx3 ?_
    refine zlv xmv ?_
    refine zlv (xix (kk:=j) sl_22 (hT.C.p i (by omega) (by omega)).slh) ?_
    refine zlv (xlr (u:= .int .i64 ((t.C i) j)) pl_3 ((hT.C.p i (by omega) (by omega)).below hS.below)) ?_
    have hcb:=hp.cell (i:=i) (j:=j) (by omega) (by omega) (by omega) (by omega)
    refine zs2 ?_
    refine zlt<|zsq<|zbk<|zsr ?_
    refine zs4 ?_
    refine zlb 123 ?_ ?_<;>intro hc
    ·
     refine zs5 ?_
     refine zlt ?_
     refine zcif ?_ ?_<;>intro hc
     ·
      refine zrg ?_
      refine zs2 ?_
      refine zx10 ?_
      refine zlv (xfb 4 fd_108_4) ?_
      refine zlv (xlb 6 pl_32 hS) ?_
      refine zlv xmv ?_
      refine zlv (xix (kk:=i) sl_32 hslq3) ?_
      refine zlv (xlr (u:=(vwq3 i)) pl_22 (hS.rowN 4 rfl)) ?_
      skip
      refine zs2 ?_
      refine zlv (xix (kk:=j) sl_22 (hrsq3 i (by omega) (by omega))) ?_
      refine zle (xsr 5 pl_3 hS rfl) ?_;clear hS;rintro w hS
      replace hS:=hS.n7
      refine zx10 ?_
      refine zlv (xadd (r:=j+1)) ?_
      refine zlv xmv ?_
      refine zln<|zlq ⟨upd cf i (upd (cf i) j t.den),j+1,rfl,(by omega),(by omega),?_,?_,?_,rfl,hS⟩
      ·
       intro a b a0 a1 b0 b1;rw [gu_ne (by omega)];exact hold a b a0 a1 b0 b1
      ·
       intro b b0 b1
       by_cases e:b=j
       · subst e;rw [gu_self,gu_self];unfold ZD;(repeat' split)<;>first|rfl|omega|(exfalso;omega)
       · rw [gu_self,gu_ne e];exact hrow b b0 (by omega)
      ·
       intro b b0 b1
       by_cases e:b=j
       · subst e;intro e1 e2;first|omega|exact Classical.not_not.1 ‹_›
       · exact hdr b b0 (by omega)
     refine zsr ?_
     refine zs2 ?_
     refine zlv (xkt xeql) ?_
     refine zlv xas ?_
     refine zlt<|zct<|zrg ?_
     refine zlv xmv ?_
     refine zlv (xneg (r:= -(((t.C i) j))) (hr:=(by unfold I64;omega))) ?_
     refine zlv xas ?_
     refine zx10 ?_
     refine zlv (xfb 4 fd_108_4) ?_
     refine zlv (xlb 6 pl_32 hS) ?_
     refine zlv xmv ?_
     refine zlv (xix (kk:=i) sl_32 hslq3) ?_
     refine zlv (xlr (u:=(vwq3 i)) pl_22 (hS.rowN 4 rfl)) ?_
     skip
     refine zs2 ?_
     refine zlv (xix (kk:=j) sl_22 (hrsq3 i (by omega) (by omega))) ?_
     refine zle (xsr 5 pl_3 hS rfl) ?_;clear hS;rintro w hS
     replace hS:=hS.n7
     refine zx10 ?_
     refine zlv (xadd (r:=j+1)) ?_
     refine zlv xmv ?_
     refine zln<|zlq ⟨upd cf i (upd (cf i) j (-(((t.C i) j)))),j+1,rfl,(by omega),(by omega),?_,?_,?_,rfl,hS⟩
     ·
      intro a b a0 a1 b0 b1;rw [gu_ne (by omega)];exact hold a b a0 a1 b0 b1
     ·
      intro b b0 b1
      by_cases e:b=j
      · subst e;rw [gu_self,gu_self];unfold ZD;(repeat' split)<;>first|rfl|omega|(exfalso;omega)
      · rw [gu_self,gu_ne e];exact hrow b b0 (by omega)
     ·
      intro b b0 b1
      by_cases e:b=j
      · subst e;intro e1 e2;first|omega|exact Classical.not_not.1 ‹_›
      · exact hdr b b0 (by omega)
    iterate 3 refine zlo ?_
    refine zs2 ?_
    refine zlt<|zcf<|zsr ?_
    refine zs4 ?_
    refine zlt ?_
    refine zcif ?_ ?_<;>intro hc
    ·
     exfalso;omega
    refine zsr ?_
    refine zs4 ?_
    refine zlt ?_
    refine zcif ?_ ?_<;>intro hc
    ·
     refine zsq ?_
     refine zdst [0,1,2,3,4,5,6] [0,1,2,3,4,5,6] 1000 mx_ hS ?_;clear hS;intro w hS
     refine zDrv 0 xmv ?_
     have hm1:=YO hpb hcb;have hm2:=YO (hp.cell (i:=i) (j:=col+1) (by omega) (by omega) (by omega) (by omega)) (hp.cell (i:=row+1) (j:=j) (by omega) (by omega) (by omega) (by omega))
     have hqd:=Yk (a:=t.C (row+1) (col+1)*t.C i j-t.C i (col+1)*t.C (row+1) j) (d:=t.den) (A:=2305843009213693952) (by omega) (by omega)
     refine zDrv 1 xmv ?_
     refine zdv 2 (fun _=>(Xp (r:=(((t.C (row+1)) (col+1))*((t.C i) j))) (e:=rfl) (hr:=(by unfold I64;omega)))) ?_
     refine zDrv 3 xmv ?_
     refine zDrv 4 xmv ?_
     refine zDrv 5 (xix (kk:=col+1) sl_22 (hT.C.p i (by omega) (by omega)).slh) ?_
     refine zdla 6 (fun w hS=>(xlr (u:= .int .i64 ((t.C i) (col+1))) pl_3 ((hT.C.p i (by omega) (by omega)).below hS.below))) ?_
     refine zDrv 7 (xfb 4 fd_108_4) ?_
     refine zdla 8 (fun w hS=>(xlb 0 pl_32 hS)) ?_
     refine zDrv 9 xmv ?_
     refine zDrv 10 (xix (kk:=row+1) sl_32 hT.C.row.slh) ?_
     refine zdla 11 (fun w hS=>(xlr (u:=(vv (row+1))) pl_22 (hT.C.row.below hS.below))) ?_
     refine zDrv 12 xmv ?_
     refine zDrv 13 (xix (kk:=j) sl_22 (hT.C.p (row+1) (by omega) (by omega)).slh) ?_
     refine zdla 14 (fun w hS=>(xlr (u:= .int .i64 ((t.C (row+1)) j)) pl_3 ((hT.C.p (row+1) (by omega) (by omega)).below hS.below))) ?_
     refine zdv 15 (fun _=>(Xp (r:=(((t.C i) (col+1))*((t.C (row+1)) j))) (e:=rfl) (hr:=(by unfold I64;omega)))) ?_
     refine zdv 16 (fun _=>(xsub (r:=(((t.C (row+1)) (col+1))*((t.C i) j))-(((t.C i) (col+1))*((t.C (row+1)) j))) (hr:=(by unfold I64;omega)))) ?_
     refine zDrv 17 xas ?_
     refine zdd<|ztn<|zsq<|zsr ?_
     refine zs2 ?_
     refine zlv (xrem (r:=(Int.tmod ((((t.C (row+1)) (col+1))*((t.C i) j))-(((t.C i) (col+1))*((t.C (row+1)) j))) t.den)) (hn:=(by omega))) ?_
     refine zlv Yj ?_
     refine zlt ?_
     refine zcif ?_ ?_<;>intro hc
     ·
      refine zsr ?_
      refine zlv (xany (v:= .agg #[.int .i64 0,.int .i64 0,.slice none 0 0,.slice none 0 0,.slice none 0 0])) ?_
      refine zle (xsw 1 st_108 hS) ?_;clear hS;rintro w hS
      replace hS:=hS.n7
      refine zlv xas ?_
      refine zlt<|zrt<|ztr<|zbr<|ztr<|zbr<|ztr<|ztr<|zbr<|zbr<|ztr<|ztr<|zbr<|ztr<|Ym 1 st_108 hS ⟨_,rfl,?_⟩
      exact⟨_,_,_,fun _=>undef,Tb.zero,4,rfl,.inr (.inl ⟨⟨hp,by omega,by omega,by omega,by omega,hnz⟩,fun hd=>by have:=hd i j h0 (by omega) j0 (by omega) (by omega) (by omega);omega,rfl,rfl⟩),slh_nil,slh_nil,slh_nil,((((hS.sub (.cons _ (.cons _ (.cons _ (.cons _ (.cons _ (.cons _ (.cons _ .slnil)))))))).addnil 1 3 (ints Tb.zero.B)).addnil 1 3 (ints Tb.zero.F)).addnil 1 22 (fun _=>undef)).addrows 3 (fun _=>undef) Tb.zero.ln Tb.zero.C⟩
     refine zsk<|ztn<|zrg ?_
     refine zs2 ?_
     refine zlv (UA (r:=(Int.tdiv ((((t.C (row+1)) (col+1))*((t.C i) j))-(((t.C i) (col+1))*((t.C (row+1)) j))) t.den)) (hn:=(by omega)) (hr:=(by unfold I64;omega))) ?_
     refine zlv xas ?_
     refine zx10 ?_
     refine zlv (xfb 4 fd_108_4) ?_
     refine zlv (xlb 6 pl_32 hS) ?_
     refine zlv xmv ?_
     refine zlv (xix (kk:=i) sl_32 hslq3) ?_
     refine zlv (xlr (u:=(vwq3 i)) pl_22 (hS.rowN 4 rfl)) ?_
     skip
     refine zs2 ?_
     refine zlv (xix (kk:=j) sl_22 (hrsq3 i (by omega) (by omega))) ?_
     refine zle (xsr 5 pl_3 hS rfl) ?_;clear hS;rintro w hS
     replace hS:=hS.n7
     refine zx10 ?_
     refine zlv (xadd (r:=j+1)) ?_
     refine zlv xmv ?_
     refine zln<|zlq ⟨upd cf i (upd (cf i) j (Int.tdiv ((((t.C (row+1)) (col+1))*((t.C i) j))-(((t.C i) (col+1))*((t.C (row+1)) j))) t.den)),j+1,rfl,(by omega),(by omega),?_,?_,?_,rfl,hS⟩
     ·
      intro a b a0 a1 b0 b1;rw [gu_ne (by omega)];exact hold a b a0 a1 b0 b1
     ·
      intro b b0 b1
      by_cases e:b=j
      · subst e;rw [gu_self,gu_self];unfold ZD;(repeat' split)<;>first|rfl|omega|(exfalso;omega)
      · rw [gu_self,gu_ne e];exact hrow b b0 (by omega)
     ·
      intro b b0 b1
      by_cases e:b=j
      · subst e;intro e1 e2;first|omega|exact Classical.not_not.1 ‹_›
      · exact hdr b b0 (by omega)
    refine zx4 ?_
    refine zlv (xfb 4 fd_108_4) ?_
    refine zlv (xlb 6 pl_32 hS) ?_
    refine zlv xmv ?_
    refine zlv (xix (kk:=i) sl_32 hslq3) ?_
    refine zlv (xlr (u:=(vwq3 i)) pl_22 (hS.rowN 4 rfl)) ?_
    skip
    refine zs2 ?_
    refine zlv (xix (kk:=j) sl_22 (hrsq3 i (by omega) (by omega))) ?_
    refine zle (xsr 5 pl_3 hS rfl) ?_;clear hS;rintro w hS
    replace hS:=hS.n7
    refine zx10 ?_
    refine zlv (xadd (r:=j+1)) ?_
    refine zlv xmv ?_
    refine zln<|zlq ⟨upd cf i (upd (cf i) j ((t.C i) j)),j+1,rfl,(by omega),(by omega),?_,?_,?_,rfl,hS⟩
    ·
     intro a b a0 a1 b0 b1;rw [gu_ne (by omega)];exact hold a b a0 a1 b0 b1
    ·
     intro b b0 b1
     by_cases e:b=j
     · subst e;rw [gu_self,gu_self];unfold ZD;(repeat' split)<;>first|rfl|omega|(exfalso;omega)
     · rw [gu_self,gu_ne e];exact hrow b b0 (by omega)
    ·
     intro b b0 b1
     by_cases e:b=j
     · subst e;intro e1 e2;first|omega|exact Classical.not_not.1 ‹_›
     · exact hdr b b0 (by omega)
   refine zxt<|ztx<|ztx<|zbh<|zbn<|ztn<|zrg ?_
   refine zlv (xadd (r:=i+1)) ?_
   refine zlv xmv ?_
   refine zln<|zlq ⟨cf,i+1,rfl,(by omega),(by omega),?_,?_,rfl,hS⟩
   ·
    intro a b a0 a1 b0 b1
    by_cases e:a=i
    · subst e;exact hrow b b0 (by omega)
    · exact hold a b a0 (by omega) b0 b1
   ·
    intro a b a0 a1 b0 b1
    by_cases e:a=i
    · subst e;exact hdr b b0 (by omega)
    · exact hdv a b a0 (by omega) b0 b1
  refine zxt<|ztx<|ztx<|zbh<|ztn<|zsq<|zsr ?_
  refine zlv xmv ?_
  have hin:i=t.nc:=by omega
  have hdv':UG t row col:=fun a b a0 a1 b0 b1=>hdv a b a0 (by omega) b0 b1
  refine zlv Zk ?_
  refine zlt ?_
  refine zcif ?_ ?_<;>intro hc
  ·
   refine zsr ?_
   refine zlv xmv ?_
   refine zlv (xneg (r:= -(((t.C (row+1)) (col+1)))) (hr:=(by unfold I64;omega))) ?_
   refine zlv (xfb 1 fd_108_1) ?_
   refine zle (xsb 6 pl_3 hS) ?_;clear hS;rintro w hS
   replace hS:=hS.n7
   refine zlz ?_
   refine zlv (xfb 4 fd_108_4) ?_
   refine zlv (xlb 6 pl_32 hS) ?_
   refine zlv (xln sl_32 hslq3) ?_
   refine zlv xmv ?_
   refine zx6<|zlp (fun mm M w=>∃(cf:Int->Int->Int) (k:Int),mm=((t.nc-k).toNat)/\(0<=k)/\(k<=t.nc)/\(∀a b,0<=a->a<k->0<=b->b<=t.nf->cf a b= -ZD t (row+1) (col+1) a b)/\(∀a b,k<=a->a<t.nc->0<=b->b<=t.nf->cf a b=ZD t (row+1) (col+1) a b)/\M= [(6,.pointer (some ⟨g2,0,none⟩)),(12,.pointer (some ⟨g3,0,none⟩)),(180,voq3),(181,.int .i64 t.nc),(182,.int .i64 k)]/\Sat w0 w [.blk g1 [.int .i64 t.vars,.int .i64 t.den,vB,vF,vC],.blk g2 [.int .i64 0,.int .i64 0,.slice none 0 0,.slice none 0 0,.slice none 0 0],.own vq1 1 3 t.nb (ints (upd t.B row (t.F col))),.own vq2 1 3 t.nf (ints (upd t.F col (t.B row))),.own voq3 1 22 t.nc vwq3,.sem (Frame.rows 3 t.nc vwq3 t.ln cf),.blk g3 [.int .i64 t.vars,.int .i64 (-(((t.C (row+1)) (col+1)))),vq1,vq2,voq3]]) ⟨cf,0,rfl,(by omega),(by omega),?_,?_,rfl,hS⟩ ?_
   ·
    intro a b a0 a1;omega
   ·
    intro a b a0 a1 b0 b1;exact hcf a b (by omega) (by omega) b0 b1
   clear hS w
   rintro mm M w ⟨cf,k,rfl,k0,k1,hng,hps,rfl,hS⟩
   refine zsr ?_
   refine zlv Zk ?_
   refine zlt<|zsq ?_
   refine zcif ?_ ?_<;>intro hc
   ·
    refine zx3 ?_
    refine zlv (xix (kk:=k) sl_32 hslq3) ?_
    refine zlv (xlr (u:=(vwq3 k)) pl_22 (hS.rowN 4 rfl)) ?_
    have hlk:=hp.len (i:=k) (by omega) (by omega)
    refine zlv xas ?_
    refine zlz ?_
    refine zlv xmv ?_
    refine zlv (xln sl_22 (hrsq3 k (by omega) (by omega))) ?_
    refine zlv xmv ?_
    refine zx6<|zlp (fun mm M w=>∃(cf:Int->Int->Int) (q:Int),mm=((t.nf+1-q).toNat)/\(0<=q)/\(q<=t.nf+1)/\(∀a b,0<=a->a<k->0<=b->b<=t.nf->cf a b= -ZD t (row+1) (col+1) a b)/\(∀a b,k+1<=a->a<t.nc->0<=b->b<=t.nf->cf a b=ZD t (row+1) (col+1) a b)/\(∀b,0<=b->b<q->cf k b= -ZD t (row+1) (col+1) k b)/\(∀b,q<=b->b<=t.nf->cf k b=ZD t (row+1) (col+1) k b)/\M= [(6,.pointer (some ⟨g2,0,none⟩)),(12,.pointer (some ⟨g3,0,none⟩)),(18,(vwq3 k)),(180,voq3),(181,.int .i64 t.nc),(182,.int .i64 k),(187,.int .i64 (t.ln k)),(188,.int .i64 q)]/\Sat w0 w [.blk g1 [.int .i64 t.vars,.int .i64 t.den,vB,vF,vC],.blk g2 [.int .i64 0,.int .i64 0,.slice none 0 0,.slice none 0 0,.slice none 0 0],.own vq1 1 3 t.nb (ints (upd t.B row (t.F col))),.own vq2 1 3 t.nf (ints (upd t.F col (t.B row))),.own voq3 1 22 t.nc vwq3,.sem (Frame.rows 3 t.nc vwq3 t.ln cf),.blk g3 [.int .i64 t.vars,.int .i64 (-(((t.C (row+1)) (col+1)))),vq1,vq2,voq3]]) ⟨cf,0,rfl,(by omega),(by omega),?_,?_,?_,?_,rfl,hS⟩ ?_
    ·
     exact hng
    ·
     intro a b a0 a1 b0 b1;exact hps a b (by omega) a1 b0 b1
    ·
     intro b b0 b1;omega
    ·
     intro b b0 b1;exact hps k b (Int.le_refl _) (by omega) (by omega) b1
    clear hS w
    rintro mm M w ⟨cf,q,rfl,q0,q1,hng,hps,hng3,hng2,rfl,hS⟩
    refine zsr ?_
    refine zlv Zk ?_
    refine zlt<|zsq ?_
    refine zcif ?_ ?_<;>intro hc
    ·
     refine zx3 ?_
     refine zs2 ?_
     refine zlt<|zrg ?_
     refine zs4 ?_
     refine zlv (xix (kk:=q) sl_22 (hrsq3 k (by omega) (by omega))) ?_
     refine zlv (xlr (u:= .int .i64 (cf k q)) pl_3 (hS.rowIn (k:=k) 5 rfl (by omega) (by omega))) ?_
     have hng1:=hng2 q (Int.le_refl _) (by omega)
     have hpc: -9223372036854775807<=cf k q/\cf k q<=9223372036854775807:=by rw [hng1];exact Rt hp (by omega) (by omega) (by omega) (by omega) (by omega) (by omega) (by omega) (by omega)
     refine zlv (xneg (r:= -((cf k q))) (hr:=(by unfold I64;omega))) ?_
     refine zlv (xix (kk:=q) sl_22 (hrsq3 k (by omega) (by omega))) ?_
     refine zle (xsr 5 pl_3 hS rfl) ?_;clear hS;rintro w hS
     replace hS:=hS.n7
     refine zx10 ?_
     refine zlv (xadd (r:=q+1)) ?_
     refine zlv xmv ?_
     refine zln<|zlq ⟨upd cf k (upd (cf k) q (-((cf k q)))),q+1,rfl,(by omega),(by omega),?_,?_,?_,?_,rfl,hS⟩
     ·
      intro a b a0 a1 b0 b1;rw [gu_ne (by omega)];exact hng a b a0 a1 b0 b1
     ·
      intro a b a0 a1 b0 b1;rw [gu_ne (by omega)];exact hps a b a0 a1 b0 b1
     ·
      intro b b0 b1
      by_cases e:b=q
      · subst e;rw [gu_self,gu_self,hng1]
      · rw [gu_self,gu_ne e];exact hng3 b b0 (by omega)
     ·
      intro b b0 b1;rw [gu_self,gu_ne (by omega)];exact hng2 b (by omega) b1
    refine zxt<|ztx<|ztx<|zbh<|zbn<|ztn<|zrg ?_
    refine zlv (xadd (r:=k+1)) ?_
    refine zlv xmv ?_
    refine zln<|zlq ⟨cf,k+1,rfl,(by omega),(by omega),?_,?_,rfl,hS⟩
    ·
     intro a b a0 a1 b0 b1
     by_cases e:a=k
     · subst e;exact hng3 b b0 (by omega)
     · exact hng a b a0 (by omega) b0 b1
    ·
     intro a b a0 a1 b0 b1;exact hps a b (by omega) a1 b0 b1
   refine zxt<|ztx<|ztx<|zbh<|ztn<|zsq<|zsr ?_
   refine zlv (xls 6 st_108 hS) ?_
   have hden: -(((t.C (row+1)) (col+1)))=(piv t row col).den:=(if_pos (by omega)).symm
   replace hS:=hS.rerows (vv':=vwq3) (ln':=(piv t row col).ln) (f':=(piv t row col).C) 5 rfl (fun k k0 k1=>⟨rfl,rfl,fun j j0 j1=>by
     have hlk:=hp.len (i:=k) (by omega) (by omega)
     exact(hng k j k0 (by omega) j0 (by omega)).trans (if_pos (by omega)).symm⟩)
   rw [hden] at hS⊢
   obtain⟨u,huu⟩:∃u,u=piv t row col:=⟨_,rfl⟩
   have hslnbu:Slh vq1 u.nb:=by subst huu;exact hslq1
   have hslnfu:Slh vq2 u.nf:=by subst huu;exact hslq2
   have hslncu:Slh voq3 u.nc:=by subst huu;exact hslq3
   replace hS:Sat w0 w [.blk g1 [.int .i64 t.vars,.int .i64 t.den,vB,vF,vC],.blk g2 [.int .i64 0,.int .i64 0,.slice none 0 0,.slice none 0 0,.slice none 0 0],.own vq1 1 3 u.nb (ints u.B),.own vq2 1 3 u.nf (ints u.F),.own voq3 1 22 u.nc vwq3,.sem (Frame.rows 3 u.nc vwq3 u.ln u.C),.blk g3 [.int .i64 u.vars,.int .i64 u.den,vq1,vq2,voq3]]:=by subst huu;exact hS
   have hrsu:=fun k (k0:0<=k) (k1:k<u.nc)=>hS.slhIn 5 rfl k0 k1
   refine ZbK 201 (u:= .agg #[.int .i64 u.vars,.int .i64 u.den,vq1,vq2,voq3]) (by subst huu;first|rfl|(congr 1)) ?_
   refine zlc (xc0 Vx) (XB (t:=u) w (⟨(hS.rowN 2 rfl),(hS.rowN 3 rfl),(⟨(hS.rowN 4 rfl),fun k k0 k1=>hS.rowIn 5 rfl k0 k1,fun k k0 k1=>hS.roomIn 5 rfl k0 k1⟩:MAt _ voq3 u.nc vwq3 u.ln u.C)⟩:TAt _ vq1 vq2 voq3 vwq3 u)) ?_;rintro _ w ⟨rfl,hS'⟩
   replace hS:=hS.cmp hS';clear hS'
   refine zlv ZX ?_
   refine zlt ?_
   refine zcif ?_ ?_<;>intro hc
   ·
    refine zsr ?_
    refine zlv (xany (v:= .agg #[.int .i64 0,.int .i64 0,.slice none 0 0,.slice none 0 0,.slice none 0 0])) ?_
    refine zle (xsw 1 st_108 hS) ?_;clear hS;rintro w hS
    replace hS:=hS.n7
    refine zlv xas ?_
    refine zx14<|Ym 1 st_108 hS ⟨_,rfl,?_⟩
    exact⟨_,_,_,fun _=>undef,Tb.zero,2,rfl,.inr (.inr (.inl ⟨⟨hp,by omega,by omega,by omega,by omega,hnz⟩,hdv',huu▸‹¬TPrp u›,rfl,rfl⟩)),slh_nil,slh_nil,slh_nil,((((hS.sub (.cons _ (.cons _ (.cons _ (.cons _ (.cons _ (.cons _ (.cons _ .slnil)))))))).addnil 1 3 (ints Tb.zero.B)).addnil 1 3 (ints Tb.zero.F)).addnil 1 22 (fun _=>undef)).addrows 3 (fun _=>undef) Tb.zero.ln Tb.zero.C⟩
   refine zsk<|ztn<|zsr ?_
   refine zlv (xls 6 st_108 hS) ?_
   refine zle (xsw 1 st_108 hS (hd:=(Za rfl (Za rfl (Za hslnbu.one (Za hslnfu.one (Za hslncu.one Zh))))))) ?_;clear hS;rintro w hS
   replace hS:=hS.n7
   refine zlv xas ?_
   refine zx1<|Ym 1 st_108 hS ⟨_,rfl,?_⟩
   exact⟨_,_,_,_,u,0,rfl,.inr (.inr (.inr ⟨⟨hp,by omega,by omega,by omega,by omega,hnz⟩,hdv',huu▸(Classical.not_not.1 ‹¬¬(TPrp u)›),huu,rfl⟩)),hslnbu,hslnfu,hslncu,hS.pk [2,3,4,5]⟩
  refine zsk<|ztn<|zsq<|zsr ?_
  refine zlv (xls 6 st_108 hS) ?_
  have hden:((t.C (row+1)) (col+1))=(piv t row col).den:=(if_neg (by omega)).symm
  replace hS:=hS.rerows (vv':=vwq3) (ln':=(piv t row col).ln) (f':=(piv t row col).C) 5 rfl (fun k k0 k1=>⟨rfl,rfl,fun j j0 j1=>by
    have hlk:=hp.len (i:=k) (by omega) (by omega)
    exact(hcf k j k0 (by omega) j0 (by omega)).trans (if_neg (by omega)).symm⟩)
  rw [hden] at hS⊢
  obtain⟨u,huu⟩:∃u,u=piv t row col:=⟨_,rfl⟩
  have hslnbu:Slh vq1 u.nb:=by subst huu;exact hslq1
  have hslnfu:Slh vq2 u.nf:=by subst huu;exact hslq2
  have hslncu:Slh voq3 u.nc:=by subst huu;exact hslq3
  replace hS:Sat w0 w [.blk g1 [.int .i64 t.vars,.int .i64 t.den,vB,vF,vC],.blk g2 [.int .i64 0,.int .i64 0,.slice none 0 0,.slice none 0 0,.slice none 0 0],.own vq1 1 3 u.nb (ints u.B),.own vq2 1 3 u.nf (ints u.F),.own voq3 1 22 u.nc vwq3,.sem (Frame.rows 3 u.nc vwq3 u.ln u.C),.blk g3 [.int .i64 u.vars,.int .i64 u.den,vq1,vq2,voq3]]:=by subst huu;exact hS
  have hrsu:=fun k (k0:0<=k) (k1:k<u.nc)=>hS.slhIn 5 rfl k0 k1
  refine ZbK 201 (u:= .agg #[.int .i64 u.vars,.int .i64 u.den,vq1,vq2,voq3]) (by subst huu;first|rfl|(congr 1)) ?_
  refine zlc (xc0 Vx) (XB (t:=u) w (⟨(hS.rowN 2 rfl),(hS.rowN 3 rfl),(⟨(hS.rowN 4 rfl),fun k k0 k1=>hS.rowIn 5 rfl k0 k1,fun k k0 k1=>hS.roomIn 5 rfl k0 k1⟩:MAt _ voq3 u.nc vwq3 u.ln u.C)⟩:TAt _ vq1 vq2 voq3 vwq3 u)) ?_;rintro _ w ⟨rfl,hS'⟩
  replace hS:=hS.cmp hS';clear hS'
  refine zlv ZX ?_
  refine zlt ?_
  refine zcif ?_ ?_<;>intro hc
  ·
   refine zsr ?_
   refine zlv (xany (v:= .agg #[.int .i64 0,.int .i64 0,.slice none 0 0,.slice none 0 0,.slice none 0 0])) ?_
   refine zle (xsw 1 st_108 hS) ?_;clear hS;rintro w hS
   replace hS:=hS.n7
   refine zlv xas ?_
   refine zx14<|Ym 1 st_108 hS ⟨_,rfl,?_⟩
   exact⟨_,_,_,fun _=>undef,Tb.zero,2,rfl,.inr (.inr (.inl ⟨⟨hp,by omega,by omega,by omega,by omega,hnz⟩,hdv',huu▸‹¬TPrp u›,rfl,rfl⟩)),slh_nil,slh_nil,slh_nil,((((hS.sub (.cons _ (.cons _ (.cons _ (.cons _ (.cons _ (.cons _ (.cons _ .slnil)))))))).addnil 1 3 (ints Tb.zero.B)).addnil 1 3 (ints Tb.zero.F)).addnil 1 22 (fun _=>undef)).addrows 3 (fun _=>undef) Tb.zero.ln Tb.zero.C⟩
  refine zsk<|ztn<|zsr ?_
  refine zlv (xls 6 st_108 hS) ?_
  refine zle (xsw 1 st_108 hS (hd:=(Za rfl (Za rfl (Za hslnbu.one (Za hslnfu.one (Za hslncu.one Zh))))))) ?_;clear hS;rintro w hS
  replace hS:=hS.n7
  refine zlv xas ?_
  refine zx1<|Ym 1 st_108 hS ⟨_,rfl,?_⟩
  exact⟨_,_,_,_,u,0,rfl,.inr (.inr (.inr ⟨⟨hp,by omega,by omega,by omega,by omega,hnz⟩,hdv',huu▸(Classical.not_not.1 ‹¬¬(TPrp u)›),huu,rfl⟩)),hslnbu,hslnfu,hslncu,hS.pk [2,3,4,5]⟩
  all_goals
   refine Xe ?_
   refine zlt<|zct<|zsr ?_
   refine zlv (xany (v:= .agg #[.int .i64 0,.int .i64 0,.slice none 0 0,.slice none 0 0,.slice none 0 0])) ?_
   refine zle (xsw 1 st_108 hS) ?_;clear hS;rintro w hS
   replace hS:=hS.n2
   refine Xe ?_
   refine zx14<|Ym 1 st_108 hS ⟨_,rfl,?_⟩
   exact⟨_,_,_,fun _=>undef,Tb.zero,1,rfl,.inl ⟨by first|exact fun hh=>absurd hh.1 ‹_›|(rintro⟨_,p1,p2,p3,p4,p5⟩;omega),rfl,rfl⟩,slh_nil,slh_nil,slh_nil,((((hS.sub (.cons _ (.cons _ .slnil))).addnil 1 3 (ints Tb.zero.B)).addnil 1 3 (ints Tb.zero.F)).addnil 1 22 (fun _=>undef)).addrows 3 (fun _=>undef) Tb.zero.ln Tb.zero.C⟩
end Go.Proofs.Ytopmifmfecfaaaa
namespace Go.Proofs.Gw
open Go Go.RowKit
def Zb(f:Int->Int):Nat->Int
  |0=>0
  |k+1=>Zb f k+f k
theorem ZP(f:Int->Int){i:Int}(h:0<=i):Zb f (i+1).toNat=Zb f i.toNat+f i:=by
  rw [show(i+1).toNat=i.toNat+1 by omega]
  simp only [Zb]
  rw [show((i.toNat:Nat):Int)=i by omega]
theorem ZQ{f g:Int->Int}:∀{n:Nat},(∀i,0<=i->i<(n:Int)->f i<=g i)->Zb f n<=Zb g n
  |0,_=>Int.le_refl _
  | n+1,h=>by
    have h1:=ZQ (n:=n) (fun i h0 h1=>h i h0 (by omega))
    have h2:=h n (by omega) (by omega)
    simp only [Zb];omega
theorem Ze{f g:Int->Int}{n:Nat}(h:∀i,0<=i->i<(n:Int)->f i=g i):Zb f n=Zb g n:=
  Int.le_antisymm (ZQ fun i h0 h1=>Int.le_of_eq (h i h0 h1)) (ZQ fun i h0 h1=>Int.le_of_eq (h i h0 h1).symm)
theorem Zl:∀n:Nat,Zb (fun _=>0) n=0
  |0=>rfl
  |n+1=>by simp only [Zb,Zl n];rfl
theorem ZS{f:Int->Int}{n:Nat}(h:∀i,0<=i->i<(n:Int)->0<=f i):0<=Zb f n:=by
  have:=ZQ (f:=fun _=>0) h
  rw [Zl] at this;exact this
theorem YW(c:Int):∀n:Nat,Zb (fun _=>c) n=n*c
  |0=>by simp [Zb]
  |n+1=>by simp only [Zb,YW c n];rw [Int.natCast_add,Int.add_mul];simp
theorem VK{f:Int->Int}{A:Int}{n:Nat}(h:∀i,0<=i->i<(n:Int)->0<=f i/\f i<=A):0<=Zb f n/\Zb f n<=n*A:=by
  refine⟨ZS fun i h0 h1=>(h i h0 h1).1,?_⟩
  rw [<-YW];exact ZQ fun i h0 h1=>(h i h0 h1).2
theorem XH(f g:Int->Int):∀n:Nat,Zb (fun i=>f i+g i) n=Zb f n+Zb g n
  |0=>rfl
  |n+1=>by simp only [Zb,XH f g n];omega
theorem ZT(f:Int->Int)(c:Int):∀n:Nat,Zb (fun i=>f i*c) n=Zb f n*c
  |0=>by simp [Zb]
  |n+1=>by simp only [Zb,ZT f c n];rw [Int.add_mul]
theorem Xi(f:Int->Int->Int)(n:Nat):∀m:Nat,Zb (fun k=>Zb (fun i=>f i k) n) m=Zb (fun i=>Zb (fun k=>f i k) m) n
  |0=>(Zl n).symm
  | m+1=>by
    simp only [Zb,Xi f n m]
    rw [<-XH]
theorem TH{f:Int->Int}{n:Nat}{j:Int}(h0:0<=j)(h1:j<(n:Int))(h:∀i,0<=i->i<(n:Int)->0<=f i):f j<=Zb f n:=by
  induction n with
  |zero=>omega
  | succ n ih=>
    simp only [Zb]
    have h2:=h n (by omega) (by omega)
    have h3:=ZS (n:=n) (fun i a b=>h i a (by omega))
    by_cases e:j=n
    · subst e;omega
    · have:=ih (by omega) (fun i a b=>h i a (by omega));omega
def ZO(p:Prob)(a:Int->Int)(n:Nat):Int:=Zb (fun i=>a i*(p.L i+p.kerf)) n
structure FitsP (p:Prob) (n:Int) (a:Int->Int):Prop where
  ok:p.Ok
  eq:n=p.m
  all:∀i,0<=i->i<p.m->0<=a i/\a i<=2000
  used:ZO p a p.m.toNat<=p.stock+p.kerf
structure SoundP (p:Prob) (n:Int) (len:Int->Int) (pt:Int->Int->Int) (cnt:Int->Int):Prop where
  ok:p.Ok
  few:n<=1000
  all:∀i,0<=i->i<n->FitsP p (len i) (pt i)/\1<=cnt i/\cnt i<=1000
def Yg(pt:Int->Int->Int)(cnt:Int->Int)(n:Nat)(k:Int):Int:=Zb (fun i=>pt i k*cnt i) n
structure MeetsP (p:Prob) (n:Int) (len:Int->Int) (pt:Int->Int->Int) (cnt:Int->Int):Prop where
  s:SoundP p n len pt cnt
  all:∀k,0<=k->k<p.m->p.D k<=Yg pt cnt n.toNat k
theorem WB{p:Prob}(hp:p.Ok){a:Int->Int}{i:Int}(h0:0<=i)(h1:i<p.m)(ha:0<=a i/\a i<=2000):0<=a i*(p.L i+p.kerf)/\a i*(p.L i+p.kerf)<=4200000:=by
  have h2:=hp.all i h0 h1
  unfold Prob.each at h2
  have:=hp.k1;have:=hp.k2;have:=hp.s2
  have:=Th (a:=a i) (b:=p.L i+p.kerf) (A:=2000) (B:=2100) ha.1 ha.2 (by omega) (by omega)
  omega
theorem Wb{p:Prob}(hp:p.Ok){a:Int->Int}(ha:∀i,0<=i->i<p.m->0<=a i/\a i<=2000){n:Int}(h0:0<=n)(h1:n<=p.m):0<=ZO p a n.toNat/\ZO p a n.toNat<=84000000:=by
  have h:=VK (f:=fun i=>a i*(p.L i+p.kerf)) (A:=4200000) (n:=n.toNat) (fun i a0 a1=>WB hp a0 (by omega) (ha i a0 (by omega)))
  have:=hp.m2
  unfold ZO;omega
structure ShortP (n:Int) (len cnt:Int->Int):Prop where
  all:∀i,0<=i->i<n->len i<=25/\cnt i<=40
  few:n<=12
def Zf(pv:Int->Value)(cnt:Int->Int):Int->Value:=fun k=>if k%2=0 then pv (k/2) else .int .i64 (cnt (k/2))
theorem Yh(pv:Int->Value)(cnt:Int->Int){k i:Int}(h:k=2*i):Zf pv cnt k=pv i:=by
  subst h;unfold Zf;rw [if_pos (by omega)];congr 1;omega
theorem Z0(pv:Int->Value)(cnt:Int->Int){k i:Int}(h:k=2*i+1):Zf pv cnt k= .int .i64 (cnt i):=by
  subst h;unfold Zf;rw [if_neg (by omega)];congr 2;omega
structure UAt (w:World) (v:Value) (n:Int) (pv:Int->Value) (len:Int->Int) (pt:Int->Int->Int) (cnt:Int->Int):Prop where
  row:Row w v 2 n (Zf pv cnt)
  p:∀i,0<=i->i<n->IAt w (pv i) (len i) (pt i)
  c:∀i,-9223372036854775808<=cnt i/\cnt i<=9223372036854775807
theorem UAt.below{w w':World}{v:Value}{n:Int}{pv:Int->Value}{len:Int->Int}{pt:Int->Int->Int}{cnt:Int->Int}(h:UAt w v n pv len pt cnt)(hb:Below w.heap.size w w'):UAt w' v n pv len pt cnt:=
  ⟨h.row.below hb,fun i h0 h1=>(h.p i h0 h1).below hb,h.c⟩
end Go.Proofs.Gw
namespace Go.Proofs.Gw
open Go Go.RowKit
theorem StartR.ok{p:Lp}{t:Tb}{e:Int}(h:StartR p t e)(he:e=0):LOk p/\t=Zi p:=by
  rcases h with⟨_,_,h⟩|⟨h1,h2,_⟩
  · omega
  · exact⟨h1,h2⟩
theorem StartR.err{p:Lp}{t:Tb}{e:Int}(h:StartR p t e)(he:e≠0):¬LOk p/\e=1:=by
  rcases h with⟨h1,_,h⟩|⟨h1,h2,h⟩
  · exact⟨h1,h⟩
  · exact absurd h he
def Zj(f g:Int->Int)(n:Nat):Int:=Zb (fun k=>f k*g k) n
def wgt(A:Int->Int->Int)(y:Int->Int)(n:Nat)(j:Int):Int:=Zb (fun i=>A i j*y i) n
structure ChkS (p:Lp) (s:So):Prop where
  ok:LOk p
  d1:1<=s.den
  d2:s.den<=1073741824
  v: -1073741824<=s.val/\s.val<=1073741824
  n:s.n=p.n
  m:s.m=p.m
  X:∀j,0<=j->j<p.n->0<=s.X j/\s.X j<=1073741824
  Y:∀i,0<=i->i<p.m->0<=s.Y i/\s.Y i<=1073741824
  rows:∀i,0<=i->i<p.m->p.b i*s.den<=Zj (p.A i) s.X p.n.toNat
  cols:∀j,0<=j->j<p.n->wgt p.A s.Y p.m.toNat j<=p.c j*s.den
  cX:Zj p.c s.X p.n.toNat=s.val
  bY:Zj p.b s.Y p.m.toNat=s.val
end Go.Proofs.Gw
namespace Go.Proofs.Ytopmifmfecfaaaa
open Go Go.RowKit Go.Proofs.Gw
theorem Zcd:Zd Try.prog 71=true:=by kernel_rfl
theorem Zcc:Zd Try.prog 72=true:=by kernel_rfl
theorem Zb7:Zd Try.prog 90=true:=by kernel_rfl
theorem Zb6:Zd Try.prog 91=true:=by kernel_rfl
theorem Zb5:Zd Try.prog 92=true:=by kernel_rfl
theorem Xz:ZV Try.prog 36=some (.agg #[.slice none 0 0,.slice none 0 0,.int .i64 0,.int .i64 0],4,64):=by kernel_rfl
theorem fd_36_0:Zr Try.prog 36 0=some 0:=by kernel_rfl
theorem fd_36_1:Zr Try.prog 36 1=some 1:=by kernel_rfl
theorem fd_82_0:Zr Try.prog 82 0=some 0:=by kernel_rfl
theorem fd_82_1:Zr Try.prog 82 1=some 1:=by kernel_rfl
theorem fd_82_2:Zr Try.prog 82 2=some 2:=by kernel_rfl
theorem Zt:Zv Try.prog 36=some 4:=by kernel_rfl
theorem Zav:Zv Try.prog 82=some 3:=by kernel_rfl
set_option maxRecDepth 20000 in
theorem K9{vc vA vb:Value}{vq:Int->Value}{p:Lp}(w0:World)(hL:LAt w0 vc vA vb vq p):
    Calls Try.prog 90 [.agg #[vc,vA,vb]].toArray w0 fun e w=>∃v,e= .returned v/\v=B (LOk p)/\Sat w0 w []:=by
  have hn:=hL.c.slh.n0;have hn1:=hL.c.slh.n1;have hm:=hL.A.row.slh.n0;have hm1:=hL.A.row.slh.n1;have hk:=hL.b.slh.n0;have hk1:=hL.b.slh.n1
  refine Zn Try.func90 Try.ntmps90 fun w hS=> ?_
  refine zsr ?_
  refine zla (xbx (cs:= [_,_,_]) hS) ?_;rintro _ w ⟨g1,rfl,hS⟩
  replace hS:=hS.n1
  refine zlv xas ?_
  refine zlz ?_
  refine zlv (xfb 0 fd_82_0) ?_
  refine zlv (xlb 0 pl_22 hS) ?_
  refine zlv (xln sl_22 hL.c.slh) ?_
  refine zla (xal (cs:= [_]) ZG hS) ?_;rintro _ w ⟨g2,rfl,hS⟩
  replace hS:=hS.n2
  refine zle (xsb 1 pl_3 hS) ?_;clear hS;rintro w hS
  replace hS:=hS.n2
  refine zx5 ?_
  refine zlv (xlb 1 pl_3 hS) ?_
  refine zs2 ?_
  refine zlb 10 ?_ ?_<;>intro hc;rotate_left
  refine zlv (xlb 1 pl_3 hS) ?_
  refine zs3 ?_
  refine zlb 14 ?_ ?_<;>intro hc;rotate_left
  refine zlv (xfb 1 fd_82_1) ?_
  refine zlv (xlb 0 pl_32 hS) ?_
  refine zlv (xln sl_32 hL.A.row.slh) ?_
  refine zs3 ?_
  refine zlb 20 ?_ ?_<;>intro hc;rotate_left
  refine zlv (xfb 2 fd_82_2) ?_
  refine zlv (xlb 0 pl_22 hS) ?_
  refine zlv (xln sl_22 hL.b.slh) ?_
  refine zlv (xfb 1 fd_82_1) ?_
  refine zlv (xlb 0 pl_32 hS) ?_
  refine zlv (xln sl_32 hL.A.row.slh) ?_
  refine zs3 ?_
  refine zlb 29 ?_ ?_<;>intro hc;rotate_left
  refine zlv (xfb 0 fd_82_0) ?_
  refine zlv (xlb 0 pl_22 hS) ?_
  refine zlc (xc0 cl_111) (c_between (n:=p.n) (m:=1000000) (f:=p.c) w (hL.c.below hS.below) (by omega)) ?_;rintro _ w ⟨rfl,hS'⟩
  replace hS:=hS.cmp hS';clear hS'
  refine zs3 ?_
  refine zlb 35 ?_ ?_<;>intro hc;rotate_left
  refine zlv (xfb 2 fd_82_2) ?_
  refine zlv (xlb 0 pl_22 hS) ?_
  refine zlc (xc0 cl_111) (c_between (n:=p.k) (m:=1000000) (f:=p.b) w (hL.b.below hS.below) (by omega)) ?_;rintro _ w ⟨rfl,hS'⟩
  replace hS:=hS.cmp hS';clear hS'
  refine zs2 ?_
  refine zlt ?_
  refine zcif ?_ ?_<;>intro hc
  ·
   refine zsr ?_
   refine zlv xas ?_
   refine zx14<|zf1 ⟨_,rfl,?_⟩
   exact⟨Zc (by intro hl;have b1:=hl.n1;have b2:=hl.n2;have b3:=hl.m2;have b4:=hl.k;first|omega|exact absurd (fun j j0 j1=>by have:=hl.c j j0 j1;omega) ‹¬Btw p.c p.n 1000000›|exact absurd (fun j j0 j1=>hl.b j j0 (by omega)) ‹¬Btw p.b p.k 1000000›|(obtain⟨j,j0,j1,j2⟩:=hex1;have:=hl.c j j0 j1;omega)),hS.nl⟩
  refine zsk<|ztn<|zsr ?_
  refine zlv xmf ?_
  refine zlv xas ?_
  refine zlz ?_
  refine zlv (xfb 0 fd_82_0) ?_
  refine zlv (xlb 0 pl_22 hS) ?_
  refine zlc (xc0 RZ) (ZaF (n:=p.n) (f:=p.c) w (hL.c.below hS.below) (by omega)) ?_;rintro _ w ⟨x1,rfl,hex1,hax1,hS'⟩
  replace hS:=hS.cmp hS';clear hS'
  refine zs2 ?_
  refine zlb 46 ?_ ?_<;>intro hc
  ·
   refine zlv (xfb 1 fd_82_1) ?_
   refine zlv (xlb 0 pl_32 hS) ?_
   refine zlv xmv ?_
   refine zlc (xc0 cl_35) (c_comv (n:=p.m) (q:=p.n) (vv:=vq) (ln:=p.ln) (f:=p.A) w (hL.A.below hS.below) (hS.cellN 1 rfl rfl) (by omega)) ?_;rintro _ w ⟨rfl,hS'⟩
   replace hS:=hS.cmp hS';clear hS'
   refine zs3 ?_
   refine zx1<|zf1 ⟨_,rfl,?_⟩
   refine⟨Zw ⟨fun hx=> ?_,fun hl hx=> ?_⟩,hS.nl⟩
   · have hc1:=(Classical.not_not.1 ‹¬¬(Btw p.c p.n 1000000)›);have hc2:=(Classical.not_not.1 ‹¬¬(Btw p.b p.k 1000000)›)
     refine⟨by omega,by omega,by omega,by omega,fun j j0 j1=>⟨by have:=hax1 j j0 j1;omega,(hc1 j j0 j1).2⟩,fun i i0 i1=>hc2 i i0 (by omega),fun i i0 i1=> ?_⟩
     have hy:=Classical.not_not.1 fun hh=>hx ⟨i,i0,i1,hh⟩
     exact⟨hy.1,fun j j0 j1=>hy.2 j j0 (by have:=hy.1;omega)⟩
   · obtain⟨k,k0,k1,hh⟩:=hx
     have hr:=hl.rows k k0 k1
     exact hh ⟨hr.1,fun j j0 j1=>hr.2 j j0 (by have:=hr.1;omega)⟩
  iterate 5 refine zlo ?_
  refine zs2 ?_
  refine zx1<|zf1 ⟨_,rfl,?_⟩
  exact⟨Zc (by intro hl;have b1:=hl.n1;have b2:=hl.n2;have b3:=hl.m2;have b4:=hl.k;first|omega|exact absurd (fun j j0 j1=>by have:=hl.c j j0 j1;omega) ‹¬Btw p.c p.n 1000000›|exact absurd (fun j j0 j1=>hl.b j j0 (by omega)) ‹¬Btw p.b p.k 1000000›|(obtain⟨j,j0,j1,j2⟩:=hex1;have:=hl.c j j0 j1;omega)),hS.nl⟩
  all_goals
   refine Xe ?_
   refine zlt<|zct<|zsr ?_
   refine Xe ?_
   refine zx14<|zf1 ⟨_,rfl,?_⟩
   exact⟨Zc (by intro hl;have b1:=hl.n1;have b2:=hl.n2;have b3:=hl.m2;have b4:=hl.k;first|omega|exact absurd (fun j j0 j1=>by have:=hl.c j j0 j1;omega) ‹¬Btw p.c p.n 1000000›|exact absurd (fun j j0 j1=>hl.b j j0 (by omega)) ‹¬Btw p.b p.k 1000000›|(obtain⟨j,j0,j1,j2⟩:=hex1;have:=hl.c j j0 j1;omega)),hS.nl⟩
set_option maxRecDepth 20000 in
theorem Zab{vc vA vb:Value}{vq:Int->Value}{p:Lp}(w0:World)(hL:LAt w0 vc vA vb vq p):
    Calls Try.prog 71 [.agg #[vc,vA,vb]].toArray w0 fun e w=>∃v,e= .returned v/\∃vB vF vC vv t' e,v= .tuple #[.agg #[.int .i64 t'.vars,.int .i64 t'.den,vB,vF,vC],.int .i64 e]/\StartR p t' e/\Slh vB t'.nb/\Slh vF t'.nf/\Slh vC t'.nc/\Sat w0 w [.own vB 1 3 t'.nb (ints t'.B),.own vF 1 3 t'.nf (ints t'.F),.own vC 1 22 t'.nc vv,.sem (Frame.rows 3 t'.nc vv t'.ln t'.C)]:=by
  have hn:=hL.c.slh.n0;have hn1:=hL.c.slh.n1;have hm:=hL.A.row.slh.n0;have hm1:=hL.A.row.slh.n1;have hk:=hL.b.slh.n0;have hk1:=hL.b.slh.n1
  refine Zn Try.func71 Try.ntmps71 fun w hS=> ?_
  refine zsr ?_
  refine zla (xbx (cs:= [_,_,_]) hS) ?_;rintro _ w ⟨g1,rfl,hS⟩
  replace hS:=hS.n1
  refine zla (xal (cs:= [_,_,_,_,_]) Yd hS) ?_;rintro _ w ⟨g2,rfl,hS⟩
  replace hS:=hS.n2
  refine zlv xas ?_
  refine zx5 ?_
  refine zlv (xls 0 Zav hS) ?_
  refine zlc (xc0 Zb7) (K9 (p:=p) w (hL.below hS.below)) ?_;rintro _ w ⟨rfl,hS'⟩
  replace hS:=hS.cmp hS';clear hS'
  refine zlv ZX ?_
  refine zlt ?_
  refine zcif ?_ ?_<;>intro hc
  ·
   refine zsr ?_
   refine zlv (xany (v:= .agg #[.int .i64 0,.int .i64 0,.slice none 0 0,.slice none 0 0,.slice none 0 0])) ?_
   refine zle (xsw 1 st_108 hS) ?_;clear hS;rintro w hS
   replace hS:=hS.n2
   refine zlv xas ?_
   refine zx14<|Ym 1 st_108 hS ⟨_,rfl,?_⟩
   exact⟨_,_,_,fun _=>undef,Tb.zero,1,rfl,.inl ⟨‹_›,rfl,rfl⟩,slh_nil,slh_nil,slh_nil,((((hS.sub (.cons _ (.cons _ .slnil))).addnil 1 3 (ints Tb.zero.B)).addnil 1 3 (ints Tb.zero.F)).addnil 1 22 (fun _=>undef)).addrows 3 (fun _=>undef) Tb.zero.ln Tb.zero.C⟩
  refine zsk<|ztn<|zsq<| ?_
  refine T7 (fun M w=>∃(g3:Nat) (v1:Value) (v2:Value) (v3:Value),(Slh v2 (p.n+1))/\(Slh v3 1)/\M= [(0,.agg #[vc,vA,vb]),(1,.pointer (some ⟨g1,0,none⟩)),(2,.pointer (some ⟨g2,0,none⟩)),(3,.int .i64 0),(8,.agg #[vc,vA,vb]),(9,B (LOk p)),(10,B (¬(LOk p))),(12,.pointer (some ⟨g1,0,none⟩)),(13,vc),(14,.int .i64 p.n),(16,.pointer (some ⟨g1,0,none⟩)),(17,vc),(15,v1),(18,v2),(19,v3),(20,.agg #[.int .i64 p.n,.int .i64 1,.slice none 0 0,.slice none 0 0,v3]),(4,.pointer (some ⟨g3,0,none⟩))]/\Sat w0 w [.blk g1 [vc,vA,vb],.blk g2 [.int .i64 0,.int .i64 0,.slice none 0 0,.slice none 0 0,.slice none 0 0],.own v2 1 3 (p.n+1) (ints (cat 1 (fun _=>0) p.c)),.own v3 1 22 1 (fun _=>v2),.blk g3 [.int .i64 p.n,.int .i64 1,.slice none 0 0,.slice none 0 0,v3]]) ?_ ?_
  ·
   refine zdst [0,1] [0,1] 10 mx_ hS ?_;clear hS;intro w hS
   refine zDrv 0 (xfb 0 fd_82_0) ?_
   have hl:=(Classical.not_not.1 ‹¬¬(LOk p)›)
   have b1:=hl.n1
   have b2:=hl.n2
   have b3:=hl.m2
   have b4:=hl.k
   refine zdla 1 (fun w hS=>(xlb 0 pl_22 hS)) ?_
   refine zDrv 2 (xln sl_22 hL.c.slh) ?_
   refine zDrv 4 (xfb 0 fd_82_0) ?_
   refine zdla 5 (fun w hS=>(xlb 0 pl_22 hS)) ?_
   refine X8 (r:= [3,9]) ((Yu ?_ (Yu ?_ X7)))
   ·
    refine zka (xli (n:=1) (len:=1) (pv:= [(0,.int .i64 0)]) (cs:= [.int .i64 0]) (c:=ints (fun _=>0)) sl_22 ZG hS) ?_;rintro v1 w ⟨hS,hv1⟩
    replace hS:=hS.n3
    refine⟨⟨fun _=>hS.pk [0,1],hS.pk [0,1]⟩,?_⟩
    refine X8 (r:= [6,9]) ((Yu ?_ (Yu ?_ X7)))
    ·
     refine zka (xap 2 (r:=p.n+1) (f:=ints (cat 1 (fun _=>0) p.c)) sl_22 ZG hS (hL.c.below hS.below) (by exact Yf _ _ _)) ?_;rintro v2 w ⟨hS,hv2⟩
     replace hS:=hS.n3
     refine⟨⟨fun _=>hS.pk [0,1],hS.pk [0,1]⟩,?_⟩
     refine X8 (r:= [7,9]) ((Yu ?_ (Yu ?_ X7)))
     ·
      refine zka (xli (n:=1) (len:=1) (pv:= [(0,v2)]) (cs:= [v2]) (c:=(fun _=>v2)) sl_32 YA hS (hf:=by obtain⟨_,_,_,_,rfl,_⟩:=hv2;kernel_rfl)) ?_;rintro v3 w ⟨hS,hv3⟩
      replace hS:=hS.n4
      refine⟨⟨fun _=>hS.pk [0,1],hS.pk [0,1]⟩,?_⟩
      refine zDrv 8 (xany (v:= .agg #[.int .i64 p.n,.int .i64 1,.slice none 0 0,.slice none 0 0,v3]) (hr:=by obtain⟨_,_,_,_,rfl,_⟩:=hv3;kernel_rfl)) ?_
      refine zda 9 (xal (cs:= [_,_,_,_,_]) Yd hS) ?_;rintro _ w ⟨g3,rfl,hS⟩
      replace hS:=hS.n5
      refine⟨⟨fun _=>hS.pk [0,1],hS.pk [0,1]⟩,?_⟩
      refine zde 10 (xsw 4 st_108 hS (hd:=(Za rfl (Za rfl (Za rfl (Za rfl (Za hv3.one Zh))))))) ?_;clear hS;rintro w hS
      replace hS:=hS.n5
      refine⟨⟨fun h=>absurd h (by decide),hS.pk [0,1]⟩,?_⟩
      refine zdd<|zgj ⟨g3,v1,v2,v3,hv2,hv3,rfl,hS⟩
     refine zka (xal (cs:= [_,_,_,_,_]) Yd hS) ?_;rintro _ w ⟨g3,rfl,hS⟩
     replace hS:=hS.n4
     refine⟨⟨fun _=>hS.pk [0,1],hS.pk [0,1]⟩,?_⟩
     refine zda 7 (xli (n:=1) (len:=1) (pv:= [(0,v2)]) (cs:= [v2]) (c:=(fun _=>v2)) sl_32 YA hS (hf:=by obtain⟨_,_,_,_,rfl,_⟩:=hv2;kernel_rfl)) ?_;rintro v3 w ⟨hS,hv3⟩
     replace hS:=hS.n5
     refine⟨⟨fun _=>hS.pk [0,1],hS.pk [0,1]⟩,?_⟩
     refine zDrv 8 (xany (v:= .agg #[.int .i64 p.n,.int .i64 1,.slice none 0 0,.slice none 0 0,v3]) (hr:=by obtain⟨_,_,_,_,rfl,_⟩:=hv3;kernel_rfl)) ?_
     refine zde 10 (xsw 3 st_108 hS (hd:=(Za rfl (Za rfl (Za rfl (Za rfl (Za hv3.one Zh))))))) ?_;clear hS;rintro w hS
     replace hS:=hS.n5
     refine⟨⟨fun h=>absurd h (by decide),hS.pk [0,1]⟩,?_⟩
     refine zdd<|zgj ⟨g3,v1,v2,v3,hv2,hv3,rfl,hS.pk [0,1,2,4,3]⟩
    refine zka (xal (cs:= [_,_,_,_,_]) Yd hS) ?_;rintro _ w ⟨g3,rfl,hS⟩
    replace hS:=hS.n4
    refine⟨⟨fun _=>hS.pk [0,1],hS.pk [0,1]⟩,?_⟩
    refine zda 6 (xap 2 (r:=p.n+1) (f:=ints (cat 1 (fun _=>0) p.c)) sl_22 ZG hS (hL.c.below hS.below) (by exact Yf _ _ _)) ?_;rintro v2 w ⟨hS,hv2⟩
    replace hS:=hS.n4
    refine⟨⟨fun _=>hS.pk [0,1],hS.pk [0,1]⟩,?_⟩
    refine zda 7 (xli (n:=1) (len:=1) (pv:= [(0,v2)]) (cs:= [v2]) (c:=(fun _=>v2)) sl_32 YA hS (hf:=by obtain⟨_,_,_,_,rfl,_⟩:=hv2;kernel_rfl)) ?_;rintro v3 w ⟨hS,hv3⟩
    replace hS:=hS.n5
    refine⟨⟨fun _=>hS.pk [0,1],hS.pk [0,1]⟩,?_⟩
    refine zDrv 8 (xany (v:= .agg #[.int .i64 p.n,.int .i64 1,.slice none 0 0,.slice none 0 0,v3]) (hr:=by obtain⟨_,_,_,_,rfl,_⟩:=hv3;kernel_rfl)) ?_
    refine zde 10 (xsw 3 st_108 hS (hd:=(Za rfl (Za rfl (Za rfl (Za rfl (Za hv3.one Zh))))))) ?_;clear hS;rintro w hS
    replace hS:=hS.n5
    refine⟨⟨fun h=>absurd h (by decide),hS.pk [0,1]⟩,?_⟩
    refine zdd<|zgj ⟨g3,v1,v2,v3,hv2,hv3,rfl,hS.pk [0,1,2,4,3]⟩
   refine zka (xal (cs:= [_,_,_,_,_]) Yd hS) ?_;rintro _ w ⟨g3,rfl,hS⟩
   replace hS:=hS.n3
   refine⟨⟨fun _=>hS.pk [0,1],hS.pk [0,1]⟩,?_⟩
   refine zda 3 (xli (n:=1) (len:=1) (pv:= [(0,.int .i64 0)]) (cs:= [.int .i64 0]) (c:=ints (fun _=>0)) sl_22 ZG hS) ?_;rintro v1 w ⟨hS,hv1⟩
   replace hS:=hS.n4
   refine⟨⟨fun _=>hS.pk [0,1],hS.pk [0,1]⟩,?_⟩
   refine zda 6 (xap 3 (r:=p.n+1) (f:=ints (cat 1 (fun _=>0) p.c)) sl_22 ZG hS (hL.c.below hS.below) (by exact Yf _ _ _)) ?_;rintro v2 w ⟨hS,hv2⟩
   replace hS:=hS.n4
   refine⟨⟨fun _=>hS.pk [0,1],hS.pk [0,1]⟩,?_⟩
   refine zda 7 (xli (n:=1) (len:=1) (pv:= [(0,v2)]) (cs:= [v2]) (c:=(fun _=>v2)) sl_32 YA hS (hf:=by obtain⟨_,_,_,_,rfl,_⟩:=hv2;kernel_rfl)) ?_;rintro v3 w ⟨hS,hv3⟩
   replace hS:=hS.n5
   refine⟨⟨fun _=>hS.pk [0,1],hS.pk [0,1]⟩,?_⟩
   refine zDrv 8 (xany (v:= .agg #[.int .i64 p.n,.int .i64 1,.slice none 0 0,.slice none 0 0,v3]) (hr:=by obtain⟨_,_,_,_,rfl,_⟩:=hv3;kernel_rfl)) ?_
   refine zde 10 (xsw 2 st_108 hS (hd:=(Za rfl (Za rfl (Za rfl (Za rfl (Za hv3.one Zh))))))) ?_;clear hS;rintro w hS
   replace hS:=hS.n5
   refine⟨⟨fun h=>absurd h (by decide),hS.pk [0,1]⟩,?_⟩
   refine zdd<|zgj ⟨g3,v1,v2,v3,hv2,hv3,rfl,hS.pk [0,1,3,4,2]⟩
  clear hS w;rintro M w ⟨g3,v1,v2,v3,hv2,hv3,rfl,hS⟩
  refine ztn<|zsq<|zsr ?_
  refine zlv (xfb 0 fd_82_0) ?_
  refine zlv (xlb 0 pl_22 hS) ?_
  refine zlv (xln sl_22 hL.c.slh) ?_
  have hl:=(Classical.not_not.1 ‹¬¬(LOk p)›)
  have b1:=hl.n1
  have b2:=hl.n2
  have b3:=hl.m2
  have b4:=hl.k
  refine zlv xmv ?_
  refine zx6 ?_
  replace hS:=hS.addrows 3 (fun _=>Value.slice none 0 0) (fun _=>0) (fun _ _=>0)
  replace hS:=hS.n6
  replace hS:=Sat.merge2 (l1:= [.blk g1 [vc,vA,vb],.blk g2 [.int .i64 0,.int .i64 0,.slice none 0 0,.slice none 0 0,.slice none 0 0]]) (l2:= [.own v3 1 22 1 (fun _=>v2),.blk g3 [.int .i64 p.n,.int .i64 1,.slice none 0 0,.slice none 0 0,v3]]) (l3:= []) hS (by omega)
  replace hS:=hS.rerows (vv':=(fun _=>v2)) (ln':=(Zi p).ln) (f':=(Zi p).C) 4 rfl (fun k k0 k1=>by
    obtain rfl:k=0:=by omega
    refine⟨YI _ _ _,?_,fun j j0 j1=> ?_⟩
    · rw [YI];show _=p.n+1;omega
    · rw [YI];unfold Zi cat;dsimp only;(repeat' split)<;>first|rfl|omega)
  replace hS:=hS.n5
  have hrs0:=fun k (k0:0<=k) (k1:k<1)=>hS.slhIn 4 rfl k0 k1
  replace hS:=hS.addnil 1 3 (ints (fun _=>0))
  replace hS:=hS.n6
  replace hS:=hS.addnil 1 3 (ints (fun _=>0))
  replace hS:=hS.n7
  refine zlp (fun mm M w=>∃(nF:Int) (j:Int) (wF:Value) (fF:Int->Int),mm=((p.n-j).toNat)/\(0<=j)/\(j<=p.n)/\(nF=j)/\(∀k,0<=k->k<j->fF k=k)/\(Slh wF nF)/\M= [(1,.pointer (some ⟨g1,0,none⟩)),(2,.pointer (some ⟨g2,0,none⟩)),(3,.int .i64 0),(4,.pointer (some ⟨g3,0,none⟩)),(23,.int .i64 p.n),(24,.int .i64 j)]/\Sat w0 w [.blk g1 [vc,vA,vb],.blk g2 [.int .i64 0,.int .i64 0,.slice none 0 0,.slice none 0 0,.slice none 0 0],.own v3 1 22 1 (fun _=>v2),.blk g3 [.int .i64 p.n,.int .i64 1,(.slice none 0 0),wF,v3],.sem (Frame.rows 3 1 (fun _=>v2) ((Zi p).ln) ((Zi p).C)),.own wF 1 3 nF (ints fF),.own (.slice none 0 0) 1 3 0 (ints (fun _=>0))]) ⟨0,0,(.slice none 0 0),(fun _=>0),rfl,(by omega),(by omega),(by omega),?_,?_,rfl,hS⟩ ?_
  ·
   intro k k0 k1;omega
  ·
   exact slh_nil
  clear hS w
  rintro mm M w ⟨nF,j,wF,fF,rfl,j0,j1,hnF,hfF,hwF,rfl,hS⟩
  refine zsr ?_
  refine zlv Zk ?_
  refine zlt<|zsq ?_
  refine zcif ?_ ?_<;>intro hc
  ·
   refine zx3 ?_
   refine zs2 ?_
   refine zlt<|zrg ?_
   refine zlv (xfb 3 fd_108_3) ?_
   refine zlv (xlb 3 pl_22 hS) ?_
   refine zlv xmv ?_
   refine zla (xli (n:=1) (len:=1) (pv:= [(0,.int .i64 j)]) (cs:= [.int .i64 j]) (c:=ints (fun _=>j)) sl_22 ZG hS) ?_;rintro v4 w ⟨hS,hv4⟩
   replace hS:=hS.n8
   refine zla (xap 5 (r:=nF+1) sl_22 ZG hS (hS.rowN 7 rfl) (Ul _ _ _)) ?_;rintro v5 w ⟨hS,hv5⟩
   replace hS:=hS.n8
   refine zlv (xfb 3 fd_108_3) ?_
   refine zle (xsb 3 pl_22 hS (hv:=hv5.one)) ?_;clear hS;rintro w hS
   replace hS:=hS.n8
   refine zx10 ?_
   refine zlv (xadd (r:=j+1)) ?_
   refine zlv xmv ?_
   refine zln<|zlq ⟨nF+1,j+1,v5,(Z5 fF nF j),rfl,(by omega),(by omega),(by omega),?_,?_,rfl,hS.pk [0,1,2,3,4,5,6]⟩
   ·
    intro k k0 k1;by_cases e:k<nF
    · rw [ZH e];exact hfF k k0 (by omega)
    · rw [ZI e];omega
   ·
    exact hv5
  refine zxt<|ztx<|ztx<|zbh<|ztn<|zsq<|zsr ?_
  refine zlv (xfb 1 fd_82_1) ?_
  refine zlv (xlb 0 pl_32 hS) ?_
  refine zlv (xln sl_32 hL.A.row.slh) ?_
  refine zlv xmv ?_
  refine zx6<|zlp (fun mm M w=>∃(mB:Int) (nC:Int) (wv:Int->Value) (i:Int) (wB:Value) (fB:Int->Int) (wC:Value),mm=((p.m-i).toNat)/\(0<=i)/\(i<=p.m)/\(mB=i)/\(nC=i+1)/\(∀k,0<=k->k<i->fB k=p.n+k)/\(Slh wB mB)/\(Slh wC nC)/\M= [(1,.pointer (some ⟨g1,0,none⟩)),(2,.pointer (some ⟨g2,0,none⟩)),(3,.int .i64 0),(4,.pointer (some ⟨g3,0,none⟩)),(35,vA),(36,.int .i64 p.m),(37,.int .i64 i)]/\Sat w0 w [.blk g1 [vc,vA,vb],.blk g2 [.int .i64 0,.int .i64 0,.slice none 0 0,.slice none 0 0,.slice none 0 0],.own wC 1 22 nC wv,.blk g3 [.int .i64 p.n,.int .i64 1,wB,wF,wC],.sem (Frame.rows 3 nC wv ((Zi p).ln) ((Zi p).C)),.own wF 1 3 nF (ints fF),.own wB 1 3 mB (ints fB)]) ⟨0,1,(fun _=>v2),0,(.slice none 0 0),(fun _=>0),v3,rfl,(by omega),(by omega),(by omega),(by omega),?_,?_,?_,rfl,hS⟩ ?_
  ·
   intro k k0 k1;omega
  ·
   exact slh_nil
  ·
   exact hv3
  clear hS w
  rintro mm M w ⟨mB,nC,wv,i,wB,fB,wC,rfl,i0,i1,hmB,hnC,hfB,hwB,hwC,rfl,hS⟩
  have hrs1:=fun k (k0:0<=k) (k1:k<nC)=>hS.slhIn 4 rfl k0 k1
  refine zsr ?_
  refine zlv Zk ?_
  refine zlt<|zsq ?_
  refine zcif ?_ ?_<;>intro hc
  ·
   refine zx3 ?_
   refine zlv xmv ?_
   refine zlv (xix (kk:=i) sl_32 hL.A.row.slh) ?_
   refine zlv (xlr (u:=(vq i)) pl_22 (hL.A.row.below hS.below)) ?_
   have hri:=hl.rows i i0 (by omega)
   refine zs2 ?_
   refine zlz ?_
   refine zlv (xfb 2 fd_108_2) ?_
   refine zlv (xlb 3 pl_22 hS) ?_
   refine zlv (xfb 0 fd_108_0) ?_
   refine zlv (xlb 3 pl_3 hS) ?_
   refine zlv xmv ?_
   refine zlv (xadd (r:=p.n+i)) ?_
   refine zla (xli (n:=1) (len:=1) (pv:= [(0,.int .i64 (p.n+i))]) (cs:= [.int .i64 (p.n+i)]) (c:=ints (fun _=>p.n+i)) sl_22 ZG hS) ?_;rintro v6 w ⟨hS,hv6⟩
   replace hS:=hS.n8
   refine zla (xap 6 (r:=mB+1) sl_22 ZG hS (hS.rowN 7 rfl) (Ul _ _ _)) ?_;rintro v7 w ⟨hS,hv7⟩
   replace hS:=hS.n8
   refine zlv (xfb 2 fd_108_2) ?_
   refine zle (xsb 3 pl_22 hS (hv:=hv7.one)) ?_;clear hS;rintro w hS
   replace hS:=hS.n8
   refine zlt ?_
   refine zdst [0,1,3] [0,1] 14 mx_ hS ?_;clear hS;intro w hS
   refine zDrv 0 (xfb 4 fd_108_4) ?_
   refine zdl 1 (fun w hS=>(xlb 2 pl_32 hS)) ?_
   refine zDrv 2 (xfb 2 fd_82_2) ?_
   refine zdla 3 (fun w hS=>(xlb 0 pl_22 hS)) ?_
   refine zDrv 4 xmv ?_
   refine zDrv 5 (xix (kk:=i) sl_22 hL.b.slh) ?_
   refine zdla 6 (fun w hS=>(xlr (u:= .int .i64 (p.b i)) pl_3 (hL.b.below hS.below))) ?_
   have hbi:=hl.b i i0 (by omega)
   refine zDrv 7 (xneg (r:= -((p.b i)))) ?_
   refine zDrv 9 xmv ?_
   refine zda 8 (xli (n:=1) (len:=1) (pv:= [(0,.int .i64 (-((p.b i))))]) (cs:= [.int .i64 (-((p.b i)))]) (c:=ints (fun _=> -((p.b i)))) sl_22 ZG hS) ?_;rintro v8 w ⟨hS,hv8⟩
   replace hS:=hS.n9
   refine⟨⟨fun _=>hS.pk [0,1,3],hS.pk [0,1]⟩,?_⟩
   refine zda 10 (xap 8 (r:=(p.ln i)+1) (f:=ints (cat 1 (fun _=> -(p.b i)) (p.A i))) sl_22 ZG hS ((hL.A.p i (by omega) (by omega)).below hS.below) (by exact Yf _ _ _)) ?_;rintro v9 w ⟨hS,hv9⟩
   replace hS:=hS.n9
   refine⟨⟨fun _=>hS.pk [0,1,3],hS.pk [0,1]⟩,?_⟩
   refine zda 11 (xli (n:=1) (len:=1) (pv:= [(0,v9)]) (cs:= [v9]) (c:=(fun _=>v9)) sl_32 YA hS (hf:=by obtain⟨_,_,_,_,rfl,_⟩:=hv9;kernel_rfl)) ?_;rintro v10 w ⟨hS,hv10⟩
   replace hS:=hS.n10
   refine⟨⟨fun _=>hS.pk [0,1,3],hS.pk [0,1]⟩,?_⟩
   refine zda 12 (xap 2 (r:=nC+1) sl_32 YA hS (hS.rowN 9 rfl) (X6 _ _ _) (h1:=fun _ _ _=>hv9.one)) ?_;rintro v11 w ⟨hS,hv11⟩
   replace hS:=hS.n10
   replace hS:=Sat.merge (l1:= [_,_,_,_]) (l2:= [_,_,_]) (l3:= [_]) hS (by omega)
   have hrs2:=fun k (k0:0<=k) (k1:k<nC+1)=>hS.slhIn 4 rfl k0 k1
   replace hS:=hS.n9
   refine⟨⟨fun _=>hS.pk [0,1,3],hS.pk [0,1]⟩,?_⟩
   refine zDrv 13 (xfb 4 fd_108_4) ?_
   refine zde 14 (xsb 3 pl_32 hS (hv:=hv11.one)) ?_;clear hS;rintro w hS
   replace hS:=hS.n9
   refine⟨⟨fun h=>absurd h (by decide),hS.pk [0,1]⟩,?_⟩
   refine zdd<|zbn<|ztn<|zrg ?_
   refine zlv (xadd (r:=i+1)) ?_
   replace hS:=hS.rerows (vv':=gsn wv nC v9) (ln':=(Zi p).ln) (f':=(Zi p).C) 4 rfl (fun k k0 k1=>by
     by_cases e:k<i+1
     · exact⟨rfl,Zx (by omega),fun j _ _=>by rw [Zx (by omega)]⟩
     · have hki:k=i+1:=by omega
       refine⟨rfl,?_,fun j j0 j1=> ?_⟩
       · rw [ZF (by omega)];show _=p.n+1;omega
       · rw [ZF (by omega)];unfold Zi cat;dsimp only;(repeat' split)<;>first|rfl|omega|(congr 2;omega)|(congr 1;omega))
   replace hS:=hS.n9
   have hrs2x:=fun k (k0:0<=k) (k1:k<nC+1)=>hS.slhIn 4 rfl k0 k1
   refine zlv xmv ?_
   refine zln<|zlq ⟨mB+1,nC+1,gsn wv nC v9,i+1,v7,(Z5 fB mB (p.n+i)),v11,rfl,(by omega),(by omega),(by omega),(by omega),?_,?_,?_,rfl,hS.pk [0,1,2,3,4,5,6]⟩
   ·
    intro k k0 k1;by_cases e:k<mB
    · rw [ZH e];exact hfB k k0 (by omega)
    · rw [ZI e];omega
   ·
    exact hv7
   ·
    exact hv11
  refine zx8 ?_
  refine zlv (xls 3 st_108 hS) ?_
  refine zle (xsw 1 st_108 hS (hd:=(Za rfl (Za rfl (Za hwB.one (Za hwF.one (Za hwC.one Zh))))))) ?_;clear hS;rintro w hS
  replace hS:=hS.n7
  refine zlv xas ?_
  refine zx1<|Ym 1 st_108 hS ⟨_,rfl,?_⟩
  obtain rfl:i=p.m:=by omega
  obtain rfl:mB=p.m:=by omega
  obtain rfl:nC=p.m+1:=by omega
  obtain rfl:nF=p.n:=by omega
  replace hS:=hS.recont 6 rfl (d:=ints (Zi p).B) (fun k k0 k1=>by unfold ints;rw [hfB k k0 (by simp at k1;omega)];rfl)
  replace hS:=hS.recont 5 rfl (d:=ints (Zi p).F) (fun k k0 k1=>by unfold ints;rw [hfF k k0 (by simp at k1;omega)];rfl)
  exact⟨_,_,_,_,Zi p,0,rfl,.inr ⟨hl,rfl,rfl⟩,hwB,hwF,hwC,(hS.pk [2,4,5,6]).perm (WN (l1:= [_,_,_]) (l2:= []) (WN (l1:= [_,_]) (l2:= []) (List.Perm.refl _)))⟩
theorem Zah{vB vF vC:Value}{vv:Int->Value}{t:Tb}(w0:World)(hT:TAt w0 vB vF vC vv t):Calls Try.prog 91 [.agg #[.int .i64 t.vars,.int .i64 t.den,vB,vF,vC]].toArray w0 fun e w=>∃v,e= .returned v/\∃r c d e,v= .tuple #[.int .i64 r,.int .i64 c,B (d=true),.int .i64 e]/\NextR t r c d e/\Sat w0 w []:=
  (Zbz w0 hT).mono fun e w h=>by
    obtain⟨v,he,r,c,d,e',hv,hn,hS⟩:=h
    exact⟨v,he,r,c,d,e',by rw [hv,ZbH],hn,hS⟩
set_option maxRecDepth 20000 in
theorem UU{vB vF vC:Value}{vv:Int->Value}{t:Tb}(w0:World)(hT:TAt w0 vB vF vC vv t):
    Calls Try.prog 72 [.agg #[.int .i64 t.vars,.int .i64 t.den,vB,vF,vC]].toArray w0 fun e w=>∃v,e= .returned v/\∃xB xF xC xv u e,v= .tuple #[.agg #[.int .i64 u.vars,.int .i64 u.den,xB,xF,xC],.int .i64 e]/\Run 1000 t u e/\Slh xB u.nb/\Slh xF u.nf/\Slh xC u.nc/\Sat w0 w [.sem (Frame.alt (u=t/\xB=vB/\xF=vF/\xC=vC/\xv=vv) (Frame.bun [.own xB 1 3 u.nb (ints u.B),.own xF 1 3 u.nf (ints u.F),.own xC 1 22 u.nc xv,.sem (Frame.rows 3 u.nc xv u.ln u.C)]))]:=by
  refine Zn Try.func72 Try.ntmps72 fun w hS=> ?_
  refine zsr ?_
  refine zla (xbx (cs:= [_,_,_,_,_]) hS) ?_;rintro _ w ⟨g1,rfl,hS⟩
  replace hS:=hS.n1
  refine zla (xal (cs:= [_,_,_,_,_]) Yd hS) ?_;rintro _ w ⟨g2,rfl,hS⟩
  replace hS:=hS.n2
  refine zlv xas ?_
  refine zlz ?_
  refine zlv xas ?_
  refine zx6 ?_
  replace hS:=hS.altL (Frame.bun [.own vB 1 3 t.nb (ints t.B),.own vF 1 3 t.nf (ints t.F),.own vC 1 22 t.nc vv,.sem (Frame.rows 3 t.nc vv t.ln t.C)]) (p:=t=t/\vB=vB/\vF=vF/\vC=vC/\vv=vv) ⟨rfl,rfl,rfl,rfl,rfl⟩
  replace hS:=hS.n3
  refine zlp (fun mm M w=>∃(u:Tb) (xB:Value) (xF:Value) (xC:Value) (xv:Int->Value) (n:Int),mm=(((1001:Int)-n).toNat)/\(0<=n)/\(n<=1000)/\(Slh xB u.nb)/\(Slh xF u.nf)/\(Slh xC u.nc)/\(∀z e,Run (1000-n).toNat u z e->Run 1000 t z e)/\M= [(1,.pointer (some ⟨g1,0,none⟩)),(2,.pointer (some ⟨g2,0,none⟩)),(4,.int .i64 n)]/\Sat w0 w [.blk g1 [.int .i64 u.vars,.int .i64 u.den,xB,xF,xC],.blk g2 [.int .i64 0,.int .i64 0,.slice none 0 0,.slice none 0 0,.slice none 0 0],.sem (Frame.alt (u=t/\xB=vB/\xF=vF/\xC=vC/\xv=vv) (Frame.bun [.own xB 1 3 u.nb (ints u.B),.own xF 1 3 u.nf (ints u.F),.own xC 1 22 u.nc xv,.sem (Frame.rows 3 u.nc xv u.ln u.C)]))]) ⟨t,vB,vF,vC,vv,0,rfl,(by omega),(by omega),?_,?_,?_,?_,rfl,hS.sub (List.Sublist.refl _)⟩ ?_
  ·
   exact hT.B.slh
  ·
   exact hT.F.slh
  ·
   exact hT.C.row.slh
  ·
   exact fun z e h=>h
  clear hS w
  rintro mm M w ⟨u,xB,xF,xC,xv,n,rfl,n0,n1,hxB,hxF,hxC,hrun,rfl,hS⟩
  have htu:=Z1 (hT.below hS.below) hS 2 rfl
  have hub:=htu.B.slh.n0;have hub1:=htu.B.slh.n1;have huf:=htu.F.slh.n0;have huf1:=htu.F.slh.n1
  refine zsq<|zbk<|zsr ?_
  refine zlv (xls 0 st_108 hS) ?_
  refine zlc (xc0 Zb6) (Zah (t:=u) w (Z1 (hT.below hS.below) hS 2 rfl)) ?_;rintro _ w ⟨rn1,cn1,dn1,en1,rfl,hnn1,hS'⟩
  replace hS:=hS.cmp hS';clear hS'
  have hrc:=hnn1.rng
  refine zs6 ?_
  refine zs3 ?_
  refine zx5 ?_
  refine zs2 ?_
  refine zlb 20 ?_ ?_<;>intro hc
  ·
   iterate 2 refine zlo ?_
   refine zlv xpt ?_
   refine zlt<|zct<|zsr ?_
   refine zlv (xls 0 st_108 hS) ?_
   refine zlv xmv ?_
   refine zle (xsw 1 st_108 hS (hd:=(Za rfl (Za rfl (Za hxB.one (Za hxF.one (Za hxC.one Zh))))))) ?_;clear hS;rintro w hS
   replace hS:=hS.n3
   refine zlv xas ?_
   refine zlt<|zrt<|ztr<|zbr<|ztr<|ztr<|zbr<|Ym 1 st_108 hS ⟨_,rfl,?_⟩
   exact⟨xB,xF,xC,xv,u,_,rfl,hrun _ _ (.stop hnn1 (by first|exact .inl hc|exact .inr (by omega))),hxB,hxF,hxC,hS.pk [2]⟩
  refine zs3 ?_
  refine zlt ?_
  refine zcif ?_ ?_<;>intro hc
  ·
   refine zsr ?_
   refine zlv (xls 0 st_108 hS) ?_
   refine zlv xmv ?_
   refine zle (xsw 1 st_108 hS (hd:=(Za rfl (Za rfl (Za hxB.one (Za hxF.one (Za hxC.one Zh))))))) ?_;clear hS;rintro w hS
   replace hS:=hS.n3
   refine zlv xas ?_
   refine zlt<|zrt<|ztr<|zbr<|ztr<|ztr<|zbr<|Ym 1 st_108 hS ⟨_,rfl,?_⟩
   exact⟨xB,xF,xC,xv,u,_,rfl,hrun _ _ (.stop hnn1 (by first|exact .inl hc|exact .inr (by omega))),hxB,hxF,hxC,hS.pk [2]⟩
  refine zsk<|ztn<|zsq<|zsr ?_
  refine zlv xmv ?_
  have hn0:NextR u rn1 cn1 false 0:=by have h1:dn1=false:=(by simpa using‹¬(dn1=true)›);have h2:en1=0:=(by omega);have h3:=hnn1;rw [h1,h2] at h3;exact h3
  have hpu:=(hn0.prp (by omega)).1;have hq1:=hpu.n2;have hq2:=hpu.m2
  refine zlv xeql ?_
  refine zlt ?_
  refine zcif ?_ ?_<;>intro hc
  ·
   refine zsr ?_
   refine zlv (xls 0 st_108 hS) ?_
   refine zle (xsw 1 st_108 hS (hd:=(Za rfl (Za rfl (Za hxB.one (Za hxF.one (Za hxC.one Zh))))))) ?_;clear hS;rintro w hS
   replace hS:=hS.n3
   refine zlv xas ?_
   refine zlt<|zrt<|ztr<|zbr<|ztr<|ztr<|zbr<|Ym 1 st_108 hS ⟨_,rfl,?_⟩
   exact⟨xB,xF,xC,xv,u,_,rfl,hrun _ _ (by rw [show(1000-n).toNat=0 by omega];exact .lim hn0),hxB,hxF,hxC,hS.pk [2]⟩
  refine zsk<|ztn<|zsr ?_
  refine zlv (xls 0 st_108 hS) ?_
  refine zs2 ?_
  refine zlc (xc0 Zb5) (Zaf (t:=u) (row:=rn1) (col:=cn1) w (Z1 (hT.below hS.below) hS 2 rfl) (by omega) (by omega)) ?_;rintro _ w ⟨vBk1,vFk1,vCk1,vvk1,tk1,ek1,rfl,hpvk1,hsBk1,hsFk1,hsCk1,hS'⟩
  replace hS:Sat w0 w [.blk g1 [.int .i64 u.vars,.int .i64 u.den,xB,xF,xC],.blk g2 [.int .i64 0,.int .i64 0,.slice none 0 0,.slice none 0 0,.slice none 0 0],.sem (Frame.alt (u=t/\xB=vB/\xF=vF/\xC=vC/\xv=vv) (Frame.bun [.own xB 1 3 u.nb (ints u.B),.own xF 1 3 u.nf (ints u.F),.own xC 1 22 u.nc xv,.sem (Frame.rows 3 u.nc xv u.ln u.C)])),.own vBk1 1 3 tk1.nb (ints tk1.B),.own vFk1 1 3 tk1.nf (ints tk1.F),.own vCk1 1 22 tk1.nc vvk1,.sem (Frame.rows 3 tk1.nc vvk1 tk1.ln tk1.C)]:=hS.comp hS';clear hS'
  have hrsk1:=fun k (k0:0<=k) (k1:k<tk1.nc)=>hS.slhIn 6 rfl k0 k1
  refine zs3 ?_
  refine zla (xal (cs:= [_,_,_,_,_]) Yd hS) ?_;rintro _ w ⟨g3,rfl,hS⟩
  replace hS:=hS.n8
  refine zle (xsw 7 st_108 hS (hd:=(Za rfl (Za rfl (Za hsBk1.one (Za hsFk1.one (Za hsCk1.one Zh))))))) ?_;clear hS;rintro w hS
  replace hS:=hS.n8
  refine zlv xas ?_
  refine zx5 ?_
  refine zs2 ?_
  refine zlt ?_
  refine zcif ?_ ?_<;>intro hc
  ·
   refine zsr ?_
   refine zlv (xls 0 st_108 hS) ?_
   refine zlv xmv ?_
   refine zle (xsw 1 st_108 hS (hd:=(Za rfl (Za rfl (Za hxB.one (Za hxF.one (Za hxC.one Zh))))))) ?_;clear hS;rintro w hS
   replace hS:=hS.n8
   refine zlv xas ?_
   refine zlt<|zrt<|ztr<|zbr<|ztr<|ztr<|zbr<|Ym 1 st_108 hS ⟨_,rfl,?_⟩
   exact⟨xB,xF,xC,xv,u,_,rfl,hrun _ _ (by rw [show(1000-n).toNat=(1000-(n+1)).toNat+1 by omega];exact .bad hn0 hpvk1 (by omega)),hxB,hxF,hxC,hS.pk [2]⟩
  refine zsk<|ztn<|zrg ?_
  refine zlv (xls 7 st_108 hS) ?_
  refine zle (xsw 0 st_108 hS (hd:=(Za rfl (Za rfl (Za hsBk1.one (Za hsFk1.one (Za hsCk1.one Zh))))))) ?_;clear hS;rintro w hS
  replace hS:=hS.n8
  refine zx10 ?_
  refine zlv xmv ?_
  replace hS:=hS.sub (.cons_cons _ (.cons_cons _ (.cons _ (.cons_cons _ (.cons_cons _ (.cons_cons _ (.cons_cons _ (.cons _ .slnil))))))))
  replace hS:=hS.n6
  replace hS:=Sat.altR (tk1=t/\vBk1=vB/\vFk1=vF/\vCk1=vC/\vvk1=vv) (l1:= [.blk g1 [.int .i64 tk1.vars,.int .i64 tk1.den,vBk1,vFk1,vCk1],.blk g2 [.int .i64 0,.int .i64 0,.slice none 0 0,.slice none 0 0,.slice none 0 0]]) (l2:= []) (Sat.bundle (l1:= [.blk g1 [.int .i64 tk1.vars,.int .i64 tk1.den,vBk1,vFk1,vCk1],.blk g2 [.int .i64 0,.int .i64 0,.slice none 0 0,.slice none 0 0,.slice none 0 0]]) (l2:= [.own vBk1 1 3 tk1.nb (ints tk1.B),.own vFk1 1 3 tk1.nf (ints tk1.F),.own vCk1 1 22 tk1.nc vvk1,.sem (Frame.rows 3 tk1.nc vvk1 tk1.ln tk1.C)]) hS)
  replace hS:=hS.n3
  refine zlv (xadd (r:=n+1)) ?_
  refine zlv xas ?_
  refine zln<|zlq ⟨tk1,vBk1,vFk1,vCk1,vvk1,n+1,rfl,(by omega),(by omega),?_,?_,?_,?_,rfl,hS.sub (List.Sublist.refl _)⟩
  ·
   exact hsBk1
  ·
   exact hsFk1
  ·
   exact hsCk1
  ·
   intro z e hz;have he0:ek1=0:=(by omega);rw [he0] at hpvk1;exact hrun z e (by rw [show(1000-n).toNat=(1000-(n+1)).toNat+1 by omega];exact .go hn0 hpvk1 hz)
set_option maxRecDepth 20000 in
theorem Zad{vc vA vb:Value}{vq:Int->Value}{p:Lp}(w0:World)(hL:LAt w0 vc vA vb vq p):
    Calls Try.prog 39 [.agg #[vc,vA,vb]].toArray w0 fun e w=>∃v,e= .returned v/\∃vX vY s e,v= .tuple #[.agg #[vX,vY,.int .i64 s.val,.int .i64 s.den],.int .i64 e]/\SolveR p s e/\Slh vX s.n/\Slh vY s.m/\Sat w0 w [.own vX 1 3 s.n (ints s.X),.own vY 1 3 s.m (ints s.Y)]:=by
  have hn:=hL.c.slh.n0;have hn1:=hL.c.slh.n1;have hm:=hL.A.row.slh.n0;have hm1:=hL.A.row.slh.n1;have hk:=hL.b.slh.n0;have hk1:=hL.b.slh.n1
  refine Zn Try.func39 Try.ntmps39 fun w hS=> ?_
  refine zsr ?_
  refine zla (xbx (cs:= [_,_,_]) hS) ?_;rintro _ w ⟨g1,rfl,hS⟩
  replace hS:=hS.n1
  refine zla (xal (cs:= [_,_,_,_]) Xz hS) ?_;rintro _ w ⟨g2,rfl,hS⟩
  replace hS:=hS.n2
  refine zlv xas ?_
  refine zlz ?_
  refine zlv (xls 0 Zav hS) ?_
  refine zlc (xc0 Zcd) (Zab (p:=p) w (hL.below hS.below)) ?_;rintro _ w ⟨vBk1,vFk1,vCk1,vvk1,tk1,ek1,rfl,hstk1,hsBk1,hsFk1,hsCk1,hS'⟩
  replace hS:Sat w0 w [.blk g1 [vc,vA,vb],.blk g2 [.slice none 0 0,.slice none 0 0,.int .i64 0,.int .i64 0],.own vBk1 1 3 tk1.nb (ints tk1.B),.own vFk1 1 3 tk1.nf (ints tk1.F),.own vCk1 1 22 tk1.nc vvk1,.sem (Frame.rows 3 tk1.nc vvk1 tk1.ln tk1.C)]:=hS.comp hS';clear hS'
  have hrsk1:=fun k (k0:0<=k) (k1:k<tk1.nc)=>hS.slhIn 5 rfl k0 k1
  refine zs3 ?_
  refine zla (xal (cs:= [_,_,_,_,_]) Yd hS) ?_;rintro _ w ⟨g3,rfl,hS⟩
  replace hS:=hS.n7
  refine zle (xsw 6 st_108 hS (hd:=(Za rfl (Za rfl (Za hsBk1.one (Za hsFk1.one (Za hsCk1.one Zh))))))) ?_;clear hS;rintro w hS
  replace hS:=hS.n7
  refine zlv xas ?_
  refine zx5 ?_
  refine zs2 ?_
  refine zlt ?_
  refine zcif ?_ ?_<;>intro hc
  ·
   refine zsr ?_
   refine zlv (xany (v:= .agg #[.slice none 0 0,.slice none 0 0,.int .i64 0,.int .i64 0])) ?_
   refine zlv xmv ?_
   refine zle (xsw 1 Zt hS) ?_;clear hS;rintro w hS
   replace hS:=hS.n7
   refine zlv xas ?_
   refine zx14<|Ym 1 Zt hS ⟨_,rfl,?_⟩
   obtain⟨hl0,hl1⟩:=hstk1.err (by omega)
   exact⟨_,_,So.zero,_,rfl,.inl ⟨hl0,rfl,hl1⟩,slh_nil,slh_nil,((hS.sub (.cons _ (.cons _ (.cons _ (.cons _ (.cons _ (.cons _ (.cons _ .slnil)))))))).addnil 1 3 (ints So.zero.X)).addnil 1 3 (ints So.zero.Y)⟩
  refine zsk<|ztn<|zsq<|zsr ?_
  refine zlv (xls 6 st_108 hS) ?_
  refine zlc (xc0 Zcc) (UU (t:=tk1) w (⟨(hS.rowN 2 rfl),(hS.rowN 3 rfl),(⟨(hS.rowN 4 rfl),fun k k0 k1=>hS.rowIn 5 rfl k0 k1,fun k k0 k1=>hS.roomIn 5 rfl k0 k1⟩:MAt _ vCk1 tk1.nc vvk1 tk1.ln tk1.C)⟩:TAt _ vBk1 vFk1 vCk1 vvk1 tk1)) ?_;rintro _ w ⟨xBu1,xFu1,xCu1,xvu1,uu1,euu1,rfl,hrunu1,hxBu1,hxFu1,hxCu1,hS'⟩
  replace hS:Sat w0 w [.blk g1 [vc,vA,vb],.blk g2 [.slice none 0 0,.slice none 0 0,.int .i64 0,.int .i64 0],.own vBk1 1 3 tk1.nb (ints tk1.B),.own vFk1 1 3 tk1.nf (ints tk1.F),.own vCk1 1 22 tk1.nc vvk1,.sem (Frame.rows 3 tk1.nc vvk1 tk1.ln tk1.C),.blk g3 [.int .i64 tk1.vars,.int .i64 tk1.den,vBk1,vFk1,vCk1],.sem (Frame.alt (uu1=tk1/\xBu1=vBk1/\xFu1=vFk1/\xCu1=vCk1/\xvu1=vvk1) (Frame.bun [.own xBu1 1 3 uu1.nb (ints uu1.B),.own xFu1 1 3 uu1.nf (ints uu1.F),.own xCu1 1 22 uu1.nc xvu1,.sem (Frame.rows 3 uu1.nc xvu1 uu1.ln uu1.C)]))]:=hS.comp hS';clear hS'
  have hxru1:=fun k (k0:0<=k) (k1:k<uu1.nc)=>((Z1 (⟨(hS.rowN 2 rfl),(hS.rowN 3 rfl),(⟨(hS.rowN 4 rfl),fun k k0 k1=>hS.rowIn 5 rfl k0 k1,fun k k0 k1=>hS.roomIn 5 rfl k0 k1⟩:MAt _ vCk1 tk1.nc vvk1 tk1.ln tk1.C)⟩:TAt _ vBk1 vFk1 vCk1 vvk1 tk1) hS 7 rfl).C.p k k0 k1).slh
  refine zs3 ?_
  refine zle (xsw 6 st_108 hS (hd:=(Za rfl (Za rfl (Za hxBu1.one (Za hxFu1.one (Za hxCu1.one Zh))))))) ?_;clear hS;rintro w hS
  replace hS:=hS.n8
  refine zlv xas ?_
  refine zlz ?_
  refine zs2 ?_
  refine zlt ?_
  refine zcif ?_ ?_<;>intro hc
  ·
   refine zsr ?_
   refine zlv (xany (v:= .agg #[.slice none 0 0,.slice none 0 0,.int .i64 0,.int .i64 0])) ?_
   refine zlv xmv ?_
   refine zle (xsw 1 Zt hS) ?_;clear hS;rintro w hS
   replace hS:=hS.n8
   refine zlv xas ?_
   refine zx14<|Ym 1 Zt hS ⟨_,rfl,?_⟩
   obtain⟨hl,hts⟩:=hstk1.ok (by omega);rw [hts] at hrunu1
   exact⟨_,_,So.zero,_,rfl,.inr ⟨hl,_,hrunu1,.inl ⟨by omega,rfl⟩⟩,slh_nil,slh_nil,((hS.sub (.cons _ (.cons _ (.cons _ (.cons _ (.cons _ (.cons _ (.cons _ (.cons _ .slnil))))))))).addnil 1 3 (ints So.zero.X)).addnil 1 3 (ints So.zero.Y)⟩
  refine zsk<|ztn<|zsq<| ?_
  refine T7 (fun M w=>∃(v1:Value) (v2:Value) (g4:Nat),(Slh v1 p.n)/\(Slh v2 p.m)/\M= [(0,.agg #[vc,vA,vb]),(1,.pointer (some ⟨g1,0,none⟩)),(2,.pointer (some ⟨g2,0,none⟩)),(3,.int .i64 0),(12,.agg #[vc,vA,vb]),(13,.tuple #[.agg #[.int .i64 tk1.vars,.int .i64 tk1.den,vBk1,vFk1,vCk1],.int .i64 ek1]),(11,.tuple #[.agg #[.int .i64 tk1.vars,.int .i64 tk1.den,vBk1,vFk1,vCk1],.int .i64 ek1]),(14,.agg #[.int .i64 tk1.vars,.int .i64 tk1.den,vBk1,vFk1,vCk1]),(15,.int .i64 ek1),(4,.pointer (some ⟨g3,0,none⟩)),(5,.int .i64 euu1),(16,.int .i64 ek1),(17,B (ek1≠0)),(21,.agg #[.int .i64 tk1.vars,.int .i64 tk1.den,vBk1,vFk1,vCk1]),(22,.tuple #[.agg #[.int .i64 uu1.vars,.int .i64 uu1.den,xBu1,xFu1,xCu1],.int .i64 euu1]),(20,.tuple #[.agg #[.int .i64 uu1.vars,.int .i64 uu1.den,xBu1,xFu1,xCu1],.int .i64 euu1]),(23,.agg #[.int .i64 uu1.vars,.int .i64 uu1.den,xBu1,xFu1,xCu1]),(24,.int .i64 euu1),(25,.int .i64 euu1),(26,B (euu1≠0)),(29,.pointer (some ⟨g1,0,none⟩)),(30,vc),(31,.int .i64 p.n),(33,.pointer (some ⟨g1,1,none⟩)),(34,vA),(35,.int .i64 p.m),(37,.pointer (some ⟨g3,4,none⟩)),(38,xCu1),(39,.pointer (some (cad xCu1 0))),(40,(xvu1 0)),(41,.pointer (some (cad (xvu1 0) 0))),(42,.int .i64 (uu1.C 0 0)),(43,.pointer (some ⟨g3,1,none⟩)),(44,.int .i64 uu1.den),(32,v1),(36,v2),(45,.agg #[v1,v2,.int .i64 (uu1.C 0 0),.int .i64 uu1.den]),(6,.pointer (some ⟨g4,0,none⟩))]/\Sat w0 w [.blk g1 [vc,vA,vb],.blk g2 [.slice none 0 0,.slice none 0 0,.int .i64 0,.int .i64 0],.own vBk1 1 3 tk1.nb (ints tk1.B),.own vFk1 1 3 tk1.nf (ints tk1.F),.own vCk1 1 22 tk1.nc vvk1,.sem (Frame.rows 3 tk1.nc vvk1 tk1.ln tk1.C),.blk g3 [.int .i64 uu1.vars,.int .i64 uu1.den,xBu1,xFu1,xCu1],.sem (Frame.alt (uu1=tk1/\xBu1=vBk1/\xFu1=vFk1/\xCu1=vCk1/\xvu1=vvk1) (Frame.bun [.own xBu1 1 3 uu1.nb (ints uu1.B),.own xFu1 1 3 uu1.nf (ints uu1.F),.own xCu1 1 22 uu1.nc xvu1,.sem (Frame.rows 3 uu1.nc xvu1 uu1.ln uu1.C)])),.own v1 1 3 p.n (ints (fun _=>0)),.own v2 1 3 p.m (ints (fun _=>0)),.blk g4 [v1,v2,.int .i64 (uu1.C 0 0),.int .i64 uu1.den]]) ?_ ?_
  ·
   refine zdst [0,1,2,3,4,5,6,7] [0,1,2,3,4,5,6,7] 18 mx_ hS ?_;clear hS;intro w hS
   refine zDrv 0 (xfb 0 fd_82_0) ?_
   obtain⟨hl,hts⟩:=hstk1.ok (by omega)
   have b1:=hl.n1
   have b2:=hl.n2
   have b3:=hl.m2
   have b4:=hl.k
   have hdm:=hrunu1.dims
   obtain⟨hp,hco,hlv,_⟩:=hrunu1.fin (.inl (by omega))
   have hd1:uu1.nb=p.m:=by rw [hdm.1,hts];rfl
   have hd2:uu1.nf=p.n:=by rw [hdm.2.1,hts];rfl
   have hd3:uu1.vars=p.n:=by rw [hdm.2.2.2,hts];rfl
   have hd4:=hp.c;have hl0:=hp.len (i:=0) (by omega) (by omega)
   refine zdla 1 (fun w hS=>(xlb 0 pl_22 hS)) ?_
   refine zDrv 2 (xln sl_22 hL.c.slh) ?_
   refine zDrv 4 (xfb 1 fd_82_1) ?_
   refine zdla 5 (fun w hS=>(xlb 0 pl_32 hS)) ?_
   refine zDrv 6 (xln sl_32 hL.A.row.slh) ?_
   refine zDrv 8 (xfb 4 fd_108_4) ?_
   refine zdla 9 (fun w hS=>(xlb 6 pl_32 hS)) ?_
   refine zDrv 10 (xix (kk:=0) sl_32 hxCu1) ?_
   refine zdla 11 (fun w hS=>(xlr (u:=(xvu1 0)) pl_22 (Z1 (⟨(hS.rowN 2 rfl),(hS.rowN 3 rfl),(⟨(hS.rowN 4 rfl),fun k k0 k1=>hS.rowIn 5 rfl k0 k1,fun k k0 k1=>hS.roomIn 5 rfl k0 k1⟩:MAt _ vCk1 tk1.nc vvk1 tk1.ln tk1.C)⟩:TAt _ vBk1 vFk1 vCk1 vvk1 tk1) hS 7 rfl).C.row)) ?_
   refine zDrv 12 (xix (kk:=0) sl_22 (hxru1 0 (by omega) (by omega))) ?_
   refine zdla 13 (fun w hS=>(xlr (u:= .int .i64 (uu1.C 0 0)) pl_3 ((Z1 (⟨(hS.rowN 2 rfl),(hS.rowN 3 rfl),(⟨(hS.rowN 4 rfl),fun k k0 k1=>hS.rowIn 5 rfl k0 k1,fun k k0 k1=>hS.roomIn 5 rfl k0 k1⟩:MAt _ vCk1 tk1.nc vvk1 tk1.ln tk1.C)⟩:TAt _ vBk1 vFk1 vCk1 vvk1 tk1) hS 7 rfl).C.p 0 (by omega) (by omega)))) ?_
   refine zDrv 14 (xfb 1 fd_108_1) ?_
   refine zdla 15 (fun w hS=>(xlb 6 pl_3 hS)) ?_
   refine X8 (r:= [3,7,17]) ((Yu ?_ (Yu ?_ (Yu ?_ X7))))
   ·
    refine zka (xmk sl_22 ZG hS) ?_;rintro v1 w ⟨hS,hv1⟩
    replace hS:=hS.n9
    refine⟨⟨fun _=>hS.pk [0,1,2,3,4,5,6,7],hS.pk [0,1,2,3,4,5,6,7]⟩,?_⟩
    refine X8 (r:= [7,17]) ((Yu ?_ (Yu ?_ X7)))
    ·
     refine zka (xmk sl_22 ZG hS) ?_;rintro v2 w ⟨hS,hv2⟩
     replace hS:=hS.n10
     refine⟨⟨fun _=>hS.pk [0,1,2,3,4,5,6,7],hS.pk [0,1,2,3,4,5,6,7]⟩,?_⟩
     refine zDrv 16 (xany (v:= .agg #[v1,v2,.int .i64 (uu1.C 0 0),.int .i64 uu1.den]) (hr:=by obtain⟨_,_,_,_,rfl,_⟩:=hv1;obtain⟨_,_,_,_,rfl,_⟩:=hv2;kernel_rfl)) ?_
     refine zda 17 (xal (cs:= [_,_,_,_]) Xz hS) ?_;rintro _ w ⟨g4,rfl,hS⟩
     replace hS:=hS.n11
     refine⟨⟨fun _=>hS.pk [0,1,2,3,4,5,6,7],hS.pk [0,1,2,3,4,5,6,7]⟩,?_⟩
     refine zde 18 (xsw 10 Zt hS (hd:=(Za hv1.one (Za hv2.one (Za rfl (Za rfl Zh)))))) ?_;clear hS;rintro w hS
     replace hS:=hS.n11
     refine⟨⟨fun h=>absurd h (by decide),hS.pk [0,1,2,3,4,5,6,7]⟩,?_⟩
     refine zdd<|zgj ⟨v1,v2,g4,hv1,hv2,rfl,hS⟩
    refine zka (xal (cs:= [_,_,_,_]) Xz hS) ?_;rintro _ w ⟨g4,rfl,hS⟩
    replace hS:=hS.n10
    refine⟨⟨fun _=>hS.pk [0,1,2,3,4,5,6,7],hS.pk [0,1,2,3,4,5,6,7]⟩,?_⟩
    refine zda 7 (xmk sl_22 ZG hS) ?_;rintro v2 w ⟨hS,hv2⟩
    replace hS:=hS.n11
    refine⟨⟨fun _=>hS.pk [0,1,2,3,4,5,6,7],hS.pk [0,1,2,3,4,5,6,7]⟩,?_⟩
    refine zDrv 16 (xany (v:= .agg #[v1,v2,.int .i64 (uu1.C 0 0),.int .i64 uu1.den]) (hr:=by obtain⟨_,_,_,_,rfl,_⟩:=hv1;obtain⟨_,_,_,_,rfl,_⟩:=hv2;kernel_rfl)) ?_
    refine zde 18 (xsw 9 Zt hS (hd:=(Za hv1.one (Za hv2.one (Za rfl (Za rfl Zh)))))) ?_;clear hS;rintro w hS
    replace hS:=hS.n11
    refine⟨⟨fun h=>absurd h (by decide),hS.pk [0,1,2,3,4,5,6,7]⟩,?_⟩
    refine zdd<|zgj ⟨v1,v2,g4,hv1,hv2,rfl,hS.pk [0,1,2,3,4,5,6,7,8,10,9]⟩
   ·
    refine zka (xmk sl_22 ZG hS) ?_;rintro v1 w ⟨hS,hv1⟩
    replace hS:=hS.n9
    refine⟨⟨fun _=>hS.pk [0,1,2,3,4,5,6,7],hS.pk [0,1,2,3,4,5,6,7]⟩,?_⟩
    refine X8 (r:= [3,17]) ((Yu ?_ (Yu ?_ X7)))
    ·
     refine zka (xmk sl_22 ZG hS) ?_;rintro v2 w ⟨hS,hv2⟩
     replace hS:=hS.n10
     refine⟨⟨fun _=>hS.pk [0,1,2,3,4,5,6,7],hS.pk [0,1,2,3,4,5,6,7]⟩,?_⟩
     refine zDrv 16 (xany (v:= .agg #[v2,v1,.int .i64 (uu1.C 0 0),.int .i64 uu1.den]) (hr:=by obtain⟨_,_,_,_,rfl,_⟩:=hv2;obtain⟨_,_,_,_,rfl,_⟩:=hv1;kernel_rfl)) ?_
     refine zda 17 (xal (cs:= [_,_,_,_]) Xz hS) ?_;rintro _ w ⟨g4,rfl,hS⟩
     replace hS:=hS.n11
     refine⟨⟨fun _=>hS.pk [0,1,2,3,4,5,6,7],hS.pk [0,1,2,3,4,5,6,7]⟩,?_⟩
     refine zde 18 (xsw 10 Zt hS (hd:=(Za hv2.one (Za hv1.one (Za rfl (Za rfl Zh)))))) ?_;clear hS;rintro w hS
     replace hS:=hS.n11
     refine⟨⟨fun h=>absurd h (by decide),hS.pk [0,1,2,3,4,5,6,7]⟩,?_⟩
     refine zdd<|zgj ⟨v2,v1,g4,hv2,hv1,rfl,hS.pk [0,1,2,3,4,5,6,7,9,8,10]⟩
    refine zka (xal (cs:= [_,_,_,_]) Xz hS) ?_;rintro _ w ⟨g4,rfl,hS⟩
    replace hS:=hS.n10
    refine⟨⟨fun _=>hS.pk [0,1,2,3,4,5,6,7],hS.pk [0,1,2,3,4,5,6,7]⟩,?_⟩
    refine zda 3 (xmk sl_22 ZG hS) ?_;rintro v2 w ⟨hS,hv2⟩
    replace hS:=hS.n11
    refine⟨⟨fun _=>hS.pk [0,1,2,3,4,5,6,7],hS.pk [0,1,2,3,4,5,6,7]⟩,?_⟩
    refine zDrv 16 (xany (v:= .agg #[v2,v1,.int .i64 (uu1.C 0 0),.int .i64 uu1.den]) (hr:=by obtain⟨_,_,_,_,rfl,_⟩:=hv2;obtain⟨_,_,_,_,rfl,_⟩:=hv1;kernel_rfl)) ?_
    refine zde 18 (xsw 9 Zt hS (hd:=(Za hv2.one (Za hv1.one (Za rfl (Za rfl Zh)))))) ?_;clear hS;rintro w hS
    replace hS:=hS.n11
    refine⟨⟨fun h=>absurd h (by decide),hS.pk [0,1,2,3,4,5,6,7]⟩,?_⟩
    refine zdd<|zgj ⟨v2,v1,g4,hv2,hv1,rfl,hS.pk [0,1,2,3,4,5,6,7,10,8,9]⟩
   refine zka (xal (cs:= [_,_,_,_]) Xz hS) ?_;rintro _ w ⟨g4,rfl,hS⟩
   replace hS:=hS.n9
   refine⟨⟨fun _=>hS.pk [0,1,2,3,4,5,6,7],hS.pk [0,1,2,3,4,5,6,7]⟩,?_⟩
   refine X8 (r:= [3,7]) ((Yu ?_ (Yu ?_ X7)))
   ·
    refine zka (xmk sl_22 ZG hS) ?_;rintro v1 w ⟨hS,hv1⟩
    replace hS:=hS.n10
    refine⟨⟨fun _=>hS.pk [0,1,2,3,4,5,6,7],hS.pk [0,1,2,3,4,5,6,7]⟩,?_⟩
    refine zda 7 (xmk sl_22 ZG hS) ?_;rintro v2 w ⟨hS,hv2⟩
    replace hS:=hS.n11
    refine⟨⟨fun _=>hS.pk [0,1,2,3,4,5,6,7],hS.pk [0,1,2,3,4,5,6,7]⟩,?_⟩
    refine zDrv 16 (xany (v:= .agg #[v1,v2,.int .i64 (uu1.C 0 0),.int .i64 uu1.den]) (hr:=by obtain⟨_,_,_,_,rfl,_⟩:=hv1;obtain⟨_,_,_,_,rfl,_⟩:=hv2;kernel_rfl)) ?_
    refine zde 18 (xsw 8 Zt hS (hd:=(Za hv1.one (Za hv2.one (Za rfl (Za rfl Zh)))))) ?_;clear hS;rintro w hS
    replace hS:=hS.n11
    refine⟨⟨fun h=>absurd h (by decide),hS.pk [0,1,2,3,4,5,6,7]⟩,?_⟩
    refine zdd<|zgj ⟨v1,v2,g4,hv1,hv2,rfl,hS.pk [0,1,2,3,4,5,6,7,9,10,8]⟩
   refine zka (xmk sl_22 ZG hS) ?_;rintro v1 w ⟨hS,hv1⟩
   replace hS:=hS.n10
   refine⟨⟨fun _=>hS.pk [0,1,2,3,4,5,6,7],hS.pk [0,1,2,3,4,5,6,7]⟩,?_⟩
   refine zda 3 (xmk sl_22 ZG hS) ?_;rintro v2 w ⟨hS,hv2⟩
   replace hS:=hS.n11
   refine⟨⟨fun _=>hS.pk [0,1,2,3,4,5,6,7],hS.pk [0,1,2,3,4,5,6,7]⟩,?_⟩
   refine zDrv 16 (xany (v:= .agg #[v2,v1,.int .i64 (uu1.C 0 0),.int .i64 uu1.den]) (hr:=by obtain⟨_,_,_,_,rfl,_⟩:=hv2;obtain⟨_,_,_,_,rfl,_⟩:=hv1;kernel_rfl)) ?_
   refine zde 18 (xsw 8 Zt hS (hd:=(Za hv2.one (Za hv1.one (Za rfl (Za rfl Zh)))))) ?_;clear hS;rintro w hS
   replace hS:=hS.n11
   refine⟨⟨fun h=>absurd h (by decide),hS.pk [0,1,2,3,4,5,6,7]⟩,?_⟩
   refine zdd<|zgj ⟨v2,v1,g4,hv2,hv1,rfl,hS.pk [0,1,2,3,4,5,6,7,10,9,8]⟩
  clear hS w;rintro M w ⟨v1,v2,g4,hv1,hv2,rfl,hS⟩
  refine ztn<|zsq<|zsr ?_
  refine zlv (xfb 2 fd_108_2) ?_
  obtain⟨hl,hts⟩:=hstk1.ok (by omega)
  have b1:=hl.n1
  have b2:=hl.n2
  have b3:=hl.m2
  have b4:=hl.k
  have hdm:=hrunu1.dims
  obtain⟨hp,hco,hlv,_⟩:=hrunu1.fin (.inl (by omega))
  have hd1:uu1.nb=p.m:=by rw [hdm.1,hts];rfl
  have hd2:uu1.nf=p.n:=by rw [hdm.2.1,hts];rfl
  have hd3:uu1.vars=p.n:=by rw [hdm.2.2.2,hts];rfl
  have hd4:=hp.c;have hl0:=hp.len (i:=0) (by omega) (by omega)
  refine zlv (xlb 6 pl_22 hS) ?_
  refine zlv (xln sl_22 hxBu1) ?_
  refine zlv xmv ?_
  refine zx6<|zlp (fun mm M w=>∃(i:Int) (fX:Int->Int),mm=((uu1.nb-i).toNat)/\(0<=i)/\(i<=uu1.nb)/\(fX=rdX uu1 i.toNat)/\M= [(2,.pointer (some ⟨g2,0,none⟩)),(3,.int .i64 0),(4,.pointer (some ⟨g3,0,none⟩)),(6,.pointer (some ⟨g4,0,none⟩)),(47,xBu1),(48,.int .i64 uu1.nb),(49,.int .i64 i)]/\Sat w0 w [.blk g1 [vc,vA,vb],.blk g2 [.slice none 0 0,.slice none 0 0,.int .i64 0,.int .i64 0],.own vBk1 1 3 tk1.nb (ints tk1.B),.own vFk1 1 3 tk1.nf (ints tk1.F),.own vCk1 1 22 tk1.nc vvk1,.sem (Frame.rows 3 tk1.nc vvk1 tk1.ln tk1.C),.blk g3 [.int .i64 uu1.vars,.int .i64 uu1.den,xBu1,xFu1,xCu1],.sem (Frame.alt (uu1=tk1/\xBu1=vBk1/\xFu1=vFk1/\xCu1=vCk1/\xvu1=vvk1) (Frame.bun [.own xBu1 1 3 uu1.nb (ints uu1.B),.own xFu1 1 3 uu1.nf (ints uu1.F),.own xCu1 1 22 uu1.nc xvu1,.sem (Frame.rows 3 uu1.nc xvu1 uu1.ln uu1.C)])),.own v1 1 3 p.n (ints fX),.own v2 1 3 p.m (ints (fun _=>0)),.blk g4 [v1,v2,.int .i64 (uu1.C 0 0),.int .i64 uu1.den]]) ⟨0,(fun _=>0),rfl,(by omega),(by omega),?_,rfl,hS⟩ ?_
  ·
   rfl
  clear hS w
  rintro mm M w ⟨i,fX,rfl,h0,h1,hfX,rfl,hS⟩
  refine zsr ?_
  refine zlv Zk ?_
  refine zlt<|zsq ?_
  refine zcif ?_ ?_<;>intro hc
  ·
   refine zx3 ?_
   refine zlv xmv ?_
   refine zlv (xix (kk:=i) sl_22 hxBu1) ?_
   refine zlv (xlr (u:= .int .i64 (uu1.B i)) pl_3 (Z1 (⟨(hS.rowN 2 rfl),(hS.rowN 3 rfl),(⟨(hS.rowN 4 rfl),fun k k0 k1=>hS.rowIn 5 rfl k0 k1,fun k k0 k1=>hS.roomIn 5 rfl k0 k1⟩:MAt _ vCk1 tk1.nc vvk1 tk1.ln tk1.C)⟩:TAt _ vBk1 vFk1 vCk1 vvk1 tk1) hS 7 rfl).B) ?_
   have hrg:=hp.rngB (i:=i) h0 (by omega)
   refine zs2 ?_
   refine zlz ?_
   refine zlv xmv ?_
   refine zlv (xfb 0 fd_108_0) ?_
   refine zlv (xlb 6 pl_3 hS) ?_
   refine zlv Zk ?_
   refine zlt ?_
   refine zcif ?_ ?_<;>intro hc
   ·
    refine zdst [0,1,2,3,4,5,6,7,8,9,10] [0,1,2,3,4,5,6,7,9,10] 12 mx_ hS ?_;clear hS;intro w hS
    refine zDrv 0 (xfb 0 fd_36_0) ?_
    have hli:=hp.len (i:=i+1) (by omega) (by omega)
    refine zdla 1 (fun w hS=>(xlb 9 pl_22 hS)) ?_
    refine zDrv 2 xmv ?_
    refine zDrv 3 (xfb 4 fd_108_4) ?_
    refine zdla 4 (fun w hS=>(xlb 6 pl_32 hS)) ?_
    refine zDrv 5 xmv ?_
    refine zDrv 6 (xadd (r:=i+1)) ?_
    refine zDrv 7 (xix (kk:=i+1) sl_32 hxCu1) ?_
    refine zdla 8 (fun w hS=>(xlr (u:=(xvu1 (i+1))) pl_22 (Z1 (⟨(hS.rowN 2 rfl),(hS.rowN 3 rfl),(⟨(hS.rowN 4 rfl),fun k k0 k1=>hS.rowIn 5 rfl k0 k1,fun k k0 k1=>hS.roomIn 5 rfl k0 k1⟩:MAt _ vCk1 tk1.nc vvk1 tk1.ln tk1.C)⟩:TAt _ vBk1 vFk1 vCk1 vvk1 tk1) hS 7 rfl).C.row)) ?_
    refine zDrv 9 (xix (kk:=0) sl_22 (hxru1 (i+1) (by omega) (by omega))) ?_
    refine zdla 10 (fun w hS=>(xlr (u:= .int .i64 (uu1.C (i+1) 0)) pl_3 ((Z1 (⟨(hS.rowN 2 rfl),(hS.rowN 3 rfl),(⟨(hS.rowN 4 rfl),fun k k0 k1=>hS.rowIn 5 rfl k0 k1,fun k k0 k1=>hS.roomIn 5 rfl k0 k1⟩:MAt _ vCk1 tk1.nc vvk1 tk1.ln tk1.C)⟩:TAt _ vBk1 vFk1 vCk1 vvk1 tk1) hS 7 rfl).C.p (i+1) (by omega) (by omega)))) ?_
    refine zDrv 11 (xix (kk:=(uu1.B i)) sl_22 hv1) ?_
    refine zde 12 (xso 8 pl_3 hS (ZZ _ _ _)) ?_;clear hS;rintro w hS
    replace hS:=hS.n11
    refine⟨⟨fun h=>absurd h (by decide),hS.pk [0,1,2,3,4,5,6,7,9,10]⟩,?_⟩
    refine zdd<|zbn<|ztn<|zrg ?_
    refine zlv (xadd (r:=i+1)) ?_
    refine zlv xmv ?_
    refine zln<|zlq ⟨i+1,(upd fX (uu1.B i) (uu1.C (i+1) 0)),rfl,(by omega),(by omega),?_,rfl,hS⟩
    ·
     rw [VS uu1 h0,<-hfX];first|rw [if_pos (by omega)]|rw [if_neg (by omega)]
   refine zx4 ?_
   refine zlv (xadd (r:=i+1)) ?_
   refine zlv xmv ?_
   refine zln<|zlq ⟨i+1,fX,rfl,(by omega),(by omega),?_,rfl,hS⟩
   ·
    rw [VS uu1 h0,<-hfX];first|rw [if_pos (by omega)]|rw [if_neg (by omega)]
  refine zxt<|ztx<|ztx<|zbh<|ztn<|zsq<|zsr ?_
  refine zlv (xfb 3 fd_108_3) ?_
  refine zlv (xlb 6 pl_22 hS) ?_
  refine zlv (xln sl_22 hxFu1) ?_
  refine zlv xmv ?_
  refine zx6<|zlp (fun mm M w=>∃(j:Int) (fY:Int->Int),mm=((uu1.nf-j).toNat)/\(0<=j)/\(j<=uu1.nf)/\(fY=rdY uu1 j.toNat)/\M= [(2,.pointer (some ⟨g2,0,none⟩)),(3,.int .i64 0),(4,.pointer (some ⟨g3,0,none⟩)),(6,.pointer (some ⟨g4,0,none⟩)),(72,xFu1),(73,.int .i64 uu1.nf),(74,.int .i64 j)]/\Sat w0 w [.blk g1 [vc,vA,vb],.blk g2 [.slice none 0 0,.slice none 0 0,.int .i64 0,.int .i64 0],.own vBk1 1 3 tk1.nb (ints tk1.B),.own vFk1 1 3 tk1.nf (ints tk1.F),.own vCk1 1 22 tk1.nc vvk1,.sem (Frame.rows 3 tk1.nc vvk1 tk1.ln tk1.C),.blk g3 [.int .i64 uu1.vars,.int .i64 uu1.den,xBu1,xFu1,xCu1],.sem (Frame.alt (uu1=tk1/\xBu1=vBk1/\xFu1=vFk1/\xCu1=vCk1/\xvu1=vvk1) (Frame.bun [.own xBu1 1 3 uu1.nb (ints uu1.B),.own xFu1 1 3 uu1.nf (ints uu1.F),.own xCu1 1 22 uu1.nc xvu1,.sem (Frame.rows 3 uu1.nc xvu1 uu1.ln uu1.C)])),.own v1 1 3 p.n (ints fX),.own v2 1 3 p.m (ints fY),.blk g4 [v1,v2,.int .i64 (uu1.C 0 0),.int .i64 uu1.den]]) ⟨0,(fun _=>0),rfl,(by omega),(by omega),?_,rfl,hS⟩ ?_
  ·
   rfl
  clear hS w
  rintro mm M w ⟨j,fY,rfl,j0,j1,hfY,rfl,hS⟩
  refine zsr ?_
  refine zlv Zk ?_
  refine zlt<|zsq ?_
  refine zcif ?_ ?_<;>intro hc
  ·
   refine zx3 ?_
   refine zlv xmv ?_
   refine zlv (xix (kk:=j) sl_22 hxFu1) ?_
   refine zlv (xlr (u:= .int .i64 (uu1.F j)) pl_3 (Z1 (⟨(hS.rowN 2 rfl),(hS.rowN 3 rfl),(⟨(hS.rowN 4 rfl),fun k k0 k1=>hS.rowIn 5 rfl k0 k1,fun k k0 k1=>hS.roomIn 5 rfl k0 k1⟩:MAt _ vCk1 tk1.nc vvk1 tk1.ln tk1.C)⟩:TAt _ vBk1 vFk1 vCk1 vvk1 tk1) hS 7 rfl).F) ?_
   have hrg:=hp.rngF (i:=j) j0 (by omega) (by omega)
   refine zs2 ?_
   refine zlz ?_
   refine zlv xmv ?_
   refine zlv (xfb 0 fd_108_0) ?_
   refine zlv (xlb 6 pl_3 hS) ?_
   refine zlv Yo ?_
   refine zlt ?_
   refine zcif ?_ ?_<;>intro hc
   ·
    refine zdst [0,1,2,3,4,5,6,7,8,9,10] [0,1,2,3,4,5,6,7,8,10] 15 mx_ hS ?_;clear hS;intro w hS
    refine zDrv 0 (xfb 1 fd_36_1) ?_
    refine zdla 1 (fun w hS=>(xlb 9 pl_22 hS)) ?_
    refine zDrv 2 xmv ?_
    refine zDrv 3 (xfb 0 fd_108_0) ?_
    refine zdla 4 (fun w hS=>(xlb 6 pl_3 hS)) ?_
    refine zDrv 5 (xsub (r:=(uu1.F j)-uu1.vars)) ?_
    refine zDrv 6 (xfb 4 fd_108_4) ?_
    refine zdla 7 (fun w hS=>(xlb 6 pl_32 hS)) ?_
    refine zDrv 8 (xix (kk:=0) sl_32 hxCu1) ?_
    refine zdla 9 (fun w hS=>(xlr (u:=(xvu1 0)) pl_22 (Z1 (⟨(hS.rowN 2 rfl),(hS.rowN 3 rfl),(⟨(hS.rowN 4 rfl),fun k k0 k1=>hS.rowIn 5 rfl k0 k1,fun k k0 k1=>hS.roomIn 5 rfl k0 k1⟩:MAt _ vCk1 tk1.nc vvk1 tk1.ln tk1.C)⟩:TAt _ vBk1 vFk1 vCk1 vvk1 tk1) hS 7 rfl).C.row)) ?_
    refine zDrv 10 xmv ?_
    refine zDrv 11 (xadd (r:=j+1)) ?_
    refine zDrv 12 (xix (kk:=j+1) sl_22 (hxru1 0 (by omega) (by omega))) ?_
    refine zdla 13 (fun w hS=>(xlr (u:= .int .i64 (uu1.C 0 (j+1))) pl_3 ((Z1 (⟨(hS.rowN 2 rfl),(hS.rowN 3 rfl),(⟨(hS.rowN 4 rfl),fun k k0 k1=>hS.rowIn 5 rfl k0 k1,fun k k0 k1=>hS.roomIn 5 rfl k0 k1⟩:MAt _ vCk1 tk1.nc vvk1 tk1.ln tk1.C)⟩:TAt _ vBk1 vFk1 vCk1 vvk1 tk1) hS 7 rfl).C.p 0 (by omega) (by omega)))) ?_
    refine zDrv 14 (xix (kk:=(uu1.F j)-uu1.vars) sl_22 hv2) ?_
    refine zde 15 (xso 9 pl_3 hS (ZZ _ _ _)) ?_;clear hS;rintro w hS
    replace hS:=hS.n11
    refine⟨⟨fun h=>absurd h (by decide),hS.pk [0,1,2,3,4,5,6,7,8,10]⟩,?_⟩
    refine zdd<|zbn<|ztn<|zrg ?_
    refine zlv (xadd (r:=j+1)) ?_
    refine zlv xmv ?_
    refine zln<|zlq ⟨j+1,(upd fY ((uu1.F j)-uu1.vars) (uu1.C 0 (j+1))),rfl,(by omega),(by omega),?_,rfl,hS⟩
    ·
     rw [VR uu1 j0,<-hfY];first|rw [if_pos (by omega)]|rw [if_neg (by omega)]
   refine zx4 ?_
   refine zlv (xadd (r:=j+1)) ?_
   refine zlv xmv ?_
   refine zln<|zlq ⟨j+1,fY,rfl,(by omega),(by omega),?_,rfl,hS⟩
   ·
    rw [VR uu1 j0,<-hfY];first|rw [if_pos (by omega)]|rw [if_neg (by omega)]
  refine zx8 ?_
  refine zlv (xls 10 Zt hS) ?_
  refine zle (xsw 1 Zt hS (hd:=(Za hv1.one (Za hv2.one (Za rfl (Za rfl Zh)))))) ?_;clear hS;rintro w hS
  replace hS:=hS.n11
  refine zlv xas ?_
  refine zx1<|Ym 1 Zt hS ⟨_,rfl,?_⟩
  obtain rfl:i=uu1.nb:=by omega
  obtain rfl:j=uu1.nf:=by omega
  have he0:euu1=0:=by omega
  rw [hts,he0] at hrunu1
  rw [<-hd2] at hv1;rw [<-hd1] at hv2;replace hS:=hS.pk [8,9];rw [<-hd2,<-hd1] at hS;subst hfX;subst hfY
  exact⟨_,_,Yl uu1,0,rfl,.inr ⟨hl,uu1,hrunu1,.inr ⟨rfl,rfl⟩⟩,hv1,hv2,hS⟩
end Go.Proofs.Ytopmifmfecfaaaa
namespace Go.Proofs.Gw
open Go Go.RowKit
theorem Zy{f:Int->Int}{s:Int}:∀{n:Nat},0<=s->s<n->Zb f n=f s+Zb (fun j=>if j=s then 0 else f j) n
  |0,h0,h1=>by omega
  | n +1,h0,h1=>by
    rw [Zb,Zb]
    by_cases e:s=n
    · have:Zb (fun j=>if j=s then 0 else f j) n=Zb f n:=Ze fun i i0 i1=>by rw [if_neg (by omega)]
      rw [this,if_pos e.symm,e];omega
    · have:=Zy (f:=f) (s:=s) (n:=n) h0 (by omega)
      rw [this,if_neg (by omega)];omega
theorem Yb{f g h:Int->Int}{D A B:Int}:∀{n:Nat},(∀i,0<=i->i<(n:Int)->D*h i=A*f i-B*g i)->D*Zb h n=A*Zb f n-B*Zb g n
  |0,_=>by simp [Zb]
  | n+1,hh=>by
    have h1:=Yb (n:=n) (fun i i0 i1=>hh i i0 (by omega))
    have h2:=hh n (by omega) (by omega)
    simp only [Zb]
    grind
def Xt(t:Tb)(k0:Int)(v:Int->Int)(i:Int):Int:=t.C i 0*k0+Zb (fun j=>t.C i (j+1)*v (t.F j)) t.nf.toNat
def Xk(t:Tb)(z:Int)(v:Int->Int)(i:Int):Int:=if i=0 then z else v (t.B (i-1))
def Idt(t:Tb)(k0 z:Int)(v:Int->Int):Prop:=∀i,0<=i->i<=t.nb->t.den*Xk t z v i=Xt t k0 v i
def YS(t:Tb)(k0:Int)(v:Int->Int)(s i:Int):Int:=t.C i 0*k0+Zb (fun j=>if j=s then 0 else t.C i (j+1)*v (t.F j)) t.nf.toNat
theorem WG(t:Tb)(k0:Int)(v:Int->Int){s:Int}(i:Int)(s0:0<=s)(s1:s<t.nf):Xt t k0 v i=YS t k0 v s i+t.C i (s+1)*v (t.F s):=by
  unfold Xt YS
  rw [Zy (s:=s) s0 (by omega)];omega
def sg(p:Int):Int:=if p<0 then-1 else 1
theorem Wd(p:Int):sg p=1\/sg p= -1:=by unfold sg;split<;>simp
theorem XX(t:Tb)(row col i j:Int):(piv t row col).C i j=sg (t.C (row+1) (col+1))*ZD t (row+1) (col+1) i j:=by
  show(if _ then _ else _)=_
  unfold sg;split<;>simp
theorem U9(t:Tb)(row col:Int):(piv t row col).den=sg (t.C (row+1) (col+1))*t.C (row+1) (col+1):=by
  show(if _ then _ else _)=_
  unfold sg;split<;>simp
theorem XY{t:Tb}{row col i j:Int}(hd:UG t row col)(i0:0<=i)(i1:i<=t.nb)(j0:0<=j)(j1:j<=t.nf)(hi:i≠row+1)(hj:j≠col+1):
    t.den*ZD t (row+1) (col+1) i j=t.C (row+1) (col+1)*t.C i j-t.C i (col+1)*t.C (row+1) j:=by
  unfold ZD
  rw [if_neg (by omega),if_neg hi,if_neg hj]
  exact Int.mul_tdiv_cancel' (Int.dvd_of_tmod_eq_zero (hd i j i0 i1 j0 j1 hi hj))
theorem Tp {t:Tb} {row col:Int} (ha:XZ t row col) (hd:UG t row col) (k0 z:Int) (v:Int->Int):Idt t k0 z v↔Idt (piv t row col) k0 z v:=by
  obtain⟨hp,r0,r1,c0,c1,hne⟩:=ha
  have hD:=hp.d1
  have hnf:(piv t row col).nf=t.nf:=rfl
  have hF1:(piv t row col).F col=t.B row:=by show upd t.F col (t.B row) col=_;rw [ZY]
  have hF2:∀j,j≠col->(piv t row col).F j=t.F j:=fun j h=>by show upd t.F col (t.B row) j=_;rw [upd_ne _ _ h]
  have hB1:(piv t row col).B row=t.F col:=by show upd t.B row (t.F col) row=_;rw [ZY]
  have hB2:∀j,j≠row->(piv t row col).B j=t.B j:=fun j h=>by show upd t.B row (t.F col) j=_;rw [upd_ne _ _ h]
  have hrow:∀i,Xt t k0 v i=YS t k0 v col i+t.C i (col+1)*v (t.F col):=fun i=>WG t k0 v i c0 c1
  have hrow':∀i,Xt (piv t row col) k0 v i=YS (piv t row col) k0 v col i+(piv t row col).C i (col+1)*v (t.B row):=fun i=>by
    rw [WG (piv t row col) k0 v i c0 c1,hF1]
  have hR :YS (piv t row col) k0 v col (row+1)= -(sg (t.C (row+1) (col+1))*YS t k0 v col (row+1)):=by
    unfold YS
    have e0:(piv t row col).C (row+1) 0=sg (t.C (row+1) (col+1))* -t.C (row+1) 0:=by
      rw [XX];unfold ZD;rw [if_neg (by omega),if_pos rfl]
    have e1:=Yb (D:=1) (A:= -sg (t.C (row+1) (col+1))) (B:=0) (n:=t.nf.toNat) (h:=fun j=>if j=col then 0 else(piv t row col).C (row+1) (j+1)*v ((piv t row col).F j))
      (f:=fun j=>if j=col then 0 else t.C (row+1) (j+1)*v (t.F j)) (g:=fun _=>0) (fun j j0 j1=>by
        by_cases e:j=col
        · simp [e]
        · simp only [if_neg e]
          rw [hF2 j e,XX];unfold ZD;rw [if_neg (by omega),if_pos rfl];grind)
    rw [e0,hnf]
    grind
  have hQ :∀i,0<=i->i<=t.nb->i≠row+1->t.den*YS (piv t row col) k0 v col i=sg (t.C (row+1) (col+1))*(t.C (row+1) (col+1)*YS t k0 v col i-t.C i (col+1)*YS t k0 v col (row+1)):=fun i i0 i1 hi=>by
    unfold YS
    have e0:t.den*(piv t row col).C i 0=sg (t.C (row+1) (col+1))*(t.C (row+1) (col+1)*t.C i 0-t.C i (col+1)*t.C (row+1) 0):=by
      have:=XY hd i0 i1 (j:=0) (by omega) (by omega) hi (by omega)
      rw [XX];grind
    have e1:=Yb (D:=t.den) (A:=sg (t.C (row+1) (col+1))*t.C (row+1) (col+1)) (B:=sg (t.C (row+1) (col+1))*t.C i (col+1)) (n:=t.nf.toNat) (h:=fun j=>if j=col then 0 else(piv t row col).C i (j+1)*v ((piv t row col).F j))
      (f:=fun j=>if j=col then 0 else t.C i (j+1)*v (t.F j)) (g:=fun j=>if j=col then 0 else t.C (row+1) (j+1)*v (t.F j)) (fun j j0 j1=>by
        by_cases e:j=col
        · simp [e]
        · simp only [if_neg e]
          have:=XY hd i0 i1 (j:=j+1) (by omega) (by omega) hi (by omega)
          rw [hF2 j e,XX];grind)
    rw [hnf]
    grind
  have hr':(piv t row col).C (row+1) (col+1)=sg (t.C (row+1) (col+1))*t.den:=by rw [XX];unfold ZD;rw [if_pos ⟨rfl,rfl⟩]
  have hc':∀i,i≠row+1->(piv t row col).C i (col+1)=sg (t.C (row+1) (col+1))*t.C i (col+1):=fun i hi=>by rw [XX];unfold ZD;rw [if_neg (by omega),if_neg hi,if_pos rfl]
  have hl1:Xk t z v (row+1)=v (t.B row):=by unfold Xk;rw [if_neg (by omega)];congr 2;omega
  have hl1':Xk (piv t row col) z v (row+1)=v (t.F col):=by unfold Xk;rw [if_neg (by omega),show row+1-1=row by omega,hB1]
  have hl2:∀i,i≠row+1->Xk (piv t row col) z v i=Xk t z v i:=fun i hi=>by
    unfold Xk;split
    · rfl
    · rw [hB2 _ (by omega)]
  have hs:=Wd (t.C (row+1) (col+1))
  have hden:=U9 t row col
  generalize sg (t.C (row+1) (col+1))=σ at*
  constructor
  · intro h i i0 i1
    have er:=h (row+1) (by omega) (by omega)
    rw [hl1,hrow] at er
    by_cases hi:i=row+1
    · subst hi
      rw [hl1',hrow',hR,hr',hden]
      grind
    · have ei:=h i i0 i1
      rw [hrow] at ei
      have q:=hQ i i0 i1 hi
      rw [hl2 i hi,hrow',hc' i hi,hden]
      refine Int.eq_of_mul_eq_mul_left (a:=t.den) (by omega) ?_
      grind
  · intro h i i0 i1
    have er:=h (row+1) (by omega) (show row+1<=t.nb by omega)
    rw [hl1',hrow',hR,hr',hden] at er
    have er2:t.den*v (t.B row)=YS t k0 v col (row+1)+t.C (row+1) (col+1)*v (t.F col):=by
      rcases hs with rfl|rfl<;>grind
    by_cases hi:i=row+1
    · subst hi
      rw [hl1,hrow];exact er2
    · have ei:=h i i0 i1
      have q:=hQ i i0 i1 hi
      rw [hl2 i hi,hrow',hc' i hi,hden] at ei
      rw [hrow]
      refine Int.eq_of_mul_eq_mul_left (a:=t.C (row+1) (col+1)) hne ?_
      rcases hs with rfl|rfl<;>grind
theorem To{k:Nat}{t u:Tb}{e:Int}(h:Run k t u e)(k0 z:Int)(v:Int->Int):Idt t k0 z v↔Idt u k0 z v:=by
  induction h with
  |stop=>exact Iff.rfl
  |lim=>exact Iff.rfl
  |bad=>exact Iff.rfl
  | go h hp hr ih=>
    rcases hp with⟨_,_,h⟩|⟨_,_,_,h⟩|⟨_,_,_,_,h⟩|⟨ha,hd,_,rfl,_⟩
    · omega
    · omega
    · omega
    · exact(Tp ha hd k0 z v).trans ih
theorem idt_start{p:Lp}(hl:LOk p)(hm:0<=p.m)(k0 z:Int)(v:Int->Int):Idt (Zi p) k0 z v↔(z=Zj p.c v p.n.toNat/\∀i,0<=i->i<p.m->v (p.n+i)=Zj (p.A i) v p.n.toNat-p.b i*k0):=by
  have hn:=hl.n1
  have e00:(Zi p).C 0 0=0:=rfl
  have e0:∀j,0<=j->(Zi p).C 0 (j+1)=p.c j:=fun j j0=>by
    show(if(0:Int)=0 then(if j+1=0 then 0 else p.c (j+1-1)) else(if j+1=0 then-p.b (0-1) else p.A (0-1) (j+1-1)))=_
    rw [if_pos rfl,if_neg (by omega),show j+1-1=j by omega]
  have ei0:∀i,1<=i->(Zi p).C i 0= -p.b (i-1):=fun i i0=>by
    show(if i=0 then(if(0:Int)=0 then 0 else p.c (0-1)) else(if(0:Int)=0 then-p.b (i-1) else p.A (i-1) (0-1)))=_
    rw [if_neg (by omega),if_pos rfl]
  have ei:∀i j,1<=i->0<=j->(Zi p).C i (j+1)=p.A (i-1) j:=fun i j i0 j0=>by
    show(if i=0 then(if j+1=0 then 0 else p.c (j+1-1)) else(if j+1=0 then-p.b (i-1) else p.A (i-1) (j+1-1)))=_
    rw [if_neg (by omega),if_neg (by omega),show j+1-1=j by omega]
  have r0:Xt (Zi p) k0 v 0=Zj p.c v p.n.toNat:=by
    unfold Xt
    rw [e00,Int.zero_mul,Int.zero_add]
    exact Ze fun j j0 j1=>by rw [e0 j j0];rfl
  have r1:∀i,1<=i->Xt (Zi p) k0 v i=Zj (p.A (i-1)) v p.n.toNat-p.b (i-1)*k0:=fun i i0=>by
    unfold Xt
    have:Zb (fun j=>(Zi p).C i (j+1)*v ((Zi p).F j)) (Zi p).nf.toNat=Zj (p.A (i-1)) v p.n.toNat:=
      Ze fun j j0 j1=>by rw [ei i j i0 j0];rfl
    rw [this,ei0 i i0,Int.neg_mul];omega
  have e:(Zi p).den=1:=rfl
  have enb:(Zi p).nb=p.m:=rfl
  constructor
  · intro h
    refine⟨?_,fun i i0 i1=> ?_⟩
    · have:=h 0 (by omega) (by omega)
      rw [r0] at this
      unfold Xk at this
      rw [if_pos rfl,e] at this;omega
    · have:=h (i+1) (by omega) (by omega)
      rw [r1 _ (by omega),show i+1-1=i by omega] at this
      unfold Xk at this
      have e2:(Zi p).B i=p.n+i:=rfl
      rw [if_neg (by omega),show i+1-1=i by omega,e,e2] at this;omega
  · rintro⟨h0,h1⟩ i i0 i1
    rw [e,Int.one_mul]
    unfold Xk
    by_cases hi:i=0
    · subst hi;rw [if_pos rfl,r0];exact h0
    · rw [if_neg hi,r1 i (by omega)]
      have e2:(Zi p).B (i-1)=p.n+(i-1):=rfl
      rw [e2];exact h1 (i-1) (by omega) (by omega)
def bas(u:Tb):Nat->Int->Int
  |0=>fun _=>0
  |k+1=>upd (bas u k) (u.B k) (u.C (k+1) 0)
theorem Ut(u:Tb){q:Int}:∀K:Nat,(∀i:Int,0<=i->i<K->u.B i≠q)->bas u K q=0
  |0,_=>rfl
  | k+1,h=>by
    unfold bas
    rw [upd_ne _ _ (fun e=>h k (by omega) (by omega) e.symm)]
    exact Ut u k fun i i0 i1=>h i i0 (by omega)
theorem TPrp.injB{t:Tb}(h:TPrp t){i j:Int}(i0:0<=i)(i1:i<t.nb)(j0:0<=j)(j1:j<t.nb)(e:t.B i=t.B j):i=j:=by
  have hn:=h.n1
  have:=h.perm.2 (t.nf+i) (t.nf+j) (by omega) (by omega) (by omega) (by omega) (by unfold cat;rw [if_neg (by omega),if_neg (by omega),show t.nf+i-t.nf=i by omega,show t.nf+j-t.nf=j by omega];exact e)
  omega
theorem TPrp.disj{t:Tb}(h:TPrp t){i j:Int}(i0:0<=i)(i1:i<t.nb)(j0:0<=j)(j1:j<t.nf):t.B i≠t.F j:=fun e=>by
  have hn:=h.n1
  have:=h.perm.2 (t.nf+i) j (by omega) (by omega) (by omega) (by omega) (by unfold cat;rw [if_neg (by omega),if_pos j1,show t.nf+i-t.nf=i by omega];exact e)
  omega
theorem Ke{u:Tb}(h:TPrp u):∀(K:Nat),(K:Int)<=u.nb->∀i:Int,0<=i->i<K->bas u K (u.B i)=u.C (i+1) 0
  |0,_,i,i0,i1=>by omega
  | k +1,hK,i,i0,i1=>by
    unfold bas
    by_cases e:i=k
    · subst e;rw [ZY]
    · rw [upd_ne _ _ (fun e2=>e (h.injB i0 (by omega) (by omega) (by omega) e2))]
      exact Ke h k (by omega) i i0 (by omega)
theorem VB{u:Tb}(h:TPrp u)(hneg:∀i:Int,0<=i->i<u.nb->0<=u.C (i+1) 0)(q:Int):∀(K:Nat),(K:Int)<=u.nb->0<=bas u K q/\bas u K q<=1073741824
  |0,_=>by unfold bas;omega
  | k +1,hK=>by
    unfold bas
    by_cases e:q=u.B k
    · rw [<-e,ZY]
      have h1:=hneg k (by omega) (by omega)
      have hn:=h.n1
      have h2:=h.cell (i:=k+1) (j:=0) (by omega) (by omega) (by omega) (by omega)
      omega
    · rw [upd_ne _ _ e];exact VB h hneg q k (by omega)
theorem Vd(u:Tb){j:Int}(hj:j<u.vars):∀K:Nat,rdX u K j=bas u K j
  |0=>rfl
  | k +1=>by
    unfold rdX bas
    by_cases h:u.B k<u.vars
    · rw [if_pos h]
      by_cases e:j=u.B k
      · rw [<-e,ZY,ZY]
      · rw [upd_ne _ _ e,upd_ne _ _ e];exact Vd u hj k
    · rw [if_neg h,upd_ne _ _ (by omega)];exact Vd u hj k
def rdG(u:Tb)(y0 g:Int->Int):Nat->Int->Int
  |0=>y0
  |k+1=>if u.vars<=u.F k then upd (rdG u y0 g k) (u.F k-u.vars) (g k) else rdG u y0 g k
theorem U7(u:Tb):∀K:Nat,rdY u K=rdG u (fun _=>0) (fun j=>u.C 0 (j+1)) K
  |0=>rfl
  |k+1=>by unfold rdY rdG;rw [U7 u k]
theorem XL(u:Tb)(y0 g:Int->Int){i:Int}:∀K:Nat,(∀k:Int,0<=k->k<K->u.F k≠u.vars+i)->rdG u y0 g K i=y0 i
  |0,_=>rfl
  | k+1,h=>by
    unfold rdG
    have hk:=h k (by omega) (by omega)
    split
    · rw [upd_ne _ _ (by omega)];exact XL u y0 g k fun q q0 q1=>h q q0 (by omega)
    · exact XL u y0 g k fun q q0 q1=>h q q0 (by omega)
theorem X4{u:Tb}{y0 g:Int->Int}{A:Int}(q:Int)(h0:0<=y0 q/\y0 q<=A):∀K:Nat,(∀k:Int,0<=k->k<K->0<=g k/\g k<=A)->0<=rdG u y0 g K q/\rdG u y0 g K q<=A
  |0,_=>h0
  | k +1,h=>by
    unfold rdG
    split
    · by_cases e:q=u.F k-u.vars
      · rw [<-e,ZY];exact h k (by omega) (by omega)
      · rw [upd_ne _ _ e];exact X4 q h0 k fun q q0 q1=>h q q0 (by omega)
    · exact X4 q h0 k fun q q0 q1=>h q q0 (by omega)
theorem Uh(w y:Int->Int){i a:Int}{m:Nat}(i0:0<=i)(i1:i<m):Zj w (upd y i a) m=Zj w y m+w i*(a-y i):=by
  unfold Zj
  rw [Zy (s:=i) i0 i1,Zy (f:=fun k=>w k*y k) (s:=i) i0 i1]
  have:Zb (fun j=>if j=i then 0 else w j*upd y i a j) m=Zb (fun j=>if j=i then 0 else w j*y j) m:=Ze fun j j0 j1=>by
    by_cases e:j=i
    · rw [if_pos e,if_pos e]
    · rw [if_neg e,if_neg e,upd_ne _ _ e]
  rw [this,ZY];grind
theorem Ve {u:Tb} (h:TPrp u) (hm:0<=u.nb) {y0 g:Int->Int} (w:Int->Int) (hf:∀k:Int,0<=k->k<u.nf->u.vars<=u.F k->y0 (u.F k-u.vars)=0):∀K:Nat,(K:Int)<=u.nf->
    Zj w (rdG u y0 g K) u.nb.toNat=Zj w y0 u.nb.toNat+Zb (fun k=>if u.vars<=u.F k then g k*w (u.F k-u.vars) else 0) K
  |0,_=>by simp [rdG,Zb]
  | k + 1,hK=>by
    have ih:=Ve h hm w hf (g:=g) k (by omega)
    have hr:=h.rngF (i:=k) (by omega) (by omega) hm
    have hv:=h.v
    unfold rdG Zb
    by_cases hc:u.vars<=u.F k
    · rw [if_pos hc,if_pos hc,Uh _ _ (by omega) (by omega),ih]
      have:rdG u y0 g k (u.F k-u.vars)=0:=by
        rw [XL u y0 g k fun q q0 q1 e=>by
          have:=h.injF (i:=q) (j:=k) q0 (by omega) (by omega) (by omega) hm (by omega);omega]
        exact hf k (by omega) (by omega) hc
      rw [this];grind
    · rw [if_neg hc,if_neg hc,ih];omega
theorem Ws(f:Int->Int){q:Int}{n:Nat}(q0:0<=q)(q1:q<n):Zj f (fun k=>if k=q then 1 else 0) n=f q:=by
  unfold Zj
  rw [Zy (s:=q) q0 q1]
  show f q*(if q=q then 1 else 0)+_=_
  rw [if_pos rfl,Int.mul_one]
  have:Zb (fun j=>if j=q then 0 else f j*(fun k=>if k=q then 1 else 0) j) n=Zb (fun _=>0) n:=Ze fun j _ _=>by split<;>simp_all
  rw [this,Zl];omega
def Xo(p:Lp)(x:Int->Int)(k0 q:Int):Int:=if q<p.n then x q else Zj (p.A (q-p.n)) x p.n.toNat-p.b (q-p.n)*k0
theorem Tq{p:Lp}(hl:LOk p)(hm:0<=p.m){k:Nat}{u:Tb}{e:Int}(h:Run k (Zi p) u e)(x:Int->Int)(k0:Int):Idt u k0 (Zj p.c x p.n.toNat) (Xo p x k0):=by
  refine(To h k0 _ _).1 ((idt_start hl hm k0 _ _).2 ⟨?_,fun i i0 i1=> ?_⟩)
  · exact Ze fun j j0 j1=>by unfold Xo;rw [if_pos (by omega)]
  · have:Zj (p.A i) (Xo p x k0) p.n.toNat=Zj (p.A i) x p.n.toNat:=Ze fun j j0 j1=>by unfold Xo;rw [if_pos (by omega)]
    rw [this];unfold Xo;rw [if_neg (by omega),show p.n+i-p.n=i by omega]
theorem UE{p:Lp}{u:Tb}(hp:TPrp u)(hm:0<=u.nb)(hv:u.vars=p.n)(x:Int->Int)(k0 i:Int){y0 g:Int->Int}(hg:∀k:Int,0<=k->k<u.nf->g k=u.C i (k+1))(hf:∀k:Int,0<=k->k<u.nf->u.vars<=u.F k->y0 (u.F k-u.vars)=0):
    Xt u k0 (Xo p x k0) i=u.C i 0*k0+Zb (fun k=>if u.vars<=u.F k then 0 else g k*x (u.F k)) u.nf.toNat+
      (Zj (fun i=>Zj (p.A i) x p.n.toNat-p.b i*k0) (rdG u y0 g u.nf.toNat) u.nb.toNat-Zj (fun i=>Zj (p.A i) x p.n.toNat-p.b i*k0) y0 u.nb.toNat):=by
  have hn:=hp.n1
  have h1:=Ve hp hm (y0:=y0) (g:=g) (fun i=>Zj (p.A i) x p.n.toNat-p.b i*k0) hf u.nf.toNat (by omega)
  rw [h1]
  unfold Xt
  have h2:Zb (fun j=>u.C i (j+1)*Xo p x k0 (u.F j)) u.nf.toNat=Zb (fun k=>(if u.vars<=u.F k then 0 else g k*x (u.F k))+(if u.vars<=u.F k then g k*(Zj (p.A (u.F k-u.vars)) x p.n.toNat-p.b (u.F k-u.vars)*k0) else 0)) u.nf.toNat:=
    Ze fun j j0 j1=>by
      unfold Xo
      rw [hg j j0 (by omega)]
      by_cases hc:u.vars<=u.F j
      · rw [if_neg (by omega),if_pos hc,if_pos hc,hv];omega
      · rw [if_pos (by omega),if_neg hc,if_neg hc];omega
  rw [h2,XH];omega
theorem Kp {p:Lp} (hl:LOk p) (hm:0<=p.m) {k:Nat} {u:Tb} (h:Run k (Zi p) u 0):ChkS p (Yl u):=by
  obtain⟨hp,hco,hlv,_⟩:=h.fin (.inl rfl)
  have hd:=h.dims
  have d1:u.nb=p.m:=by rw [hd.1];rfl
  have d2:u.nf=p.n:=by rw [hd.2.1];rfl
  have d3:u.vars=p.n:=by rw [hd.2.2.2];rfl
  have hn:=hl.n1
  have lr:=Z7 u u.nb.toNat
  have hneg:∀i:Int,0<=i->i<u.nb->0<=u.C (i+1) 0:=fun i i0 i1=>(Wk u u.nb.toNat).1 (by have:=hlv rfl;omega) i i0 (by omega)
  have hg0:∀k:Int,0<=k->k<u.nf->0<=u.C 0 (k+1)/\u.C 0 (k+1)<=1073741824:=fun k k0 k1=>⟨hco (k+1) (by omega) (by omega),(hp.cell (i:=0) (by omega) (by omega) (by omega) (by omega)).2⟩
  have hid:Idt u u.den (u.C 0 0) (bas u u.nb.toNat):=fun i i0 i1=>by
    have hz:Zb (fun j=>u.C i (j+1)*bas u u.nb.toNat (u.F j)) u.nf.toNat=0:=by
      have:Zb (fun j=>u.C i (j+1)*bas u u.nb.toNat (u.F j)) u.nf.toNat=Zb (fun _=>0) u.nf.toNat:=Ze fun j j0 j1=>by
        rw [Ut u _ fun q q0 q1=>hp.disj q0 (by omega) j0 (by omega)];omega
      rw [this,Zl]
    unfold Xt Xk
    rw [hz]
    by_cases hi:i=0
    · subst hi;rw [if_pos rfl];grind
    · rw [if_neg hi,Ke hp u.nb.toNat (by omega) (i-1) (by omega) (by omega),show i-1+1=i by omega];grind
  obtain⟨hz,hs⟩:=(idt_start hl hm _ _ _).1 ((To h _ _ _).2 hid)
  have hX:∀j,0<=j->j<p.n->rdX u u.nb.toNat j=bas u u.nb.toNat j:=fun j j0 j1=>Vd u (by omega) _
  have dX:∀f:Int->Int,Zj f (rdX u u.nb.toNat) p.n.toNat=Zj f (bas u u.nb.toNat) p.n.toNat:=fun f=>Ze fun j j0 j1=>by rw [hX j j0 (by omega)]
  have hY:(Yl u).Y=rdG u (fun _=>0) (fun j=>u.C 0 (j+1)) u.nf.toNat:=by show rdY u _=_;rw [U7]
  have hdot0:∀w:Int->Int,Zj w (fun _=>0) u.nb.toNat=0:=fun w=>by
    have:Zj w (fun _=>0) u.nb.toNat=Zb (fun _=>0) u.nb.toNat:=Ze fun j _ _=>by simp
    rw [this,Zl]
  have key:∀(x:Int->Int) (k0:Int),u.den*Zj p.c x p.n.toNat=u.C 0 0*k0+Zb (fun k=>if u.vars<=u.F k then 0 else u.C 0 (k+1)*x (u.F k)) u.nf.toNat+Zj (fun i=>Zj (p.A i) x p.n.toNat-p.b i*k0) (Yl u).Y u.nb.toNat:=fun x k0=>by
    have h1:=Tq hl hm h x k0 0 (by omega) (by omega)
    rw [UE hp (by omega) d3 x k0 0 (y0:=fun _=>0) (g:=fun j=>u.C 0 (j+1)) (fun _ _ _=>rfl) (fun _ _ _ _=>rfl),hdot0,<-hY] at h1
    unfold Xk at h1
    rw [if_pos rfl] at h1
    omega
  refine⟨hl,hp.d1,hp.d2,hp.cell (i:=0) (by omega) (by omega) (by omega) (by omega),d2,d1,fun j j0 j1=> ?_,fun i i0 i1=> ?_,fun i i0 i1=> ?_,fun j j0 j1=> ?_,?_,?_⟩
  · show 0<=rdX u u.nb.toNat j/\rdX u u.nb.toNat j<=_
    rw [hX j j0 j1];exact VB hp hneg j _ (by omega)
  · rw [hY];exact X4 i (by omega) _ fun k k0 k1=>hg0 k k0 (by omega)
  · show p.b i*u.den<=Zj (p.A i) (rdX u u.nb.toNat) _
    rw [dX]
    have h1:=hs i i0 i1
    have h2:=(VB hp hneg (p.n+i) u.nb.toNat (by omega)).1
    omega
  · have h1:=key (fun k=>if k=j then 1 else 0) 0
    have h2:0<=Zb (fun k=>if u.vars<=u.F k then 0 else u.C 0 (k+1)*(if u.F k=j then 1 else 0)) u.nf.toNat:=ZS fun k k0 k1=>by
      have:=(hg0 k k0 (by omega)).1
      split
      · omega
      · split<;>omega
    have h3:Zj (fun i=>Zj (p.A i) (fun k=>if k=j then 1 else 0) p.n.toNat-p.b i*0) (Yl u).Y u.nb.toNat=wgt p.A (Yl u).Y p.m.toNat j:=by
      rw [d1];exact Ze fun i i0 i1=>by
        show(Zj (p.A i) (fun k=>if k=j then 1 else 0) p.n.toNat-p.b i*0)*_=_
        rw [Ws _ j0 (by omega)];simp
    rw [Ws _ j0 (by omega),h3] at h1
    show _<=p.c j*u.den
    rw [Int.mul_comm (p.c j)];omega
  · show Zj p.c (rdX u u.nb.toNat) _=u.C 0 0
    rw [dX,<-hz]
  · show Zj p.b (Yl u).Y _=u.C 0 0
    have h1:=key (fun _=>0) 1
    have z1:∀f:Int->Int,Zj f (fun _=>0) p.n.toNat=0:=fun f=>by
      have:Zj f (fun _=>0) p.n.toNat=Zb (fun _=>0) p.n.toNat:=Ze fun j _ _=>by simp
      rw [this,Zl]
    have z2:Zb (fun k=>if u.vars<=u.F k then 0 else u.C 0 (k+1)*(fun _=>(0:Int)) (u.F k)) u.nf.toNat=0:=by
      have:Zb (fun k=>if u.vars<=u.F k then 0 else u.C 0 (k+1)*(fun _=>(0:Int)) (u.F k)) u.nf.toNat=Zb (fun _=>0) u.nf.toNat:=Ze fun j _ _=>by split<;>simp
      rw [this,Zl]
    have z3:Zj (fun i=>Zj (p.A i) (fun _=>0) p.n.toNat-p.b i*1) (Yl u).Y u.nb.toNat= -Zj p.b (Yl u).Y p.m.toNat:=by
      have:=Yb (D:=1) (A:= -1) (B:=0) (n:=p.m.toNat) (h:=fun i=>(Zj (p.A i) (fun _=>0) p.n.toNat-p.b i*1)*(Yl u).Y i) (f:=fun i=>p.b i*(Yl u).Y i) (g:=fun _=>0) (fun i i0 i1=>by rw [z1];grind)
      rw [d1]
      show Zb (fun i=>(Zj (p.A i) (fun _=>0) p.n.toNat-p.b i*1)*(Yl u).Y i) p.m.toNat= -Zb (fun i=>p.b i*(Yl u).Y i) p.m.toNat
      omega
    rw [z1,z2,z3] at h1
    omega
theorem Wq(t:Tb)(r:Int):∀K:Nat,Zz t r K<0->∀j:Int,0<=j->j<K->t.C (r+1) (j+1)<=0
  |0,_,j,j0,j1=>by omega
  | k +1,h,j,j0,j1=>by
    unfold Zz at h
    split at h
    · rename_i hc
      by_cases e:j=k
      · rw [e];exact hc
      · exact Wq t r k h j j0 (by omega)
    · split at h
      · omega
      · split at h<;>omega
structure RefS (p:Lp) (y:Int->Int):Prop where
  rng:∀i,0<=i->i<p.m->0<=y i/\y i<=1073741824
  cols:∀j,0<=j->j<p.n->wgt p.A y p.m.toNat j<=0
  pos:0<Zj p.b y p.m.toNat
def Vc(u:Tb)(r:Int):Int->Int:=if u.vars<=u.B r then upd (fun _=>0) (u.B r-u.vars) u.den else fun _=>0
def Wg(u:Tb)(r:Int):Int->Int:=rdG u (Vc u r) (fun j=> -u.C (r+1) (j+1)) u.nf.toNat
theorem Ko {p:Lp} (hl:LOk p) (hm:0<=p.m) {k:Nat} {u:Tb} (h:Run k (Zi p) u 19):RefS p (Wg u (ZM u u.nb.toNat)):=by
  obtain⟨hp,hco,_,hf⟩:=h.fin (.inr rfl)
  obtain⟨hr,he⟩:=hf rfl
  have hd:=h.dims
  have d1:u.nb=p.m:=by rw [hd.1];rfl
  have d2:u.nf=p.n:=by rw [hd.2.1];rfl
  have d3:u.vars=p.n:=by rw [hd.2.2.2];rfl
  have hn:=hl.n1
  have lr:=Z7 u u.nb.toNat
  have hneg:=(Wk u u.nb.toNat).2 hr
  have hcol:=Wq u (ZM u u.nb.toNat) u.nf.toNat he
  generalize ZM u u.nb.toNat=r at*
  have hd1:=hp.d1;have hd2:=hp.d2
  have hg:∀k:Int,0<=k->k<u.nf->0<= -u.C (r+1) (k+1)/\ -u.C (r+1) (k+1)<=1073741824:=fun k k0 k1=>⟨by have:=hcol k k0 (by omega);omega,by have:=(hp.cell (i:=r+1) (j:=k+1) (by omega) (by omega) (by omega) (by omega)).1;omega⟩
  have hrB:=hp.rngB (i:=r) (by omega) (by omega)
  have hv:=hp.v
  have h0:∀i,0<=Vc u r i/\Vc u r i<=1073741824:=fun i=>by
    unfold Vc;split
    · by_cases e:i=u.B r-u.vars
      · rw [<-e,ZY];omega
      · rw [upd_ne _ _ e];exact⟨Int.le_refl 0,show(0:Int)<=1073741824 by decide⟩
    · exact⟨Int.le_refl 0,show(0:Int)<=1073741824 by decide⟩
  have hfr:∀k:Int,0<=k->k<u.nf->u.vars<=u.F k->Vc u r (u.F k-u.vars)=0:=fun k k0 k1 hk=>by
    unfold Vc;split
    · exact upd_ne _ _ (by have:=hp.disj (i:=r) (j:=k) (by omega) (by omega) k0 k1;omega)
    · rfl
  have hdot0:∀w:Int->Int,Zj w (Vc u r) u.nb.toNat=if u.vars<=u.B r then u.den*w (u.B r-u.vars) else 0:=fun w=>by
    have z:Zj w (fun _=>0) u.nb.toNat=0:=by
      have:Zj w (fun _=>0) u.nb.toNat=Zb (fun _=>0) u.nb.toNat:=Ze fun j _ _=>by simp
      rw [this,Zl]
    unfold Vc;split
    · rw [Uh _ _ (by omega) (by omega),z];grind
    · exact z
  have key:∀(x:Int->Int) (k0:Int),(if u.vars<=u.B r then 0 else u.den*x (u.B r))+Zb (fun k=>if u.vars<=u.F k then 0 else-u.C (r+1) (k+1)*x (u.F k)) u.nf.toNat+Zj (fun i=>Zj (p.A i) x p.n.toNat-p.b i*k0) (Wg u r) u.nb.toNat=u.C (r+1) 0*k0:=fun x k0=>by
    have h1:=Tq hl hm h x k0 (r+1) (by omega) (by omega)
    have h2:=Ve hp (by omega) (y0:=Vc u r) (g:=fun j=> -u.C (r+1) (j+1)) (fun i=>Zj (p.A i) x p.n.toNat-p.b i*k0) hfr u.nf.toNat (by omega)
    have h3:Zb (fun j=>u.C (r+1) (j+1)*Xo p x k0 (u.F j)) u.nf.toNat= -(Zb (fun k=>if u.vars<=u.F k then 0 else-u.C (r+1) (k+1)*x (u.F k)) u.nf.toNat)-Zb (fun k=>if u.vars<=u.F k then-u.C (r+1) (k+1)*(Zj (p.A (u.F k-u.vars)) x p.n.toNat-p.b (u.F k-u.vars)*k0) else 0) u.nf.toNat:=by
      have:=Yb (D:=1) (A:= -1) (B:=1) (n:=u.nf.toNat) (h:=fun j=>u.C (r+1) (j+1)*Xo p x k0 (u.F j)) (f:=fun k=>if u.vars<=u.F k then 0 else-u.C (r+1) (k+1)*x (u.F k)) (g:=fun k=>if u.vars<=u.F k then-u.C (r+1) (k+1)*(Zj (p.A (u.F k-u.vars)) x p.n.toNat-p.b (u.F k-u.vars)*k0) else 0) (fun j j0 j1=>by
        unfold Xo
        by_cases hc:u.vars<=u.F j
        · rw [if_neg (by omega),if_pos hc,if_pos hc,d3];grind
        · rw [if_pos (by omega),if_neg hc,if_neg hc];grind)
      omega
    unfold Wg
    rw [h2,hdot0]
    unfold Xt Xk at h1
    rw [h3,if_neg (by omega),show r+1-1=r by omega] at h1
    by_cases hc:u.vars<=u.B r
    · rw [if_pos hc,if_pos hc]
      have:Xo p x k0 (u.B r)=Zj (p.A (u.B r-u.vars)) x p.n.toNat-p.b (u.B r-u.vars)*k0:=by unfold Xo;rw [if_neg (by omega),d3]
      rw [this] at h1;omega
    · rw [if_neg hc,if_neg hc]
      have:Xo p x k0 (u.B r)=x (u.B r):=by unfold Xo;rw [if_pos (by omega)]
      rw [this] at h1;omega
  refine⟨fun i i0 i1=>X4 i (h0 i) _ fun k k0 k1=>hg k k0 (by omega),fun j j0 j1=> ?_,?_⟩
  · have h1:=key (fun k=>if k=j then 1 else 0) 0
    have h2:0<=Zb (fun k=>if u.vars<=u.F k then 0 else-u.C (r+1) (k+1)*(if u.F k=j then 1 else 0)) u.nf.toNat:=ZS fun k k0 k1=>by
      have:=(hg k k0 (by omega)).1
      split
      · omega
      · split<;>omega
    have h3:Zj (fun i=>Zj (p.A i) (fun k=>if k=j then 1 else 0) p.n.toNat-p.b i*0) (Wg u r) u.nb.toNat=wgt p.A (Wg u r) p.m.toNat j:=by
      rw [d1];exact Ze fun i i0 i1=>by
        show(Zj (p.A i) (fun k=>if k=j then 1 else 0) p.n.toNat-p.b i*0)*_=_
        rw [Ws _ j0 (by omega)];simp
    have h4:0<=(if u.vars<=u.B r then 0 else u.den*(if u.B r=j then 1 else 0)):=by
      split
      · omega
      · split<;>omega
    rw [h3] at h1
    omega
  · have h1:=key (fun _=>0) 1
    have z1:∀f:Int->Int,Zj f (fun _=>0) p.n.toNat=0:=fun f=>by
      have:Zj f (fun _=>0) p.n.toNat=Zb (fun _=>0) p.n.toNat:=Ze fun j _ _=>by simp
      rw [this,Zl]
    have z2:Zb (fun k=>if u.vars<=u.F k then 0 else-u.C (r+1) (k+1)*(fun _=>(0:Int)) (u.F k)) u.nf.toNat=0:=by
      have:Zb (fun k=>if u.vars<=u.F k then 0 else-u.C (r+1) (k+1)*(fun _=>(0:Int)) (u.F k)) u.nf.toNat=Zb (fun _=>0) u.nf.toNat:=Ze fun j _ _=>by split<;>simp
      rw [this,Zl]
    have z3:Zj (fun i=>Zj (p.A i) (fun _=>0) p.n.toNat-p.b i*1) (Wg u r) u.nb.toNat= -Zj p.b (Wg u r) p.m.toNat:=by
      have:=Yb (D:=1) (A:= -1) (B:=0) (n:=p.m.toNat) (h:=fun i=>(Zj (p.A i) (fun _=>0) p.n.toNat-p.b i*1)*(Wg u r) i) (f:=fun i=>p.b i*(Wg u r) i) (g:=fun _=>0) (fun i i0 i1=>by rw [z1];grind)
      rw [d1]
      show Zb (fun i=>(Zj (p.A i) (fun _=>0) p.n.toNat-p.b i*1)*(Wg u r) i) p.m.toNat= -Zb (fun i=>p.b i*(Wg u r) i) p.m.toNat
      omega
    have z4:(if u.vars<=u.B r then 0 else u.den*(fun _=>(0:Int)) (u.B r))=0:=by split<;>simp
    rw [z2,z3,z4] at h1
    omega
theorem SolveR.chk{p:Lp}(hm:0<=p.m){s:So}{e:Int}(h:SolveR p s e)(he:e=0):ChkS p s:=by
  rcases h with⟨_,_,h⟩|⟨hl,u,hr,⟨h,_⟩|⟨_,rfl⟩⟩
  · omega
  · exact absurd he h
  · subst he;exact Kp hl hm hr
theorem SolveR.none{p:Lp}(hm:0<=p.m){s:So}{e:Int}(h:SolveR p s e)(he:e=19):∃y,RefS p y:=by
  rcases h with⟨_,_,h⟩|⟨hl,u,hr,_⟩
  · omega
  · subst he;exact⟨_,Ko hl hm hr⟩
theorem SolveR.zero{p:Lp}{s:So}{e:Int}(h:SolveR p s e)(he:e≠0):s=So.zero:=by
  rcases h with⟨_,h,_⟩|⟨hl,u,hr,⟨_,h⟩|⟨h,_⟩⟩
  · exact h
  · exact h
  · exact absurd h he
theorem ZcG{A:Int->Int->Int}{x y b c:Int->Int}{n m:Nat}(hx:∀j:Int,0<=j->j<n->0<=x j)(hy:∀i:Int,0<=i->i<m->0<=y i)
    (hc:∀j:Int,0<=j->j<n->wgt A y m j<=c j) (hb:∀i:Int,0<=i->i<m->b i<=Zj (A i) x n):Zj b y m<=Zj c x n:=by
  have h1:Zj b y m<=Zb (fun i=>Zj (A i) x n*y i) m:=ZQ fun i i0 i1=>Int.mul_le_mul_of_nonneg_right (hb i i0 i1) (hy i i0 i1)
  have h2:Zb (fun i=>Zj (A i) x n*y i) m=Zb (fun j=>wgt A y m j*x j) n:=by
    have e1:Zb (fun i=>Zj (A i) x n*y i) m=Zb (fun i=>Zb (fun j=>A i j*x j*y i) n) m:=Ze fun i _ _=>(ZT _ _ _).symm
    have e2:Zb (fun j=>wgt A y m j*x j) n=Zb (fun j=>Zb (fun i=>A i j*x j*y i) m) n:=Ze fun j _ _=>by
      have:=ZT (fun i=>A i j*y i) (x j) m
      unfold wgt
      rw [<-this]
      exact Ze fun i _ _=>by grind
    rw [e1,e2]
    exact(Xi (fun i k=>A k i*x i*y k) n m)
  have h3:Zb (fun j=>wgt A y m j*x j) n<=Zj c x n:=ZQ fun j j0 j1=>Int.mul_le_mul_of_nonneg_right (hc j j0 j1) (hx j j0 j1)
  omega
theorem UO(f g:Int->Int)(a:Int)(n:Nat):Zj (fun k=>f k*a) g n=Zj f g n*a:=by
  unfold Zj
  rw [<-ZT]
  exact Ze fun i _ _=>by grind
theorem Rl{p:Lp}{y:Int->Int}(hr:RefS p y)(hn:0<=p.n)(hm:0<=p.m){x:Int->Int}{a:Int}(ha:0<=a)(hx:∀j,0<=j->j<p.n->0<=x j)(hb:∀i,0<=i->i<p.m->p.b i*a<=Zj (p.A i) x p.n.toNat):a=0:=by
  have h:=ZcG (A:=p.A) (x:=x) (y:=y) (b:=fun i=>p.b i*a) (c:=fun _=>0) (n:=p.n.toNat) (m:=p.m.toNat) (fun j j0 j1=>hx j j0 (by omega)) (fun i i0 i1=>(hr.rng i i0 (by omega)).1)
    (fun j j0 j1=>hr.cols j j0 (by omega)) (fun i i0 i1=>hb i i0 (by omega))
  have z:Zj (fun _=>0) x p.n.toNat=0:=by
    have:Zj (fun _=>0) x p.n.toNat=Zb (fun _=>0) p.n.toNat:=Ze fun j _ _=>by simp
    rw [this,Zl]
  rw [UO,z] at h
  have hp:=hr.pos
  rcases Int.lt_or_eq_of_le ha with h1|h1
  · have:=Int.mul_pos hp h1;omega
  · exact h1.symm
end Go.Proofs.Gw
namespace Go.Proofs.Ytopmifmfecfaaaa
open Go Go.RowKit Go.Proofs.Gw
def OptR(t t':Tb)(e:Int):Prop:=∃u f,Run 1000 t u f/\((f=0/\e=0/\t'=u)\/(f≠0/\e=f/\t'=Tb.zero))
theorem OptR.same{t t1 t2:Tb}{e1 e2:Int}(h1:OptR t t1 e1)(h2:OptR t t2 e2):t1=t2/\e1=e2:=by
  obtain⟨u,f,hr,h⟩:=h1
  obtain⟨u',f',hr',h'⟩:=h2
  obtain⟨rfl,rfl⟩:=hr.same hr'
  rcases h with⟨a1,a2,a3⟩|⟨a1,a2,a3⟩<;>rcases h' with⟨b1,b2,b3⟩|⟨b1,b2,b3⟩
  · exact⟨by rw [a3,b3],by omega⟩
  · exact absurd a1 b1
  · exact absurd b1 a1
  · exact⟨by rw [a3,b3],by omega⟩
def SameS(s u:So):Prop:=(s.n=u.n/\∀k,0<=k->k<s.n->s.X k=u.X k)/\(s.m=u.m/\∀k,0<=k->k<s.m->s.Y k=u.Y k)/\s.val=u.val/\s.den=u.den
theorem SameS.refl(s:So):SameS s s:=⟨⟨rfl,fun _ _ _=>rfl⟩,⟨rfl,fun _ _ _=>rfl⟩,rfl,rfl⟩
end Go.Proofs.Ytopmifmfecfaaaa
namespace Go.Proofs.Ytopmifmfecfaaaa
open Go Go.RowKit Go.Proofs.Gw
theorem cl_10:Zd Try.prog 10=true:=by kernel_rfl
theorem R0:Zd Try.prog 110=true:=by kernel_rfl
theorem ZaD:Zd Try.prog 31=true:=by kernel_rfl
theorem RY:Zd Try.prog 34=true:=by kernel_rfl
theorem Zcj:Zd Try.prog 46=true:=by kernel_rfl
theorem Zcg:Zd Try.prog 67=true:=by kernel_rfl
theorem Zce:Zd Try.prog 70=true:=by kernel_rfl
theorem Zb9:Zd Try.prog 87=true:=by kernel_rfl
theorem Zb8:Zd Try.prog 89=true:=by kernel_rfl
theorem fd_24_0:Zr Try.prog 24 0=some 0:=by kernel_rfl
theorem fd_24_1:Zr Try.prog 24 1=some 1:=by kernel_rfl
theorem fd_24_2:Zr Try.prog 24 2=some 2:=by kernel_rfl
theorem fd_24_3:Zr Try.prog 24 3=some 3:=by kernel_rfl
theorem Yi:Zr Try.prog 34 0=some 0:=by kernel_rfl
theorem ZU:Zr Try.prog 34 1=some 1:=by kernel_rfl
theorem fd_39_0:Zr Try.prog 39 0=some 0:=by kernel_rfl
theorem fd_39_1:Zr Try.prog 39 1=some 1:=by kernel_rfl
theorem fd_39_2:Zr Try.prog 39 2=some 2:=by kernel_rfl
theorem fd_39_3:Zr Try.prog 39 3=some 3:=by kernel_rfl
theorem sl_25:Zo Try.prog 25=some (34,2):=by kernel_rfl
theorem st_24:Zv Try.prog 24=some 4:=by kernel_rfl
theorem YX:Zv Try.prog 39=some 4:=by kernel_rfl
set_option maxRecDepth 20000 in
theorem Wv{vL vD:Value}{p:Prob}(w0:World)(h:PAt w0 vL vD p):
    Calls Try.prog 34 [.agg #[vL,vD,.int .i64 p.stock,.int .i64 p.kerf]].toArray w0 fun e w=>∃v,e= .returned v/\v=B p.Ok/\Sat w0 w []:=by
  have hm:=h.L.slh.n0;have hm1:=h.L.slh.n1;have hd:=h.D.slh.n0;have hs:=h.is;have hk:=h.ik
  refine Zn Try.func34 Try.ntmps34 fun w hS=> ?_
  refine zsr ?_
  refine zla (xbx (cs:= [_,_,_,_]) hS) ?_;rintro _ w ⟨g1,rfl,hS⟩
  replace hS:=hS.n1
  refine zlv xas ?_
  refine zx5 ?_
  refine zlv (xfb 0 fd_39_0) ?_
  refine zlv (xlb 0 pl_22 hS) ?_
  refine zlv (xln sl_22 h.L.slh) ?_
  refine zs2 ?_
  refine zlb 9 ?_ ?_<;>intro hc;rotate_left
  refine zlv (xfb 0 fd_39_0) ?_
  refine zlv (xlb 0 pl_22 hS) ?_
  refine zlv (xln sl_22 h.L.slh) ?_
  refine zs3 ?_
  refine zlb 15 ?_ ?_<;>intro hc;rotate_left
  refine zlv (xfb 1 fd_39_1) ?_
  refine zlv (xlb 0 pl_22 hS) ?_
  refine zlv (xln sl_22 h.D.slh) ?_
  refine zlv (xfb 0 fd_39_0) ?_
  refine zlv (xlb 0 pl_22 hS) ?_
  refine zlv (xln sl_22 h.L.slh) ?_
  refine zs3 ?_
  refine zlb 24 ?_ ?_<;>intro hc;rotate_left
  refine zlv (xfb 2 fd_39_2) ?_
  refine zlv (xlb 0 pl_3 hS) ?_
  refine zs3 ?_
  refine zlb 29 ?_ ?_<;>intro hc;rotate_left
  refine zlv (xfb 2 fd_39_2) ?_
  refine zlv (xlb 0 pl_3 hS) ?_
  refine zs3 ?_
  refine zlb 34 ?_ ?_<;>intro hc;rotate_left
  refine zlv (xfb 3 fd_39_3) ?_
  refine zlv (xlb 0 pl_3 hS) ?_
  refine zs3 ?_
  refine zlb 39 ?_ ?_<;>intro hc;rotate_left
  refine zlv (xfb 3 fd_39_3) ?_
  refine zlv (xlb 0 pl_3 hS) ?_
  refine zs2 ?_
  refine zlt ?_
  refine zcif ?_ ?_<;>intro hc
  ·
   refine zsr ?_
   refine zlv xas ?_
   refine zx14<|zf1 ⟨_,rfl,?_⟩
   first
   |exact⟨Zc (by intro hk;have h1:=hk.m1;have h2:=hk.m2;have h3:=hk.d;have h4:=hk.s1;have h5:=hk.s2;have h6:=hk.k1;have h7:=hk.k2;omega),hS.nl⟩
   |exact⟨Zc (by intro hk;have:=hk.all i (by omega) (by omega);unfold Prob.each at this;omega),hS.nl⟩
  refine zsk<|ztn<|zsq<|zsr ?_
  refine zlv (xfb 0 fd_39_0) ?_
  refine zlv (xlb 0 pl_22 hS) ?_
  refine zlv (xln sl_22 h.L.slh) ?_
  refine zlv xmv ?_
  refine zx6<|zlp (fun mm M w=>∃(i:Int),mm=((p.m-i).toNat)/\(0<=i)/\(i<=p.m)/\(∀k,0<=k->k<i->p.each k)/\M= [(1,.pointer (some ⟨g1,0,none⟩)),(45,vL),(46,.int .i64 p.m),(47,.int .i64 i)]/\Sat w0 w [.blk g1 [vL,vD,.int .i64 p.stock,.int .i64 p.kerf]]) ⟨0,rfl,(by omega),(by omega),?_,rfl,hS⟩ ?_
  ·
   intro k h0 h1;omega
  clear hS w
  rintro mm M w ⟨i,rfl,h0,h1,hall,rfl,hS⟩
  refine zsr ?_
  refine zlv Zk ?_
  refine zlt<|zsq ?_
  refine zcif ?_ ?_<;>intro hc
  ·
   refine zx3 ?_
   refine zlv xmv ?_
   refine zlv (xix (kk:=i) sl_22 h.L.slh) ?_
   refine zlv (xlr (u:= .int .i64 (p.L i)) pl_3 (h.L.below hS.below)) ?_
   have hbv:=h.iL i
   refine zs2 ?_
   refine zlz ?_
   refine zs3 ?_
   refine zlb 54 ?_ ?_<;>intro hc;rotate_left
   refine zlv xmv ?_
   refine zlv (xfb 2 fd_39_2) ?_
   refine zlv (xlb 0 pl_3 hS) ?_
   refine zs3 ?_
   refine zlb 60 ?_ ?_<;>intro hc;rotate_left
   refine zs3 ?_
   refine zlb 63 ?_ ?_<;>intro hc
   ·
    refine zlv xmv ?_
    refine zlv (xfb 0 fd_39_0) ?_
    refine zlv (xlb 0 pl_22 hS) ?_
    refine zlv xmv ?_
    refine zlv (xsub (r:=i-1)) ?_
    refine zlv (xix (kk:=i-1) sl_22 h.L.slh) ?_
    refine zlv (xlr (u:= .int .i64 (p.L (i-1))) pl_3 (h.L.below hS.below)) ?_
    have hbv:=h.iL (i-1)
    refine zs4 ?_
    refine zlb 74 ?_ ?_<;>intro hc;rotate_left
    refine zlv (xfb 1 fd_39_1) ?_
    refine zlv (xlb 0 pl_22 hS) ?_
    refine zlv xmv ?_
    refine zlv (xix (kk:=i) sl_22 h.D.slh) ?_
    refine zlv (xlr (u:= .int .i64 (p.D i)) pl_3 (h.D.below hS.below)) ?_
    have hbv:=h.iD i
    refine zs3 ?_
    refine zlb 82 ?_ ?_<;>intro hc;rotate_left
    refine zlv (xfb 1 fd_39_1) ?_
    refine zlv (xlb 0 pl_22 hS) ?_
    refine zlv xmv ?_
    refine zlv (xix (kk:=i) sl_22 h.D.slh) ?_
    refine zlv (xlr (u:= .int .i64 (p.D i)) pl_3 (h.D.below hS.below)) ?_
    have hbv:=h.iD i
    refine zs2 ?_
    refine zlt ?_
    refine zcif ?_ ?_<;>intro hc
    ·
     refine zsr ?_
     refine zlv xas ?_
     refine zx2<|zf1 ⟨_,rfl,?_⟩
     first
     |exact⟨Zc (by intro hk;have h1:=hk.m1;have h2:=hk.m2;have h3:=hk.d;have h4:=hk.s1;have h5:=hk.s2;have h6:=hk.k1;have h7:=hk.k2;omega),hS.nl⟩
     |exact⟨Zc (by intro hk;have:=hk.all i (by omega) (by omega);unfold Prob.each at this;omega),hS.nl⟩
    refine zx4 ?_
    refine zlv (xadd (r:=i+1)) ?_
    refine zlv xmv ?_
    refine zln<|zlq ⟨i+1,rfl,(by omega),(by omega),?_,rfl,hS⟩
    ·
     intro k h0' h1';rcases Int.lt_or_eq_of_le (show k<=i by omega) with hk|hk;exact hall k h0' hk;rw [hk];unfold Prob.each;omega
    all_goals
     refine Xe ?_
     refine zlt<|zct<|zsr ?_
     refine Xe ?_
     refine zx2<|zf1 ⟨_,rfl,?_⟩
     first
     |exact⟨Zc (by intro hk;have h1:=hk.m1;have h2:=hk.m2;have h3:=hk.d;have h4:=hk.s1;have h5:=hk.s2;have h6:=hk.k1;have h7:=hk.k2;omega),hS.nl⟩
     |exact⟨Zc (by intro hk;have:=hk.all i (by omega) (by omega);unfold Prob.each at this;omega),hS.nl⟩
   iterate 8 refine zlo ?_
   refine zs3 ?_
   refine zlv (xfb 1 fd_39_1) ?_
   refine zlv (xlb 0 pl_22 hS) ?_
   refine zlv xmv ?_
   refine zlv (xix (kk:=i) sl_22 h.D.slh) ?_
   refine zlv (xlr (u:= .int .i64 (p.D i)) pl_3 (h.D.below hS.below)) ?_
   have hbv:=h.iD i
   refine zs3 ?_
   refine zlb 82 ?_ ?_<;>intro hc;rotate_left
   refine zlv (xfb 1 fd_39_1) ?_
   refine zlv (xlb 0 pl_22 hS) ?_
   refine zlv xmv ?_
   refine zlv (xix (kk:=i) sl_22 h.D.slh) ?_
   refine zlv (xlr (u:= .int .i64 (p.D i)) pl_3 (h.D.below hS.below)) ?_
   have hbv:=h.iD i
   refine zs2 ?_
   refine zlt ?_
   refine zcif ?_ ?_<;>intro hc
   ·
    refine zsr ?_
    refine zlv xas ?_
    refine zx2<|zf1 ⟨_,rfl,?_⟩
    first
    |exact⟨Zc (by intro hk;have h1:=hk.m1;have h2:=hk.m2;have h3:=hk.d;have h4:=hk.s1;have h5:=hk.s2;have h6:=hk.k1;have h7:=hk.k2;omega),hS.nl⟩
    |exact⟨Zc (by intro hk;have:=hk.all i (by omega) (by omega);unfold Prob.each at this;omega),hS.nl⟩
   refine zx4 ?_
   refine zlv (xadd (r:=i+1)) ?_
   refine zlv xmv ?_
   refine zln<|zlq ⟨i+1,rfl,(by omega),(by omega),?_,rfl,hS⟩
   ·
    intro k h0' h1';rcases Int.lt_or_eq_of_le (show k<=i by omega) with hk|hk;exact hall k h0' hk;rw [hk];unfold Prob.each;omega
   all_goals
    refine Xe ?_
    refine zlt<|zct<|zsr ?_
    refine Xe ?_
    refine zx2<|zf1 ⟨_,rfl,?_⟩
    first
    |exact⟨Zc (by intro hk;have h1:=hk.m1;have h2:=hk.m2;have h3:=hk.d;have h4:=hk.s1;have h5:=hk.s2;have h6:=hk.k1;have h7:=hk.k2;omega),hS.nl⟩
    |exact⟨Zc (by intro hk;have:=hk.all i (by omega) (by omega);unfold Prob.each at this;omega),hS.nl⟩
  refine zx8 ?_
  refine zlv xas ?_
  refine zx1<|zf1 ⟨_,rfl,?_⟩
  exact⟨ZW ⟨by omega,by omega,by omega,by omega,by omega,by omega,by omega,fun k h0 h1=>hall k h0 (by omega)⟩,hS.nl⟩
  all_goals
   refine Xe ?_
   refine zlt<|zct<|zsr ?_
   refine Xe ?_
   refine zx14<|zf1 ⟨_,rfl,?_⟩
   first
   |exact⟨Zc (by intro hk;have h1:=hk.m1;have h2:=hk.m2;have h3:=hk.d;have h4:=hk.s1;have h5:=hk.s2;have h6:=hk.k1;have h7:=hk.k2;omega),hS.nl⟩
   |exact⟨Zc (by intro hk;have:=hk.all i (by omega) (by omega);unfold Prob.each at this;omega),hS.nl⟩
set_option maxRecDepth 20000 in
theorem c_rvalid28{vL vD:Value}{p:Prob}(w0:World)(h:PAt w0 vL vD p):
    Calls Try.prog 10 [.agg #[vL,vD,.int .i64 p.stock,.int .i64 p.kerf]].toArray w0 fun e w=>∃v,e= .returned v/\v=B p.Ok/\Sat w0 w []:=by
  have hm:=h.L.slh.n0;have hm1:=h.L.slh.n1;have hd:=h.D.slh.n0;have hs:=h.is;have hk:=h.ik
  refine Zn Try.func10 Try.ntmps10 fun w hS=> ?_
  refine zsr ?_
  refine zla (xbx (cs:= [_,_,_,_]) hS) ?_;rintro _ w ⟨g1,rfl,hS⟩
  replace hS:=hS.n1
  refine zlv xas ?_
  refine zlz ?_
  refine zlv (xfb 0 fd_24_0) ?_
  refine zlv (xlb 0 pl_22 hS) ?_
  refine zlv (xln sl_22 h.L.slh) ?_
  refine zlv xas ?_
  refine zx5 ?_
  refine zs3 ?_
  refine zlb 10 ?_ ?_<;>intro hc;rotate_left
  refine zs4 ?_
  refine zlb 14 ?_ ?_<;>intro hc;rotate_left
  refine zlv (xfb 1 fd_24_1) ?_
  refine zlv (xlb 0 pl_22 hS) ?_
  refine zlv (xln sl_22 h.D.slh) ?_
  refine zs4 ?_
  refine zlb 21 ?_ ?_<;>intro hc;rotate_left
  refine zlv (xfb 2 fd_24_2) ?_
  refine zlv (xlb 0 pl_3 hS) ?_
  refine zs3 ?_
  refine zlb 26 ?_ ?_<;>intro hc;rotate_left
  refine zlv (xfb 2 fd_24_2) ?_
  refine zlv (xlb 0 pl_3 hS) ?_
  refine zs3 ?_
  refine zlb 31 ?_ ?_<;>intro hc;rotate_left
  refine zlv (xfb 3 fd_24_3) ?_
  refine zlv (xlb 0 pl_3 hS) ?_
  refine zs3 ?_
  refine zlb 36 ?_ ?_<;>intro hc;rotate_left
  refine zlv (xfb 3 fd_24_3) ?_
  refine zlv (xlb 0 pl_3 hS) ?_
  refine zs2 ?_
  refine zlt ?_
  refine zcif ?_ ?_<;>intro hc
  ·
   refine zsr ?_
   refine zlv xas ?_
   refine zx14<|zf1 ⟨_,rfl,?_⟩
   first
   |exact⟨Zc (by intro hk;have h1:=hk.m1;have h2:=hk.m2;have h3:=hk.d;have h4:=hk.s1;have h5:=hk.s2;have h6:=hk.k1;have h7:=hk.k2;omega),hS.nl⟩
   |exact⟨Zc (by intro hk;have:=hk.all i (by omega) (by omega);unfold Prob.each at this;omega),hS.nl⟩
  refine zsk<|ztn<|zsq<|zsr ?_
  refine zlv xas ?_
  refine zx6<|zlp (fun mm M w=>∃(i:Int),mm=((p.m-i).toNat)/\(0<=i)/\(i<=p.m)/\(∀k,0<=k->k<i->p.each k)/\M= [(1,.pointer (some ⟨g1,0,none⟩)),(3,.int .i64 p.m),(4,.int .i64 i)]/\Sat w0 w [.blk g1 [vL,vD,.int .i64 p.stock,.int .i64 p.kerf]]) ⟨0,rfl,(by omega),(by omega),?_,rfl,hS⟩ ?_
  ·
   intro k h0 h1;omega
  clear hS w
  rintro mm M w ⟨i,rfl,h0,h1,hall,rfl,hS⟩
  refine zsq<|zsr ?_
  refine zs3 ?_
  refine zlt ?_
  refine zcif ?_ ?_<;>intro hc
  ·
   refine zsk<|ztn<|zsq<|zbk<|zsq ?_
   refine zdst [0] [0] 1000 mx_ hS ?_;clear hS;intro w hS
   refine zDrv 0 (xfb 0 fd_24_0) ?_
   refine zdla 1 (fun w hS=>(xlb 0 pl_22 hS)) ?_
   refine zDrv 2 xmv ?_
   refine zDrv 3 (xix (kk:=i) sl_22 h.L.slh) ?_
   refine zdla 4 (fun w hS=>(xlr (u:= .int .i64 (p.L i)) pl_3 (h.L.below hS.below))) ?_
   have hbv:=h.iL i
   refine zDrv 5 Zk ?_
   refine zDrv 6 xmv ?_
   refine zdb 52 ?_ ?_<;>intro hc
   ·
    refine zdof 7 ?_
    refine zdof 8 ?_
    refine zdof 9 ?_
    refine zdof 10 ?_
    refine zdof 11 ?_
    refine zdof 12 ?_
    refine zdof 13 ?_
    refine zdof 14 ?_
    refine zDrv 15 xpt ?_
    refine zDrv 16 xmv ?_
    refine zdof 17 ?_
    refine zdof 18 ?_
    refine zdof 19 ?_
    refine zdof 20 ?_
    refine zdof 21 ?_
    refine zdof 22 ?_
    refine zdof 23 ?_
    refine zdof 24 ?_
    refine zdof 25 ?_
    refine zdof 26 ?_
    refine zdof 27 ?_
    refine zdof 28 ?_
    refine zdof 29 ?_
    refine zdof 30 ?_
    refine zdof 31 ?_
    refine zdof 32 ?_
    refine zDrv 33 xpt ?_
    refine zDrv 34 xmv ?_
    refine zdof 35 ?_
    refine zdof 36 ?_
    refine zdof 37 ?_
    refine zdof 38 ?_
    refine zdof 39 ?_
    refine zdof 40 ?_
    refine zDrv 41 xpt ?_
    refine zDrv 42 xmv ?_
    refine zdof 43 ?_
    refine zdof 44 ?_
    refine zdof 45 ?_
    refine zdof 46 ?_
    refine zdof 47 ?_
    refine zdof 48 ?_
    refine zDrv 49 xpt ?_
    refine zdd<|ztn<|zct<|zsr ?_
    refine zlv xas ?_
    refine zx2<|zf1 ⟨_,rfl,?_⟩
    first
    |exact⟨Zc (by intro hk;have h1:=hk.m1;have h2:=hk.m2;have h3:=hk.d;have h4:=hk.s1;have h5:=hk.s2;have h6:=hk.k1;have h7:=hk.k2;omega),hS.nl⟩
    |exact⟨Zc (by intro hk;have:=hk.all i (by omega) (by omega);unfold Prob.each at this;omega),hS.nl⟩
   refine zDrv 7 (xfb 0 fd_24_0) ?_
   refine zdla 8 (fun w hS=>(xlb 0 pl_22 hS)) ?_
   refine zDrv 9 xmv ?_
   refine zDrv 10 (xix (kk:=i) sl_22 h.L.slh) ?_
   refine zdla 11 (fun w hS=>(xlr (u:= .int .i64 (p.L i)) pl_3 (h.L.below hS.below))) ?_
   have hbv:=h.iL i
   refine zDrv 12 (xfb 2 fd_24_2) ?_
   refine zdla 13 (fun w hS=>(xlb 0 pl_3 hS)) ?_
   refine zDrv 14 xgtr ?_
   refine zDrv 15 xpf ?_
   refine zDrv 16 xmv ?_
   refine zdb 62 ?_ ?_<;>intro hc
   ·
    refine zdof 17 ?_
    refine zdof 18 ?_
    refine zdof 19 ?_
    refine zdof 20 ?_
    refine zdof 21 ?_
    refine zdof 22 ?_
    refine zdof 23 ?_
    refine zdof 24 ?_
    refine zdof 25 ?_
    refine zdof 26 ?_
    refine zdof 27 ?_
    refine zdof 28 ?_
    refine zdof 29 ?_
    refine zdof 30 ?_
    refine zdof 31 ?_
    refine zdof 32 ?_
    refine zDrv 33 xpt ?_
    refine zDrv 34 xmv ?_
    refine zdof 35 ?_
    refine zdof 36 ?_
    refine zdof 37 ?_
    refine zdof 38 ?_
    refine zdof 39 ?_
    refine zdof 40 ?_
    refine zDrv 41 xpt ?_
    refine zDrv 42 xmv ?_
    refine zdof 43 ?_
    refine zdof 44 ?_
    refine zdof 45 ?_
    refine zdof 46 ?_
    refine zdof 47 ?_
    refine zdof 48 ?_
    refine zDrv 49 xpt ?_
    refine zdd<|ztn<|zct<|zsr ?_
    refine zlv xas ?_
    refine zx2<|zf1 ⟨_,rfl,?_⟩
    first
    |exact⟨Zc (by intro hk;have h1:=hk.m1;have h2:=hk.m2;have h3:=hk.d;have h4:=hk.s1;have h5:=hk.s2;have h6:=hk.k1;have h7:=hk.k2;omega),hS.nl⟩
    |exact⟨Zc (by intro hk;have:=hk.all i (by omega) (by omega);unfold Prob.each at this;omega),hS.nl⟩
   refine zDrv 17 xmv ?_
   refine zDrv 18 xgtr ?_
   refine zDrv 19 xmv ?_
   refine zdb 65 ?_ ?_<;>intro hc
   ·
    refine zDrv 20 (xfb 0 fd_24_0) ?_
    refine zdla 21 (fun w hS=>(xlb 0 pl_22 hS)) ?_
    refine zDrv 22 xmv ?_
    refine zDrv 23 (xix (kk:=i) sl_22 h.L.slh) ?_
    refine zdla 24 (fun w hS=>(xlr (u:= .int .i64 (p.L i)) pl_3 (h.L.below hS.below))) ?_
    have hbv:=h.iL i
    refine zDrv 25 (xfb 0 fd_24_0) ?_
    refine zdla 26 (fun w hS=>(xlb 0 pl_22 hS)) ?_
    refine zDrv 27 xmv ?_
    refine zDrv 28 (xsub (r:=i-1)) ?_
    refine zDrv 29 (xix (kk:=i-1) sl_22 h.L.slh) ?_
    refine zdla 30 (fun w hS=>(xlr (u:= .int .i64 (p.L (i-1))) pl_3 (h.L.below hS.below))) ?_
    have hbv:=h.iL (i-1)
    refine zDrv 31 Yo ?_
    refine zDrv 32 xpt ?_
    refine zDrv 33 xpf ?_
    refine zDrv 34 xmv ?_
    refine zdb 80 ?_ ?_<;>intro hc
    ·
     refine zdof 35 ?_
     refine zdof 36 ?_
     refine zdof 37 ?_
     refine zdof 38 ?_
     refine zdof 39 ?_
     refine zdof 40 ?_
     refine zDrv 41 xpt ?_
     refine zDrv 42 xmv ?_
     refine zdof 43 ?_
     refine zdof 44 ?_
     refine zdof 45 ?_
     refine zdof 46 ?_
     refine zdof 47 ?_
     refine zdof 48 ?_
     refine zDrv 49 xpt ?_
     refine zdd<|ztn<|zct<|zsr ?_
     refine zlv xas ?_
     refine zx2<|zf1 ⟨_,rfl,?_⟩
     first
     |exact⟨Zc (by intro hk;have h1:=hk.m1;have h2:=hk.m2;have h3:=hk.d;have h4:=hk.s1;have h5:=hk.s2;have h6:=hk.k1;have h7:=hk.k2;omega),hS.nl⟩
     |exact⟨Zc (by intro hk;have:=hk.all i (by omega) (by omega);unfold Prob.each at this;omega),hS.nl⟩
    refine zDrv 35 (xfb 1 fd_24_1) ?_
    refine zdla 36 (fun w hS=>(xlb 0 pl_22 hS)) ?_
    refine zDrv 37 xmv ?_
    refine zDrv 38 (xix (kk:=i) sl_22 h.D.slh) ?_
    refine zdla 39 (fun w hS=>(xlr (u:= .int .i64 (p.D i)) pl_3 (h.D.below hS.below))) ?_
    have hbv:=h.iD i
    refine zDrv 40 Zk ?_
    refine zDrv 41 xpf ?_
    refine zDrv 42 xmv ?_
    refine zdb 88 ?_ ?_<;>intro hc
    ·
     refine zdof 43 ?_
     refine zdof 44 ?_
     refine zdof 45 ?_
     refine zdof 46 ?_
     refine zdof 47 ?_
     refine zdof 48 ?_
     refine zDrv 49 xpt ?_
     refine zdd<|ztn<|zct<|zsr ?_
     refine zlv xas ?_
     refine zx2<|zf1 ⟨_,rfl,?_⟩
     first
     |exact⟨Zc (by intro hk;have h1:=hk.m1;have h2:=hk.m2;have h3:=hk.d;have h4:=hk.s1;have h5:=hk.s2;have h6:=hk.k1;have h7:=hk.k2;omega),hS.nl⟩
     |exact⟨Zc (by intro hk;have:=hk.all i (by omega) (by omega);unfold Prob.each at this;omega),hS.nl⟩
    refine zDrv 43 (xfb 1 fd_24_1) ?_
    refine zdla 44 (fun w hS=>(xlb 0 pl_22 hS)) ?_
    refine zDrv 45 xmv ?_
    refine zDrv 46 (xix (kk:=i) sl_22 h.D.slh) ?_
    refine zdla 47 (fun w hS=>(xlr (u:= .int .i64 (p.D i)) pl_3 (h.D.below hS.below))) ?_
    have hbv:=h.iD i
    refine zDrv 48 xgtr ?_
    refine zDrv 49 xpf ?_
    refine zdd<|ztn ?_
    refine zcif ?_ ?_<;>intro hc
    ·
     refine zsr ?_
     refine zlv xas ?_
     refine zx2<|zf1 ⟨_,rfl,?_⟩
     first
     |exact⟨Zc (by intro hk;have h1:=hk.m1;have h2:=hk.m2;have h3:=hk.d;have h4:=hk.s1;have h5:=hk.s2;have h6:=hk.k1;have h7:=hk.k2;omega),hS.nl⟩
     |exact⟨Zc (by intro hk;have:=hk.all i (by omega) (by omega);unfold Prob.each at this;omega),hS.nl⟩
    refine zx4 ?_
    refine zlv xmv ?_
    refine zlv (xadd (r:=i+1)) ?_
    refine zlv xas ?_
    refine zln<|zlq ⟨i+1,rfl,(by omega),(by omega),?_,rfl,hS⟩
    ·
     intro k h0' h1';rcases Int.lt_or_eq_of_le (show k<=i by omega) with hk|hk;exact hall k h0' hk;rw [hk];unfold Prob.each;omega
   refine zdof 20 ?_
   refine zdof 21 ?_
   refine zdof 22 ?_
   refine zdof 23 ?_
   refine zdof 24 ?_
   refine zdof 25 ?_
   refine zdof 26 ?_
   refine zdof 27 ?_
   refine zdof 28 ?_
   refine zdof 29 ?_
   refine zdof 30 ?_
   refine zdof 31 ?_
   refine zDrv 32 xpf ?_
   refine zDrv 33 xpf ?_
   refine zDrv 34 xmv ?_
   refine zDrv 35 (xfb 1 fd_24_1) ?_
   refine zdla 36 (fun w hS=>(xlb 0 pl_22 hS)) ?_
   refine zDrv 37 xmv ?_
   refine zDrv 38 (xix (kk:=i) sl_22 h.D.slh) ?_
   refine zdla 39 (fun w hS=>(xlr (u:= .int .i64 (p.D i)) pl_3 (h.D.below hS.below))) ?_
   have hbv:=h.iD i
   refine zDrv 40 Zk ?_
   refine zDrv 41 xpf ?_
   refine zDrv 42 xmv ?_
   refine zdb 88 ?_ ?_<;>intro hc
   ·
    refine zdof 43 ?_
    refine zdof 44 ?_
    refine zdof 45 ?_
    refine zdof 46 ?_
    refine zdof 47 ?_
    refine zdof 48 ?_
    refine zDrv 49 xpt ?_
    refine zdd<|ztn<|zct<|zsr ?_
    refine zlv xas ?_
    refine zx2<|zf1 ⟨_,rfl,?_⟩
    first
    |exact⟨Zc (by intro hk;have h1:=hk.m1;have h2:=hk.m2;have h3:=hk.d;have h4:=hk.s1;have h5:=hk.s2;have h6:=hk.k1;have h7:=hk.k2;omega),hS.nl⟩
    |exact⟨Zc (by intro hk;have:=hk.all i (by omega) (by omega);unfold Prob.each at this;omega),hS.nl⟩
   refine zDrv 43 (xfb 1 fd_24_1) ?_
   refine zdla 44 (fun w hS=>(xlb 0 pl_22 hS)) ?_
   refine zDrv 45 xmv ?_
   refine zDrv 46 (xix (kk:=i) sl_22 h.D.slh) ?_
   refine zdla 47 (fun w hS=>(xlr (u:= .int .i64 (p.D i)) pl_3 (h.D.below hS.below))) ?_
   have hbv:=h.iD i
   refine zDrv 48 xgtr ?_
   refine zDrv 49 xpf ?_
   refine zdd<|ztn ?_
   refine zcif ?_ ?_<;>intro hc
   ·
    refine zsr ?_
    refine zlv xas ?_
    refine zx2<|zf1 ⟨_,rfl,?_⟩
    first
    |exact⟨Zc (by intro hk;have h1:=hk.m1;have h2:=hk.m2;have h3:=hk.d;have h4:=hk.s1;have h5:=hk.s2;have h6:=hk.k1;have h7:=hk.k2;omega),hS.nl⟩
    |exact⟨Zc (by intro hk;have:=hk.all i (by omega) (by omega);unfold Prob.each at this;omega),hS.nl⟩
   refine zx4 ?_
   refine zlv xmv ?_
   refine zlv (xadd (r:=i+1)) ?_
   refine zlv xas ?_
   refine zln<|zlq ⟨i+1,rfl,(by omega),(by omega),?_,rfl,hS⟩
   ·
    intro k h0' h1';rcases Int.lt_or_eq_of_le (show k<=i by omega) with hk|hk;exact hall k h0' hk;rw [hk];unfold Prob.each;omega
  refine zx8 ?_
  refine zlv xas ?_
  refine zx1<|zf1 ⟨_,rfl,?_⟩
  exact⟨ZW ⟨by omega,by omega,by omega,by omega,by omega,by omega,by omega,fun k h0 h1=>hall k h0 (by omega)⟩,hS.nl⟩
  all_goals
   refine Xe ?_
   refine zlt<|zct<|zsr ?_
   refine Xe ?_
   refine zx14<|zf1 ⟨_,rfl,?_⟩
   first
   |exact⟨Zc (by intro hk;have h1:=hk.m1;have h2:=hk.m2;have h3:=hk.d;have h4:=hk.s1;have h5:=hk.s2;have h6:=hk.k1;have h7:=hk.k2;omega),hS.nl⟩
   |exact⟨Zc (by intro hk;have:=hk.all i (by omega) (by omega);unfold Prob.each at this;omega),hS.nl⟩
set_option maxRecDepth 20000 in
theorem Zak{vL vD:Value}{p:Prob}(w0:World)(h:PAt w0 vL vD p):
    Calls Try.prog 8 [.agg #[vL,vD,.int .i64 p.stock,.int .i64 p.kerf]].toArray w0 fun e w=>∃v,e= .returned v/\v=B (W1 p)/\Sat w0 w []:=by
  have hm:=h.L.slh.n0;have hm1:=h.L.slh.n1;have hd:=h.D.slh.n0;have hd1:=h.D.slh.n1;have hs:=h.is;have hk:=h.ik
  refine Zn Try.func8 Try.ntmps8 fun w hS=> ?_
  refine zsr ?_
  refine zla (xbx (cs:= [_,_,_,_]) hS) ?_;rintro _ w ⟨g1,rfl,hS⟩
  replace hS:=hS.n1
  refine zlv xas ?_
  refine zx5 ?_
  refine zlv (xfb 0 fd_24_0) ?_
  refine zlv (xlb 0 pl_22 hS) ?_
  refine zlv (xln sl_22 h.L.slh) ?_
  refine zs2 ?_
  refine zlb 8 ?_ ?_<;>intro hc
  ·
   iterate 4 refine zlo ?_
   refine zlv xpt ?_
   refine zlt<|zct<|zsr ?_
   refine zlv xas ?_
   refine zx14<|zf1 ⟨_,rfl,?_⟩
   exact⟨Zc (by rintro⟨h2,h3,h4⟩;first|omega|(have h5:=(h4 (Classical.not_not.1 ‹¬¬(p.Ok)›)).1 i (by omega) (by omega);omega)|(have h5:=(h4 (Classical.not_not.1 ‹¬¬(p.Ok)›)).2;omega)),hS.nl⟩
  refine zlv (xfb 1 fd_24_1) ?_
  refine zlv (xlb 0 pl_22 hS) ?_
  refine zlv (xln sl_22 h.D.slh) ?_
  refine zs2 ?_
  refine zlt ?_
  refine zcif ?_ ?_<;>intro hc
  ·
   refine zsr ?_
   refine zlv xas ?_
   refine zx14<|zf1 ⟨_,rfl,?_⟩
   exact⟨Zc (by rintro⟨h2,h3,h4⟩;first|omega|(have h5:=(h4 (Classical.not_not.1 ‹¬¬(p.Ok)›)).1 i (by omega) (by omega);omega)|(have h5:=(h4 (Classical.not_not.1 ‹¬¬(p.Ok)›)).2;omega)),hS.nl⟩
  refine zsk<|ztn<|zsq<|zsr ?_
  refine zlv (xls 0 st_24 hS) ?_
  refine zlc (xc0 cl_10) (c_rvalid28 (p:=p) w (h.below hS.below)) ?_;rintro _ w ⟨rfl,hS'⟩
  replace hS:=hS.cmp hS';clear hS'
  refine zlv ZX ?_
  refine zlt ?_
  refine zcif ?_ ?_<;>intro hc
  ·
   refine zsr ?_
   refine zlv xas ?_
   refine zx14<|zf1 ⟨_,rfl,?_⟩
   exact⟨ZW (by first|exact⟨by omega,by omega,fun hk=>absurd hk ‹¬p.Ok›⟩),hS.nl⟩
  refine zsk<|ztn<|zsq<|zsr ?_
  refine zlv xas ?_
  refine zx6<|zlp (fun mm M w=>∃(i:Int),mm=((p.d-i).toNat)/\(0<=i)/\(i<=p.d)/\(∀k,0<=k->k<i->p.D k<=30)/\M= [(1,.pointer (some ⟨g1,0,none⟩)),(3,.int .i64 i)]/\Sat w0 w [.blk g1 [vL,vD,.int .i64 p.stock,.int .i64 p.kerf]]) ⟨0,rfl,(by omega),(by omega),?_,rfl,hS⟩ ?_
  ·
   intro k h0 h1;omega
  clear hS w
  rintro mm M w ⟨i,rfl,h0,h1,hall,rfl,hS⟩
  refine zsq<|zsr ?_
  refine zlv xmv ?_
  refine zlv (xfb 1 fd_24_1) ?_
  refine zlv (xlb 0 pl_22 hS) ?_
  refine zlv (xln sl_22 h.D.slh) ?_
  refine zlv Zk ?_
  refine zlt ?_
  refine zcif ?_ ?_<;>intro hc
  ·
   refine zx3 ?_
   refine zlv (xfb 1 fd_24_1) ?_
   refine zlv (xlb 0 pl_22 hS) ?_
   refine zlv xmv ?_
   refine zlv (xix (kk:=i) sl_22 h.D.slh) ?_
   refine zlv (xlr (u:= .int .i64 (p.D i)) pl_3 (h.D.below hS.below)) ?_
   have hbv:=h.iD i
   refine zlv xgtr ?_
   refine zlt ?_
   refine zcif ?_ ?_<;>intro hc
   ·
    refine zsr ?_
    refine zlv xas ?_
    refine zx2<|zf1 ⟨_,rfl,?_⟩
    exact⟨Zc (by rintro⟨h2,h3,h4⟩;first|omega|(have h5:=(h4 (Classical.not_not.1 ‹¬¬(p.Ok)›)).1 i (by omega) (by omega);omega)|(have h5:=(h4 (Classical.not_not.1 ‹¬¬(p.Ok)›)).2;omega)),hS.nl⟩
   refine zx4 ?_
   refine zlv xmv ?_
   refine zlv (xadd (r:=i+1)) ?_
   refine zlv xas ?_
   refine zln<|zlq ⟨i+1,rfl,(by omega),(by omega),?_,rfl,hS⟩
   ·
    intro k h0' h1';rcases Int.lt_or_eq_of_le (show k<=i by omega) with hk|hk;exact hall k h0' hk;rw [hk];omega
  refine zxt<|ztx<|ztx<|zbh<|ztn<|zsq ?_
  refine zdst [0] [0] 1000 mx_ hS ?_;clear hS;intro w hS
  refine zDrv 0 (xfb 0 fd_24_0) ?_
  have hp:=(Classical.not_not.1 ‹¬¬(p.Ok)›);have hm2:=hp.m1;have hL:=(hp.all (p.m-1) (by omega) (by omega));unfold Prob.each at hL;have hs2:=hp.s2
  refine zdla 1 (fun w hS=>(xlb 0 pl_22 hS)) ?_
  refine zDrv 2 (xln sl_22 h.L.slh) ?_
  refine zDrv 3 Z9 ?_
  refine zDrv 4 xmv ?_
  refine zdb 34 ?_ ?_<;>intro hc
  ·
   refine zDrv 5 (xfb 2 fd_24_2) ?_
   refine zdla 6 (fun w hS=>(xlb 0 pl_3 hS)) ?_
   refine zDrv 7 (xfb 0 fd_24_0) ?_
   refine zdla 8 (fun w hS=>(xlb 0 pl_22 hS)) ?_
   refine zDrv 9 (xfb 0 fd_24_0) ?_
   refine zdla 10 (fun w hS=>(xlb 0 pl_22 hS)) ?_
   refine zDrv 11 (xln sl_22 h.L.slh) ?_
   refine zDrv 12 (xsub (r:=p.m-1)) ?_
   refine zDrv 13 (xix (kk:=p.m-1) sl_22 h.L.slh) ?_
   refine zdla 14 (fun w hS=>(xlr (u:= .int .i64 (p.L (p.m-1))) pl_3 (h.L.below hS.below))) ?_
   have hbv:=h.iL (p.m-1)
   refine zDrv 15 (Xp (r:=12*p.L (p.m-1))) ?_
   refine zDrv 16 Z9 ?_
   refine zDrv 17 xpt ?_
   refine zDrv 18 xas ?_
   refine zdd<|ztn<|zrt<|zf1 ⟨_,rfl,?_⟩
   exact⟨Zw (by constructor;exact fun h5=>⟨by omega,by omega,fun _=>⟨fun k h6 h7=>hall k h6 (by omega),by omega,by omega⟩⟩;rintro⟨h2,h3,h4⟩;have h5:=(h4 (Classical.not_not.1 ‹¬¬(p.Ok)›)).2.2;omega),hS.nl⟩
  refine zdof 5 ?_
  refine zdof 6 ?_
  refine zdof 7 ?_
  refine zdof 8 ?_
  refine zdof 9 ?_
  refine zdof 10 ?_
  refine zdof 11 ?_
  refine zdof 12 ?_
  refine zdof 13 ?_
  refine zdof 14 ?_
  refine zdof 15 ?_
  refine zdof 16 ?_
  refine zDrv 17 xpf ?_
  refine zDrv 18 xas ?_
  refine zdd<|ztn<|zrt<|zf1 ⟨_,rfl,?_⟩
  exact⟨Zc (by rintro⟨h2,h3,h4⟩;first|omega|(have h5:=(h4 (Classical.not_not.1 ‹¬¬(p.Ok)›)).1 i (by omega) (by omega);omega)|(have h5:=(h4 (Classical.not_not.1 ‹¬¬(p.Ok)›)).2;omega)),hS.nl⟩
set_option maxRecDepth 20000 in
theorem Zbx{vL vD:Value}{p:Prob}{vA:Value}{n:Int}{f:Int->Int}(w0:World)(h:PAt w0 vL vD p)(hp:p.Ok)(hA:Row w0 vA 1 n (ints f))(hn:n=p.m)(ha:∀i,0<=i->i<p.m->0<=f i/\f i<=2000):
    Calls Try.prog 46 [.agg #[vL,vD,.int .i64 p.stock,.int .i64 p.kerf],vA].toArray w0 fun e w=>∃v,e= .returned v/\v= .int .i64 (ZO p f p.m.toNat)/\Sat w0 w []:=by
  subst hn;have hm:=hp.m1;have hm2:=hp.m2
  refine Zn Try.func46 Try.ntmps46 fun w hS=> ?_
  refine zsr ?_
  refine zla (xbx (cs:= [_,_,_,_]) hS) ?_;rintro _ w ⟨g1,rfl,hS⟩
  replace hS:=hS.n1
  refine zlv xas ?_
  refine zlz ?_
  refine zlv xas ?_
  refine zx5 ?_
  refine zlv xas ?_
  refine zx6<|zlp (fun mm M w=>∃(s:Int) (i:Int),mm=((p.m-i).toNat)/\(0<=i)/\(i<=p.m)/\(s=ZO p f i.toNat)/\M= [(1,vA),(2,.pointer (some ⟨g1,0,none⟩)),(4,.int .i64 0),(5,.int .i64 s),(6,.int .i64 i)]/\Sat w0 w [.blk g1 [vL,vD,.int .i64 p.stock,.int .i64 p.kerf]]) ⟨0,0,rfl,(by omega),(by omega),?_,rfl,hS⟩ ?_
  ·
   rfl
  clear hS w
  rintro mm M w ⟨s,i,rfl,h0,h1,hs,rfl,hS⟩
  refine zsq<|zsr ?_
  refine zlv xmv ?_
  refine zlv (xfb 0 fd_24_0) ?_
  refine zlv (xlb 0 pl_22 hS) ?_
  refine zlv (xln sl_22 h.L.slh) ?_
  refine zlv Zk ?_
  refine zlt ?_
  refine zcif ?_ ?_<;>intro hc
  ·
   refine zsk<|ztn<|zsq<|zbk ?_
   refine zdst [0] [0] 1000 mx_ hS ?_;clear hS;intro w hS
   refine zDrv 0 xmv ?_
   have he:=hp.all i (by omega) (by omega);unfold Prob.each at he;have hai:=ha i (by omega) (by omega);have hk1:=hp.k1;have hk2:=hp.k2;have hs2:=hp.s2;have ht:=WB hp h0 (by omega:i<p.m) hai;have hb:=Wb hp ha h0 (by omega:i<=p.m);have hb2:=Wb hp ha (by omega:0<=i+1) (by omega:i+1<=p.m)
   refine zDrv 1 xmv ?_
   refine zDrv 2 xmv ?_
   refine zDrv 3 (xix (kk:=i) sl_22 hA.slh) ?_
   refine zdla 4 (fun w hS=>(xlr (u:= .int .i64 (f i)) pl_3 (hA.below hS.below))) ?_
   refine zDrv 5 (xfb 0 fd_24_0) ?_
   refine zdla 6 (fun w hS=>(xlb 0 pl_22 hS)) ?_
   refine zDrv 7 xmv ?_
   refine zDrv 8 (xix (kk:=i) sl_22 h.L.slh) ?_
   refine zdla 9 (fun w hS=>(xlr (u:= .int .i64 (p.L i)) pl_3 (h.L.below hS.below))) ?_
   have hbv:=h.iL i
   refine zDrv 10 (xfb 3 fd_24_3) ?_
   refine zdla 11 (fun w hS=>(xlb 0 pl_3 hS)) ?_
   refine zDrv 12 (xadd (r:=p.L i+p.kerf)) ?_
   refine zDrv 13 (Xp (r:=((f i)*(p.L i+p.kerf))) (e:=rfl) (hr:=(by unfold I64;omega))) ?_
   refine zDrv 14 (xadd (r:=s+((f i)*(p.L i+p.kerf))) (hr:=(by unfold I64;omega))) ?_
   refine zDrv 15 xas ?_
   refine zdd<|zbn<|ztn<|zrg ?_
   refine zlv xmv ?_
   refine zlv (xadd (r:=i+1)) ?_
   refine zlv xas ?_
   refine zln<|zlq ⟨s+((f i)*(p.L i+p.kerf)),i+1,rfl,(by omega),(by omega),?_,rfl,hS⟩
   ·
    rw [hs];exact(ZP _ h0).symm
  refine zx8 ?_
  refine zs2 ?_
  refine zx1<|zf1 ⟨_,rfl,?_⟩
  obtain rfl:i=p.m:=by omega
  exact⟨congrArg (Value.int .i64) hs,hS.nl⟩
set_option maxRecDepth 20000 in
theorem ZbE{vL vD:Value}{p:Prob}{vA:Value}{n:Int}{f:Int->Int}(w0:World)(h:PAt w0 vL vD p)(hA:Row w0 vA 1 n (ints f)):
    Calls Try.prog 87 [.agg #[vL,vD,.int .i64 p.stock,.int .i64 p.kerf],vA].toArray w0 fun e w=>∃v,e= .returned v/\v=B (FitsP p n f)/\Sat w0 w []:=by
  have hm:=h.L.slh.n0;have hm1:=h.L.slh.n1;have hd:=h.D.slh.n0;have hs:=h.is;have hk:=h.ik;have hn:=hA.slh.n0;have hn1:=hA.slh.n1
  refine Zn Try.func87 Try.ntmps87 fun w hS=> ?_
  refine zsr ?_
  refine zla (xbx (cs:= [_,_,_,_]) hS) ?_;rintro _ w ⟨g1,rfl,hS⟩
  replace hS:=hS.n1
  refine zlv xas ?_
  refine zx5 ?_
  refine zlv (xls 0 st_24 hS) ?_
  refine zlc (xc0 cl_10) (c_rvalid28 (p:=p) w (h.below hS.below)) ?_;rintro _ w ⟨rfl,hS'⟩
  replace hS:=hS.cmp hS';clear hS'
  refine zs2 ?_
  refine zlb 9 ?_ ?_<;>intro hc
  ·
   iterate 6 refine zlo ?_
   refine zlv xpt ?_
   refine zlt<|zct<|zsr ?_
   refine zlv xas ?_
   refine zx14<|zf1 ⟨_,rfl,?_⟩
   first
   |exact⟨Zc (by intro hk;exact absurd hk.ok ‹¬p.Ok›),hS.nl⟩
   |exact⟨Zc (by intro hk;have:=hk.eq;omega),hS.nl⟩
   |exact⟨Zc (by intro hk;have:=hk.all i (by omega) (by have:=hk.eq;omega);omega),hS.nl⟩
  refine zlv xmv ?_
  refine zlv (xln sl_22 hA.slh) ?_
  refine zlv (xfb 0 fd_24_0) ?_
  refine zlv (xlb 0 pl_22 hS) ?_
  refine zlv (xln sl_22 h.L.slh) ?_
  refine zs2 ?_
  refine zlt ?_
  refine zcif ?_ ?_<;>intro hc
  ·
   refine zsr ?_
   refine zlv xas ?_
   refine zx14<|zf1 ⟨_,rfl,?_⟩
   first
   |exact⟨Zc (by intro hk;exact absurd hk.ok ‹¬p.Ok›),hS.nl⟩
   |exact⟨Zc (by intro hk;have:=hk.eq;omega),hS.nl⟩
   |exact⟨Zc (by intro hk;have:=hk.all i (by omega) (by have:=hk.eq;omega);omega),hS.nl⟩
  refine zsk<|ztn<|zsq<|zsr ?_
  refine zlv xas ?_
  refine zx6<|zlp (fun mm M w=>∃(i:Int),mm=((n-i).toNat)/\(0<=i)/\(i<=n)/\(∀k,0<=k->k<i->0<=f k/\f k<=2000)/\M= [(1,vA),(2,.pointer (some ⟨g1,0,none⟩)),(5,.int .i64 i)]/\Sat w0 w [.blk g1 [vL,vD,.int .i64 p.stock,.int .i64 p.kerf]]) ⟨0,rfl,(by omega),(by omega),?_,rfl,hS⟩ ?_
  ·
   intro k h0 h1;omega
  clear hS w
  rintro mm M w ⟨i,rfl,h0,h1,hall,rfl,hS⟩
  refine zsq<|zsr ?_
  refine zs2 ?_
  refine zlv (xln sl_22 hA.slh) ?_
  refine zlv Zk ?_
  refine zlt ?_
  refine zcif ?_ ?_<;>intro hc
  ·
   refine zx3 ?_
   refine zs2 ?_
   refine zlv (xix (kk:=i) sl_22 hA.slh) ?_
   refine zlv (xlr (u:= .int .i64 (f i)) pl_3 (hA.below hS.below)) ?_
   refine zs2 ?_
   refine zlb 28 ?_ ?_<;>intro hc
   ·
    iterate 5 refine zlo ?_
    refine zlv xpt ?_
    refine zlt<|zct<|zsr ?_
    refine zlv xas ?_
    refine zx2<|zf1 ⟨_,rfl,?_⟩
    first
    |exact⟨Zc (by intro hk;exact absurd hk.ok ‹¬p.Ok›),hS.nl⟩
    |exact⟨Zc (by intro hk;have:=hk.eq;omega),hS.nl⟩
    |exact⟨Zc (by intro hk;have:=hk.all i (by omega) (by have:=hk.eq;omega);omega),hS.nl⟩
   refine zs2 ?_
   refine zlv (xix (kk:=i) sl_22 hA.slh) ?_
   refine zlv (xlr (u:= .int .i64 (f i)) pl_3 (hA.below hS.below)) ?_
   refine zs2 ?_
   refine zlt ?_
   refine zcif ?_ ?_<;>intro hc
   ·
    refine zsr ?_
    refine zlv xas ?_
    refine zx2<|zf1 ⟨_,rfl,?_⟩
    first
    |exact⟨Zc (by intro hk;exact absurd hk.ok ‹¬p.Ok›),hS.nl⟩
    |exact⟨Zc (by intro hk;have:=hk.eq;omega),hS.nl⟩
    |exact⟨Zc (by intro hk;have:=hk.all i (by omega) (by have:=hk.eq;omega);omega),hS.nl⟩
   refine zx4 ?_
   refine zlv xmv ?_
   refine zlv (xadd (r:=i+1)) ?_
   refine zlv xas ?_
   refine zln<|zlq ⟨i+1,rfl,(by omega),(by omega),?_,rfl,hS⟩
   ·
    intro k h0' h1';rcases Int.lt_or_eq_of_le (show k<=i by omega) with hk|hk;exact hall k h0' hk;rw [hk];omega
  refine zxt<|ztx<|ztx<|zbh<|ztn<|zsq ?_
  refine zdst [0] [0] 1000 mx_ hS ?_;clear hS;intro w hS
  refine zdla 0 (fun w hS=>(xls 0 st_24 hS)) ?_
  have hp:=(Classical.not_not.1 ‹¬¬(p.Ok)›);have hs1:=hp.s1;have hs2:=hp.s2;have hk1:=hp.k1;have hk2:=hp.k2
  refine zDrv 1 xmv ?_
  refine zDrv 3 (xfb 2 fd_24_2) ?_
  refine zdla 4 (fun w hS=>(xlb 0 pl_3 hS)) ?_
  refine zDrv 5 (xfb 3 fd_24_3) ?_
  refine zdla 6 (fun w hS=>(xlb 0 pl_3 hS)) ?_
  refine zDrv 7 (xadd (r:=p.stock+p.kerf)) ?_
  refine zdc 2 (xc0 Zcj) (Zbx (p:=p) w (h.below hS.below) (Classical.not_not.1 ‹¬¬(p.Ok)›) (hA.below hS.below) (by omega) (fun k k0 k1=>hall k k0 (by omega))) ?_;rintro _ w ⟨rfl,hS'⟩
  replace hS:=hS.cmp hS';clear hS'
  refine⟨⟨fun _=>hS,hS⟩,?_⟩
  refine zDrv 8 Z9 ?_
  refine zDrv 9 xas ?_
  refine zdd<|ztn<|zrt<|zf1 ⟨_,rfl,?_⟩
  exact⟨Zw ⟨fun hu=>⟨(Classical.not_not.1 ‹¬¬(p.Ok)›),by omega,fun k k0 k1=>hall k k0 (by omega),hu⟩,fun hk=>hk.used⟩,hS.nl⟩
set_option maxRecDepth 20000 in
theorem c_short{vU:Value}{u:Int}{pv:Int->Value}{len:Int->Int}{pt:Int->Int->Int}{cnt:Int->Int}(w0:World)(hU:UAt w0 vU u pv len pt cnt):
    Calls Try.prog 9 [vU].toArray w0 fun e w=>∃v,e= .returned v/\v=B (ShortP u len cnt)/\Sat w0 w []:=by
  have hu:=hU.row.slh.n0;have hu1:=hU.row.slh.n1
  refine Zn Try.func9 Try.ntmps9 fun w hS=> ?_
  refine zsr ?_
  refine zlv xas ?_
  refine zx5 ?_
  refine zlv xas ?_
  refine zx6<|zlp (fun mm M w=>∃(i:Int),mm=((u-i).toNat)/\(0<=i)/\(i<=u)/\(∀k,0<=k->k<i->len k<=25/\cnt k<=40)/\M= [(0,vU),(3,.int .i64 i)]/\Sat w0 w []) ⟨0,rfl,(by omega),(by omega),?_,rfl,hS⟩ ?_
  ·
   intro k h0 h1;omega
  clear hS w
  rintro mm M w ⟨i,rfl,h0,h1,hall,rfl,hS⟩
  refine zsq<|zsr ?_
  refine zs2 ?_
  refine zlv (xln sl_25 hU.row.slh) ?_
  refine zlv Zk ?_
  refine zlt ?_
  refine zcif ?_ ?_<;>intro hc
  ·
   refine zx3 ?_
   refine zs2 ?_
   refine zlv (xix (kk:=2*i) sl_25 hU.row.slh) ?_
   refine zlv (xfc (kk:=2*i) Yi hU.row.slh) ?_
   refine zlv (xlr (u:=(pv i)) pl_22 (hU.row.below hS.below) (e:=(Yh pv cnt (by omega)))) ?_
   refine zlv (xln sl_22 (hU.p i (by omega) (by omega)).row.slh) ?_
   refine zs2 ?_
   refine zlb 17 ?_ ?_<;>intro hc
   ·
    iterate 6 refine zlo ?_
    refine zlv xpt ?_
    refine zlt<|zct<|zsr ?_
    refine zlv xas ?_
    refine zx2<|zf1 ⟨_,rfl,?_⟩
    exact⟨Zc (by intro hk;have:=hk.all i (by omega) (by omega);omega),hS⟩
   refine zs2 ?_
   refine zlv (xix (kk:=2*i) sl_25 hU.row.slh) ?_
   refine zlv (xfc (kk:=2*i+1) ZU hU.row.slh) ?_
   refine zlv (xlr (u:= .int .i64 (cnt i)) pl_3 (hU.row.below hS.below) (e:=(Z0 pv cnt (by omega)))) ?_
   have hbv:=hU.c i
   refine zs2 ?_
   refine zlt ?_
   refine zcif ?_ ?_<;>intro hc
   ·
    refine zsr ?_
    refine zlv xas ?_
    refine zx2<|zf1 ⟨_,rfl,?_⟩
    exact⟨Zc (by intro hk;have:=hk.all i (by omega) (by omega);omega),hS⟩
   refine zx4 ?_
   refine zlv xmv ?_
   refine zlv (xadd (r:=i+1)) ?_
   refine zlv xas ?_
   refine zln<|zlq ⟨i+1,rfl,(by omega),(by omega),?_,rfl,hS⟩
   ·
    intro k h0' h1';rcases Int.lt_or_eq_of_le (show k<=i by omega) with hk|hk;exact hall k h0' hk;rw [hk];omega
  refine zx8 ?_
  refine zlv xmv ?_
  refine zlv (xln sl_25 hU.row.slh) ?_
  refine zs2 ?_
  refine zx1<|zf1 ⟨_,rfl,?_⟩
  exact⟨Zw (by exact⟨fun h5=>⟨fun k k0 k1=>hall k k0 (by omega),h5⟩,fun h5=>h5.few⟩),hS⟩
def ZN(p:Prob)(n:Int)(f:Int->Int):Prop:=FitsP p n f/\∀k,0<=k->k<n->f k<=p.D k
theorem Z4 {p:Prob} {n:Int} {f:Int->Int} (hf:FitsP p n f) {i:Int} (i0:0<=i) (i1:i<n):0<=f i/\f i<=(p.stock+p.kerf-ZO p f i.toNat).tdiv (p.L i+p.kerf):=by
  have hp:=hf.ok
  have hn:=hf.eq
  have he:=hp.all i i0 (by omega)
  unfold Prob.each at he
  have hk:=hp.k1
  have hu:∀j:Nat,i.toNat+j<=n.toNat->ZO p f i.toNat<=ZO p f (i.toNat+j):=fun j=>by
    induction j with
    |zero=>intro _;exact Int.le_refl _
    | succ j ih=>
      intro hj
      have h1:=ih (by omega)
      have h2:=hf.all ((i.toNat+j:Nat):Int) (by omega) (by omega)
      have h3:=hp.all ((i.toNat+j:Nat):Int) (by omega) (by omega)
      unfold Prob.each at h3
      have h4:=Int.mul_nonneg h2.1 (show 0<=p.L ((i.toNat+j:Nat):Int)+p.kerf by omega)
      have h5:=ZP (fun i=>f i*(p.L i+p.kerf)) (i:=((i.toNat+j:Nat):Int)) (by omega)
      have e:ZO p f (i.toNat+(j+1))=ZO p f (i.toNat+j)+f ((i.toNat+j:Nat):Int)*(p.L ((i.toNat+j:Nat):Int)+p.kerf):=by
        unfold ZO
        rw [show i.toNat+(j+1)=(((i.toNat+j:Nat):Int)+1).toNat by omega,h5];rfl
      rw [e];omega
  have h1:ZO p f (i+1).toNat=ZO p f i.toNat+f i*(p.L i+p.kerf):=ZP _ i0
  have h2 :ZO p f (i+1).toNat<=ZO p f n.toNat:=by
    have h3:∀j:Nat,(i+1).toNat+j<=n.toNat->ZO p f (i+1).toNat<=ZO p f ((i+1).toNat+j):=fun j=>by
      induction j with
      |zero=>intro _;exact Int.le_refl _
      | succ j ih=>
        intro hj
        have h1:=ih (by omega)
        have h2:=hf.all (((i+1).toNat+j:Nat):Int) (by omega) (by omega)
        have h3:=hp.all (((i+1).toNat+j:Nat):Int) (by omega) (by omega)
        unfold Prob.each at h3
        have h4:=Int.mul_nonneg h2.1 (show 0<=p.L (((i+1).toNat+j:Nat):Int)+p.kerf by omega)
        have h5:=ZP (fun i=>f i*(p.L i+p.kerf)) (i:=(((i+1).toNat+j:Nat):Int)) (by omega)
        have e:ZO p f ((i+1).toNat+(j+1))=ZO p f ((i+1).toNat+j)+f (((i+1).toNat+j:Nat):Int)*(p.L (((i+1).toNat+j:Nat):Int)+p.kerf):=by
          unfold ZO
          rw [show(i+1).toNat+(j+1)=((((i+1).toNat+j:Nat):Int)+1).toNat by omega,h5];rfl
        rw [e];omega
    have h4:=h3 (n.toNat-(i+1).toNat) (by omega)
    rwa [show(i+1).toNat+(n.toNat-(i+1).toNat)=n.toNat by omega] at h4
  have h3:=hf.used
  rw [<-hn] at h3
  have h0:=(hf.all i i0 (by omega)).1
  have h4:=Int.mul_nonneg h0 (show 0<=p.L i+p.kerf by omega)
  refine⟨h0,?_⟩
  rw [Int.tdiv_eq_ediv_of_nonneg (by omega)]
  exact(Int.le_ediv_iff_mul_le (by omega)).2 (by omega)
theorem TS{p:Prob}(hp:p.Ok){i l x:Int}(i0:0<=i)(i1:i<p.m)(l0:0<=l)(l1:l<=p.stock+p.kerf)(x0:0<=x)(x1:x<=l.tdiv (p.L i+p.kerf)):0<=x*(p.L i+p.kerf)/\x*(p.L i+p.kerf)<=l/\x<=2000:=by
  have he:=hp.all i i0 i1
  unfold Prob.each at he
  have hk:=hp.k1;have hs:=hp.s2
  rw [Int.tdiv_eq_ediv_of_nonneg l0] at x1
  have h1:=(Int.le_ediv_iff_mul_le (show 0<p.L i+p.kerf by omega)).1 x1
  have h2:=Int.mul_nonneg x0 (show 0<=p.L i+p.kerf by omega)
  refine⟨h2,h1,?_⟩
  by_cases hx:x<=2000
  · exact hx
  · exfalso
    have h3:=Int.mul_le_mul_of_nonneg_left (show 1+p.kerf<=p.L i+p.kerf by omega) x0
    have h4:=Int.mul_le_mul_of_nonneg_right (show 1<=x by omega) hk
    have h5:x*(1+p.kerf)=x+x*p.kerf:=by rw [Int.mul_add,Int.mul_one]
    omega
theorem R6{vL vD:Value}{p:Prob}{i:Int}(w0:World)(h:PAt w0 vL vD p)(hok:p.Ok)(i0:0<=i)(i1:i<p.m):
    Calls Try.prog 110 [.agg #[vL,vD,.int .i64 p.stock,.int .i64 p.kerf],.int .i64 i].toArray w0 fun e w=>∃v,e= .returned v/\v= .int .i64 (p.L i+p.kerf)/\Sat w0 w []:=by
  have hp:=hok;have he:=hp.all i i0 i1;unfold Prob.each at he;have hs2:=hp.s2;have hk1:=hp.k1;have hk2:=hp.k2
  refine Zn Try.func110 Try.ntmps110 fun w hS=> ?_
  refine zsr ?_
  refine zla (xbx (cs:= [_,_,_,_]) hS) ?_;rintro _ w ⟨g1,rfl,hS⟩
  replace hS:=hS.n1
  refine zlv xas ?_
  refine zlt<|zsq ?_
  refine zdst [0] [0] 1000 mx_ hS ?_;clear hS;intro w hS
  refine zDrv 0 (xfb 0 fd_39_0) ?_
  refine zdla 1 (fun w hS=>(xlb 0 pl_22 hS)) ?_
  refine zDrv 2 xmv ?_
  refine zDrv 3 (xix (kk:=i) sl_22 h.L.slh) ?_
  refine zdla 4 (fun w hS=>(xlr (u:= .int .i64 (p.L i)) pl_3 (h.L.below hS.below))) ?_
  have hbv:=h.iL i
  refine zDrv 5 (xfb 3 fd_39_3) ?_
  refine zdla 6 (fun w hS=>(xlb 0 pl_3 hS)) ?_
  refine zDrv 7 (xadd (r:=p.L i+p.kerf)) ?_
  refine zDrv 8 xas ?_
  refine zdd<|ztn<|zrt<|zf1 ⟨_,rfl,?_⟩
  exact⟨rfl,hS.nl⟩
set_option maxRecDepth 20000 in
theorem ZbD{vL vD:Value}{p:Prob}{vA:Value}{n:Int}{f:Int->Int}(w0:World)(h:PAt w0 vL vD p)(hA:Row w0 vA 1 n (ints f)):
    Calls Try.prog 89 [.agg #[vL,vD,.int .i64 p.stock,.int .i64 p.kerf],vA].toArray w0 fun e w=>∃v,e= .returned v/\∃(r:Int) (ok:Prop),v= .tuple #[.int .i64 r,B ok]/\(ok↔FitsP p n f)/\Sat w0 w []:=by
  have hm:=h.L.slh.n0;have hm1:=h.L.slh.n1;have hd:=h.D.slh.n0;have hd1:=h.D.slh.n1;have hs:=h.is;have hk:=h.ik
  have hn:=hA.slh.n0;have hn1:=hA.slh.n1
  refine Zn Try.func89 Try.ntmps89 fun w hS=> ?_
  refine zsr ?_
  refine zla (xbx (cs:= [_,_,_,_]) hS) ?_;rintro _ w ⟨g1,rfl,hS⟩
  replace hS:=hS.n1
  refine zs2 ?_
  refine zx5 ?_
  refine zlv (xls 0 YX hS) ?_
  refine zlc (xc0 RY) (Wv (p:=p) w (h.below hS.below)) ?_;rintro _ w ⟨rfl,hS'⟩
  replace hS:=hS.cmp hS';clear hS'
  refine zs2 ?_
  refine zlb 12 ?_ ?_<;>intro hc
  ·
   iterate 6 refine zlo ?_
   refine zlv xpt ?_
   refine zlt<|zct<|zsr ?_
   refine zs2 ?_
   refine zx14<|zf2 ⟨_,rfl,?_⟩
   exact⟨_,False,by rw [ZJ not_false],⟨fun hh=>hh.elim,fun hf=>by
     first
     |exact absurd hf.ok ‹¬p.Ok›
     |(have:=hf.eq;omega)
     |(have h8:=Z4 hf h0 (by omega);rw [<-show p.stock+p.kerf-ZO p f i.toNat=l by omega] at*;omega)
     |(have h8:=Z4 hf h0 (by omega);omega)⟩,hS.nl⟩
  refine zlv xmv ?_
  refine zlv (xln sl_22 hA.slh) ?_
  refine zlv (xfb 0 fd_39_0) ?_
  refine zlv (xlb 0 pl_22 hS) ?_
  refine zlv (xln sl_22 h.L.slh) ?_
  refine zs2 ?_
  refine zlt ?_
  refine zcif ?_ ?_<;>intro hc
  ·
   refine zsr ?_
   refine zs2 ?_
   refine zx14<|zf2 ⟨_,rfl,?_⟩
   exact⟨_,False,by rw [ZJ not_false],⟨fun hh=>hh.elim,fun hf=>by
     first
     |exact absurd hf.ok ‹¬p.Ok›
     |(have:=hf.eq;omega)
     |(have h8:=Z4 hf h0 (by omega);rw [<-show p.stock+p.kerf-ZO p f i.toNat=l by omega] at*;omega)
     |(have h8:=Z4 hf h0 (by omega);omega)⟩,hS.nl⟩
  refine zsk<|ztn<|zsr ?_
  refine zlv (xfb 2 fd_39_2) ?_
  have hp:p.Ok:=by first|assumption|exact Classical.not_not.1 ‹_›
  have hnm:n=p.m:=by omega
  have hs1:=hp.s1;have hs2:=hp.s2;have hk1:=hp.k1;have hk2:=hp.k2
  refine zlv (xlb 0 pl_3 hS) ?_
  refine zlv (xfb 3 fd_39_3) ?_
  refine zlv (xlb 0 pl_3 hS) ?_
  refine zlv (xadd (r:=p.stock+p.kerf)) ?_
  refine zlv xas ?_
  refine zx5 ?_
  refine zlv xmv ?_
  refine zlv (xln sl_22 hA.slh) ?_
  refine zlv xmv ?_
  refine zx6<|zlp (fun mm M w=>∃(l:Int) (i:Int),mm=((n-i).toNat)/\(0<=i)/\(i<=n)/\(l=p.stock+p.kerf-ZO p f i.toNat)/\(0<=l)/\(l<=p.stock+p.kerf)/\(∀k,0<=k->k<i->0<=f k/\f k<=2000)/\M= [(2,.pointer (some ⟨g1,0,none⟩)),(6,.int .i64 l),(25,vA),(26,.int .i64 n),(27,.int .i64 i)]/\Sat w0 w [.blk g1 [vL,vD,.int .i64 p.stock,.int .i64 p.kerf]]) ⟨p.stock+p.kerf,0,rfl,(by omega),(by omega),?_,(by omega),(by omega),?_,rfl,hS⟩ ?_
  ·
   show _=_-0;omega
  ·
   intro k k0 k1;omega
  clear hS w
  rintro mm M w ⟨l,i,rfl,h0,h1,hl,hl0,hl1,hall,rfl,hS⟩
  refine zsr ?_
  refine zlv Zk ?_
  refine zlt<|zsq ?_
  refine zcif ?_ ?_<;>intro hc
  ·
   refine zx3 ?_
   refine zlv xmv ?_
   have he:=hp.all i h0 (by omega);unfold Prob.each at he
   have hqd:=Yk (a:=l) (d:=p.L i+p.kerf) (A:=2100) (by omega) (by omega)
   refine zlv (xix (kk:=i) sl_22 hA.slh) ?_
   refine zlv (xlr (u:= .int .i64 (f i)) pl_3 (hA.below hS.below)) ?_
   refine zs2 ?_
   refine zx5 ?_
   refine zs3 ?_
   refine zlb 34 ?_ ?_<;>intro hc
   ·
    iterate 7 refine zlo ?_
    refine zlv xpt ?_
    refine zlt<|zct<|zsr ?_
    refine zs2 ?_
    refine zlt<|zrt<|ztr<|zbr<|ztr<|ztr<|zbr<|ztr<|zf2 ⟨_,rfl,?_⟩
    exact⟨_,False,by rw [ZJ not_false],⟨fun hh=>hh.elim,fun hf=>by
      first
      |exact absurd hf.ok ‹¬p.Ok›
      |(have:=hf.eq;omega)
      |(have h8:=Z4 hf h0 (by omega);rw [<-show p.stock+p.kerf-ZO p f i.toNat=l by omega] at*;omega)
      |(have h8:=Z4 hf h0 (by omega);omega)⟩,hS.nl⟩
   refine zs2 ?_
   refine zlv (xls 0 YX hS) ?_
   refine zlv xmv ?_
   refine zlc (xc0 R0) (R6 (p:=p) (i:=i) w (h.below hS.below) hp (by omega) (by omega)) ?_;rintro _ w ⟨rfl,hS'⟩
   replace hS:=hS.cmp hS';clear hS'
   refine zlv (UA (r:=(Int.tdiv l (p.L i+p.kerf)))) ?_
   refine zs2 ?_
   refine zlt ?_
   refine zcif ?_ ?_<;>intro hc
   ·
    refine zsr ?_
    refine zs2 ?_
    refine zlt<|zrt<|ztr<|zbr<|ztr<|ztr<|zbr<|ztr<|zf2 ⟨_,rfl,?_⟩
    exact⟨_,False,by rw [ZJ not_false],⟨fun hh=>hh.elim,fun hf=>by
      first
      |exact absurd hf.ok ‹¬p.Ok›
      |(have:=hf.eq;omega)
      |(have h8:=Z4 hf h0 (by omega);rw [<-show p.stock+p.kerf-ZO p f i.toNat=l by omega] at*;omega)
      |(have h8:=Z4 hf h0 (by omega);omega)⟩,hS.nl⟩
   refine zsk<|ztn<|zrg ?_
   refine zlv xmv ?_
   have hst:=TS hp h0 (by omega) hl0 hl1 (x:=f i) (by omega) (by omega)
   refine zlv xmv ?_
   refine zlv (xls 0 YX hS) ?_
   refine zlv xmv ?_
   refine zlc (xc0 R0) (R6 (p:=p) (i:=i) w (h.below hS.below) hp (by omega) (by omega)) ?_;rintro _ w ⟨rfl,hS'⟩
   replace hS:=hS.cmp hS';clear hS'
   refine zlv (Xp (r:=((f i)*(p.L i+p.kerf))) (e:=rfl)) ?_
   refine zlv (xsub (r:=l-((f i)*(p.L i+p.kerf)))) ?_
   refine zlv xas ?_
   refine zx10 ?_
   refine zlv (xadd (r:=i+1)) ?_
   refine zlv xmv ?_
   refine zln<|zlq ⟨l-((f i)*(p.L i+p.kerf)),i+1,rfl,(by omega),(by omega),?_,(by omega),(by omega),?_,rfl,hS⟩
   ·
    have h9:ZO p f (i+1).toNat=ZO p f i.toNat+f i*(p.L i+p.kerf):=ZP _ h0
    rw [h9];omega
   ·
    intro k h0' h1';rcases Int.lt_or_eq_of_le (show k<=i by omega) with hk|hk;exact hall k h0' hk;rw [hk];omega
  refine zx8 ?_
  refine zs3 ?_
  refine zx1<|zf2 ⟨_,rfl,?_⟩
  exact⟨_,True,by rw [YB trivial],⟨fun _=>⟨hp,by omega,fun k k0 k1=>(hall k k0 (by omega)),by rw [<-hnm,show n=i by omega];omega⟩,fun _=>trivial⟩,hS.nl⟩
set_option maxRecDepth 20000 in
theorem Zag{vL vD:Value}{p:Prob}{vA:Value}{n:Int}{f:Int->Int}(w0:World)(h:PAt w0 vL vD p)(hA:Row w0 vA 1 n (ints f)):
    Calls Try.prog 70 [.agg #[vL,vD,.int .i64 p.stock,.int .i64 p.kerf],vA].toArray w0 fun e w=>∃v,e= .returned v/\v=B (FitsP p n f)/\Sat w0 w []:=by
  refine Zn Try.func70 Try.ntmps70 fun w hS=> ?_
  refine zsr ?_
  refine zla (xbx (cs:= [_,_,_,_]) hS) ?_;rintro _ w ⟨g1,rfl,hS⟩
  replace hS:=hS.n1
  refine zlv xas ?_
  refine zlz ?_
  refine zlv (xls 0 YX hS) ?_
  refine zlv xmv ?_
  refine zlc (xc0 Zb8) (ZbD (p:=p) w (h.below hS.below) (hA.below hS.below)) ?_;rintro _ w ⟨rr1,okr1,rfl,hfrr1,hS'⟩
  replace hS:=hS.cmp hS';clear hS'
  refine zs5 ?_
  refine zlz ?_
  refine zs2 ?_
  refine zx1<|zf1 ⟨_,rfl,?_⟩
  exact⟨Zw hfrr1,hS.nl⟩
set_option maxRecDepth 20000 in
theorem T1{vL vD:Value}{p:Prob}{vA:Value}{n:Int}{f:Int->Int}(w0:World)(h:PAt w0 vL vD p)(hA:Row w0 vA 1 n (ints f)):
    Calls Try.prog 37 [.agg #[vL,vD,.int .i64 p.stock,.int .i64 p.kerf],vA].toArray w0 fun e w=>∃v,e= .returned v/\v=B (ZN p n f)/\Sat w0 w []:=by
  have hm:=h.L.slh.n0;have hm1:=h.L.slh.n1;have hd:=h.D.slh.n0;have hd1:=h.D.slh.n1;have hs:=h.is;have hk:=h.ik
  have hn:=hA.slh.n0;have hn1:=hA.slh.n1
  refine Zn Try.func37 Try.ntmps37 fun w hS=> ?_
  refine zsr ?_
  refine zla (xbx (cs:= [_,_,_,_]) hS) ?_;rintro _ w ⟨g1,rfl,hS⟩
  replace hS:=hS.n1
  refine zlv xas ?_
  refine zx5 ?_
  refine zlv (xls 0 YX hS) ?_
  refine zlv xmv ?_
  refine zlc (xc0 Zce) (Zag (p:=p) w (h.below hS.below) (hA.below hS.below)) ?_;rintro _ w ⟨rfl,hS'⟩
  replace hS:=hS.cmp hS';clear hS'
  refine zlv ZX ?_
  refine zlt ?_
  refine zcif ?_ ?_<;>intro hc
  ·
   refine zsr ?_
   refine zlv xas ?_
   refine zx14<|zf1 ⟨_,rfl,?_⟩
   exact⟨Zc (by intro hh;first|exact absurd hh.1 ‹_›|(have:=hh.2 i h0 (by omega);omega)),hS.nl⟩
  refine zsk<|ztn<|zsq<|zsr ?_
  refine zlv xmv ?_
  refine zlv (xln sl_22 hA.slh) ?_
  refine zlv xmv ?_
  refine zx6 ?_
  have hfit:FitsP p n f:=by first|assumption|exact Classical.not_not.1 ‹_›
  have hfe:=hfit.eq;have hfd:=hfit.ok.d
  refine zlp (fun mm M w=>∃(i:Int),mm=((n-i).toNat)/\(0<=i)/\(i<=n)/\(∀k,0<=k->k<i->f k<=p.D k)/\M= [(2,.pointer (some ⟨g1,0,none⟩)),(11,vA),(12,.int .i64 n),(13,.int .i64 i)]/\Sat w0 w [.blk g1 [vL,vD,.int .i64 p.stock,.int .i64 p.kerf]]) ⟨0,rfl,(by omega),(by omega),?_,rfl,hS⟩ ?_
  ·
   intro k k0 k1;omega
  clear hS w
  rintro mm M w ⟨i,rfl,h0,h1,hall,rfl,hS⟩
  refine zsr ?_
  refine zlv Zk ?_
  refine zlt<|zsq ?_
  refine zcif ?_ ?_<;>intro hc
  ·
   refine zx3 ?_
   refine zlv xmv ?_
   refine zlv (xix (kk:=i) sl_22 hA.slh) ?_
   refine zlv (xlr (u:= .int .i64 (f i)) pl_3 (hA.below hS.below)) ?_
   refine zs2 ?_
   refine zlz ?_
   refine zlv xmv ?_
   refine zlv (xfb 1 fd_39_1) ?_
   refine zlv (xlb 0 pl_22 hS) ?_
   refine zlv xmv ?_
   refine zlv (xix (kk:=i) sl_22 h.D.slh) ?_
   refine zlv (xlr (u:= .int .i64 (p.D i)) pl_3 (h.D.below hS.below)) ?_
   have hbv:=h.iD i
   refine zlv xgtr ?_
   refine zlt ?_
   refine zcif ?_ ?_<;>intro hc
   ·
    refine zsr ?_
    refine zlv xas ?_
    refine zx2<|zf1 ⟨_,rfl,?_⟩
    exact⟨Zc (by intro hh;first|exact absurd hh.1 ‹_›|(have:=hh.2 i h0 (by omega);omega)),hS.nl⟩
   refine zx4 ?_
   refine zlv (xadd (r:=i+1)) ?_
   refine zlv xmv ?_
   refine zln<|zlq ⟨i+1,rfl,(by omega),(by omega),?_,rfl,hS⟩
   ·
    intro k h0' h1';rcases Int.lt_or_eq_of_le (show k<=i by omega) with hk|hk;exact hall k h0' hk;rw [hk];omega
  refine zx8 ?_
  refine zlv xas ?_
  refine zx1<|zf1 ⟨_,rfl,?_⟩
  exact⟨ZW (by exact⟨hfit,fun k k0 k1=>hall k k0 (by omega)⟩),hS.nl⟩
end Go.Proofs.Ytopmifmfecfaaaa
