import Derived.Test.YtopmifmfecfaaaaGreatRpAA
set_option linter.unusedVariables false
set_option linter.unusedSimpArgs false
set_option maxRecDepth 20000
set_option maxHeartbeats 4000000
namespace Go.Proofs.YtopmifmfecfaaaaGreat
open Go Go.RowKit Go.Proofs.Gw
variable {m n q:Int} {ln:Int->Int} {vv:Int->Value} {t:Tb} {v vB vC vF:Value}
theorem Tn:Zc Tryz.prog 104=true:=by kernel_rfl
theorem Za9:Zc Tryz.prog 117=true:=by kernel_rfl
theorem Za6:Zc Tryz.prog 154=true:=by kernel_rfl
theorem R2:Zc Tryz.prog 184=true:=by kernel_rfl
theorem ZhN:Zc Tryz.prog 185=true:=by kernel_rfl
theorem Zd8:Zc Tryz.prog 186=true:=by kernel_rfl
theorem R1:Zc Tryz.prog 187=true:=by kernel_rfl
theorem R0:Zc Tryz.prog 188=true:=by kernel_rfl
theorem ZhL:Zc Tryz.prog 190=true:=by kernel_rfl
theorem ZhK:Zc Tryz.prog 191=true:=by kernel_rfl
theorem ZhJ:Zc Tryz.prog 192=true:=by kernel_rfl
theorem ZhI:Zc Tryz.prog 193=true:=by kernel_rfl
theorem ZhH:Zc Tryz.prog 194=true:=by kernel_rfl
theorem ZhG:Zc Tryz.prog 196=true:=by kernel_rfl
theorem ZhF:Zc Tryz.prog 197=true:=by kernel_rfl
theorem ZhE:Zc Tryz.prog 199=true:=by kernel_rfl
theorem ZhD:Zc Tryz.prog 200=true:=by kernel_rfl
theorem cl_70:Zc Tryz.prog 70=true:=by kernel_rfl
theorem Zap:Zc Tryz.prog 95=true:=by kernel_rfl
theorem Xg:Z0 Tryz.prog 204=some (.agg #[.int .i64 0,.int .i64 0,.slice none 0 0,.slice none 0 0,.slice none 0 0],5,88):=by kernel_rfl
theorem Ya:Z0 Tryz.prog 22=some (.slice none 0 0,1,24):=by kernel_rfl
theorem Zn:Z0 Tryz.prog 3=some (.int .i64 0,1,8):=by kernel_rfl
theorem fd_204_0:Zz Tryz.prog 204 0=some 0:=by kernel_rfl
theorem fd_204_1:Zz Tryz.prog 204 1=some 1:=by kernel_rfl
theorem fd_204_2:Zz Tryz.prog 204 2=some 2:=by kernel_rfl
theorem fd_204_3:Zz Tryz.prog 204 3=some 3:=by kernel_rfl
theorem fd_204_4:Zz Tryz.prog 204 4=some 4:=by kernel_rfl
theorem mx_:Tryz.prog.follows .mixedOrders=true:=by kernel_rfl
theorem pl_22:Z6 Tryz.prog 22=true:=by kernel_rfl
theorem Zu:Z6 Tryz.prog 27=true:=by kernel_rfl
theorem pl_3:Z6 Tryz.prog 3=true:=by kernel_rfl
theorem Zb:ZJ Tryz.prog 22=some (3,1):=by kernel_rfl
theorem Zi:ZJ Tryz.prog 27=some (22,1):=by kernel_rfl
theorem Zy:ZF Tryz.prog 204=some 5:=by kernel_rfl
theorem Zi8{x:Int}{a1:Addr}(w0:World)(hp1:w0.cell? a1=some (.int .i64 m))(hm:0<=m/\m<=1099511627776):
    Calls Tryz.prog 190 [.int .i64 x,.pointer (some a1)].toArray w0 fun e w=>∃v,e= .returned v/\v=B (¬(-m<=x/\x<=m))/\Sat w0 w []:=by
  refine Zm Tryz.func190 Tryz.ntmps190 fun w hS=> ?_
  refine zsr<|(zP)<|zlz<|(zP)<|(zV (xlf pl_3 hp1 hS))<|(zV (ZaG (r:= -m)))<|(zP)<|(zP)<|zlb 8 ?_ ?_<;>intro hc
  ·
   iterate 3 refine zlo ?_
   refine(zP)<|(zP)<|zx1<|zf1 ⟨_,rfl,?_⟩
   exact⟨ZU (by omega),hS⟩
  refine(zP)<|(zV (xlf pl_3 hp1 hS))<|(zP)<|(zP)<|(zP)<|zx1<|zf1 ⟨_,rfl,?_⟩
  exact⟨ZA (by omega),hS⟩
theorem Zgf{f:Int->Int}{a1:Addr}(w0:World)(hR:Row w0 v 1 n (ints f))(hp1:w0.cell? a1=some (.int .i64 m))(hm:0<=m/\m<=1099511627776):
    Calls Tryz.prog 95 [v,.func (.func 190) #[] #[.pointer (some a1)]].toArray w0 fun e w=>∃v,e= .returned v/\∃r:Int,v= .int .i64 r/\((r= -1/\∀k,0<=k->k<n->¬(¬(-m<=f k/\f k<=m)))\/(0<=r/\r<n/\(¬(-m<=f r/\f r<=m))))/\Sat w0 w []:=by
  have hn:=hR.slh.n0;have hn1:=hR.slh.n1
  refine Zm Tryz.func95 Tryz.ntmps95 fun w hS=> ?_
  refine zsr<|(zP)<|zx5<|(zP)<|(zV (xln Zb hR.slh))<|(zP)<|zx6<|zlp (fun mm M w=>∃(i:Int),mm=((n-i).toNat)/\(0<=i)/\(i<=n)/\(∀k,0<=k->k<i->¬(¬(-m<=f k/\f k<=m)))/\M= [(0,v),(1,.func (.func 190) #[] #[.pointer (some a1)]),(7,.int .i64 n),(8,.int .i64 i)]/\Sat w0 w []) ⟨0,rfl,(by omega),(by omega),?_,rfl,hS⟩ ?_
  ·
   intro k h0 h1;omega
  clear hS w
  rintro mm M w ⟨i,rfl,h0,h1,qa,rfl,hS⟩
  refine zsr<|(zP)<|zx7<|Ze ?_ ?_<;>intro hc
  ·
   refine zx3<|(zP)<|(zP)<|zlz<|(zP)<|(zP)<|(zP)<|(zV (xix (kk:=i) Zb hR.slh))<|(zV (xlr (u:= .int .i64 (f i)) pl_3 (hR.below hS.below)))<|zlc (xcc (vs:= [_]) ZhL) (Zi8 (x:=(f i)) (m:=m) w (hS.ref hp1) hm) ?_;rintro _ w ⟨rfl,hS'⟩
   replace hS:=hS.cmp hS';clear hS'
   refine zlt<|Ze ?_ ?_<;>intro hc
   ·
    refine zsr<|(zP)<|(zP)<|zx2<|zf1 ⟨_,rfl,?_⟩
    exact⟨i,rfl,.inr ⟨by omega,by omega,‹¬(-m<=f i/\f i<=m)›⟩,hS⟩
   refine zx4<|(zV (Zf (r:=i+1)))<|(zP)<|zln<|zlq ⟨i+1,rfl,(by omega),(by omega),?_,rfl,hS⟩
   ·
    intro k h0' h1';rcases Int.lt_or_eq_of_le (show k<=i by omega) with hk|hk;exact qa k h0' hk;rw [hk];assumption
  refine zx8<|(zP)<|zx1<|zf1 ⟨_,rfl,?_⟩
  exact⟨-1,rfl,.inl ⟨rfl,fun k h0 h1=>qa k h0 (by omega)⟩,hS⟩
theorem Zgl{f:Int->Int}{a1:Addr}(w0:World)(hR:Row w0 v 1 n (ints f))(hp1:w0.cell? a1=some (.int .i64 m))(hm:0<=m/\m<=1099511627776):
    Calls Tryz.prog 104 [v,.func (.func 190) #[] #[.pointer (some a1)]].toArray w0 fun e w=>∃v,e= .returned v/\v=B (∃k,0<=k/\k<n/\(¬(-m<=f k/\f k<=m)))/\Sat w0 w []:=by
  refine Zm Tryz.func104 Tryz.ntmps104 fun w hS=> ?_
  refine zsr<|(zP)<|zlz<|(zP)<|(zP)<|zlc (xc0 Zap) (Zgf w (hR.below hS.below) (hS.ref hp1) hm) ?_;rintro _ w ⟨r1,rfl,hr1,hS'⟩
  replace hS:=hS.cmp hS';clear hS'
  refine(zP)<|(zP)<|zx1<|zf1 ⟨_,rfl,?_⟩
  exact⟨ZA (by
   rcases hr1 with⟨h1,h2⟩|⟨h1,h2,h3⟩
   · exact⟨fun h=>by omega,fun⟨k,h4,h5,h6⟩=>absurd h6 (h2 k h4 h5)⟩
   · exact⟨fun _=>⟨_,h1,h2,h3⟩,fun _=>h1⟩),hS⟩
theorem WV{f:Int->Int}(w0:World)(hR:Row w0 v 1 n (ints f))(hm:0<=m/\m<=1099511627776):
    Calls Tryz.prog 184 [v,.int .i64 m].toArray w0 fun e w=>∃v,e= .returned v/\v=B (Btw f n m)/\Sat w0 w []:=by
  refine Zm Tryz.func184 Tryz.ntmps184 fun w hS=> ?_
  refine zsr<|zla (xbx (cs:= [_]) hS) ?_;rintro _ w ⟨g1,rfl,hS⟩
  refine(zP)<|zlz<|(zP)<|(zV xmf)<|zlc (xc0 Tn) (Zgl (m:=m) w (hR.below hS.below) (hS.cellN 0 rfl rfl) hm) ?_;rintro _ w ⟨rfl,hS'⟩
  replace hS:=hS.cmp hS';clear hS'
  refine(zP)<|(zP)<|zx1<|zf1 ⟨_,rfl,?_⟩
  exact⟨ZA ⟨fun h k k0 k1=>Classical.not_not.1 fun hh=>h ⟨k,k0,k1,hh⟩,fun h ⟨k,k0,k1,hh⟩=>hh (h k k0 k1)⟩,hS.nl⟩
theorem ZgQ{f:Int->Int}(w0:World)(hR:Row w0 v 1 n (ints f))(hn:1<=n):
    Calls Tryz.prog 186 [v].toArray w0 fun e w=>∃v,e= .returned v/\∃x:Int,v= .int .i64 x/\(∃k,0<=k/\k<n/\f k=x)/\(∀k,0<=k->k<n->x<=f k)/\Sat w0 w []:=by
  have hn1:=hR.slh.n1
  refine Zm Tryz.func186 Tryz.ntmps186 fun w hS=> ?_
  refine zsr<|(zP)<|zx5<|(zP)<|(zV (xln Zb hR.slh))<|(zV (xkf ZZ))<|zlt<|zcf<|zsk<|ztn<|zsr ?_
  refine(zP)<|(zV (xix (kk:=0) Zb hR.slh))<|(zV (xlr (u:= .int .i64 (f 0)) pl_3 (hR.below hS.below)))<|(zP)<|zx5<|(zP)<|zx6<|zlp (fun mm M w=>∃(x:Int) (i:Int),mm=((n-i).toNat)/\(1<=i)/\(i<=n)/\(∃k,0<=k/\k<n/\f k=x)/\(∀k,0<=k->k<i->x<=f k)/\M= [(0,v),(2,.int .i64 0),(3,.int .i64 x),(4,.int .i64 i)]/\Sat w0 w []) ⟨(f 0),1,rfl,(by omega),(by omega),?_,?_,rfl,hS⟩ ?_
  ·
   exact⟨0,by omega,by omega,rfl⟩
  ·
   intro k k0 k1;rw [show k=0 by omega];exact Int.le_refl _
  clear hS w
  rintro mm M w ⟨x,i,rfl,h0,h1,hex,qa,rfl,hS⟩
  refine zx11<|(zP)<|(zP)<|(zV (xln Zb hR.slh))<|(zP)<|zlt<|Ze ?_ ?_<;>intro hc
  ·
   refine zsk<|ztn<|zsq<|zbk<|zrg<|(zP)<|(zP)<|(zP)<|(zV (xix (kk:=i) Zb hR.slh))<|(zV (xlr (u:= .int .i64 (f i)) pl_3 (hR.below hS.below)))<|(zV (ZaH (r:=(min x (f i)))))<|(zP)<|zx10<|(zP)<|(zV (Zf (r:=i+1)))<|(zP)<|zln<|zlq ⟨(min x (f i)),i+1,rfl,(by omega),(by omega),?_,?_,rfl,hS⟩
   ·
    rcases Int.le_total x (f i) with hh|hh
    · first|(rw [Int.min_eq_left hh];exact hex)|(rw [Int.min_eq_right hh];exact⟨i,by omega,by omega,rfl⟩)
    · first|(rw [Int.min_eq_right hh];exact⟨i,by omega,by omega,rfl⟩)|(rw [Int.min_eq_left hh];exact hex)
   ·
    intro k k0 k1;rcases Int.lt_or_eq_of_le (show k<=i by omega) with hk|hk
    · have:=qa k k0 hk;omega
    · rw [hk];omega
  refine zx8<|(zP)<|(zP)<|zx1<|zf1 ⟨_,rfl,?_⟩
  exact⟨_,rfl,hex,fun k k0 k1=>qa k k0 (by omega),hS⟩
theorem ZeN{f:Int->Int}(w0:World)(hR:Row w0 v 1 n (ints f))(hn:1<=n):
    Calls Tryz.prog 120 [v].toArray w0 fun e w=>∃v,e= .returned v/\∃x:Int,v= .int .i64 x/\(∃k,0<=k/\k<n/\f k=x)/\(∀k,0<=k->k<n->f k<=x)/\Sat w0 w []:=by
  have hn1:=hR.slh.n1
  refine Zm Tryz.func120 Tryz.ntmps120 fun w hS=> ?_
  refine zsr<|(zP)<|zx5<|(zP)<|(zV (xln Zb hR.slh))<|(zV (xkf ZZ))<|zlt<|zcf<|zsk<|ztn<|zsr ?_
  refine(zP)<|(zV (xix (kk:=0) Zb hR.slh))<|(zV (xlr (u:= .int .i64 (f 0)) pl_3 (hR.below hS.below)))<|(zP)<|zx5<|(zP)<|zx6<|zlp (fun mm M w=>∃(x:Int) (i:Int),mm=((n-i).toNat)/\(1<=i)/\(i<=n)/\(∃k,0<=k/\k<n/\f k=x)/\(∀k,0<=k->k<i->f k<=x)/\M= [(0,v),(2,.int .i64 0),(3,.int .i64 x),(4,.int .i64 i)]/\Sat w0 w []) ⟨(f 0),1,rfl,(by omega),(by omega),?_,?_,rfl,hS⟩ ?_
  ·
   exact⟨0,by omega,by omega,rfl⟩
  ·
   intro k k0 k1;rw [show k=0 by omega];exact Int.le_refl _
  clear hS w
  rintro mm M w ⟨x,i,rfl,h0,h1,hex,qa,rfl,hS⟩
  refine zx11<|(zP)<|(zP)<|(zV (xln Zb hR.slh))<|(zP)<|zlt<|Ze ?_ ?_<;>intro hc
  ·
   refine zsk<|ztn<|zsq<|zbk<|zrg<|(zP)<|(zP)<|(zP)<|(zV (xix (kk:=i) Zb hR.slh))<|(zV (xlr (u:= .int .i64 (f i)) pl_3 (hR.below hS.below)))<|(zV (ZaI (r:=(max x (f i)))))<|(zP)<|zx10<|(zP)<|(zV (Zf (r:=i+1)))<|(zP)<|zln<|zlq ⟨(max x (f i)),i+1,rfl,(by omega),(by omega),?_,?_,rfl,hS⟩
   ·
    rcases Int.le_total x (f i) with hh|hh
    · first|(rw [Int.max_eq_left hh];exact hex)|(rw [Int.max_eq_right hh];exact⟨i,by omega,by omega,rfl⟩)
    · first|(rw [Int.max_eq_right hh];exact⟨i,by omega,by omega,rfl⟩)|(rw [Int.max_eq_left hh];exact hex)
   ·
    intro k k0 k1;rcases Int.lt_or_eq_of_le (show k<=i by omega) with hk|hk
    · have:=qa k k0 hk;omega
    · rw [hk];omega
  refine zx8<|(zP)<|(zP)<|zx1<|zf1 ⟨_,rfl,?_⟩
  exact⟨_,rfl,hex,fun k k0 k1=>qa k k0 (by omega),hS⟩
theorem WB{lo hi:Int}{f:Int->Int}(w0:World)(hR:Row w0 v 1 n (ints f)):
    Calls Tryz.prog 175 [v,.int .i64 lo,.int .i64 hi].toArray w0 fun e w=>∃v,e= .returned v/\v=B (∀k,0<=k->k<n->lo<=f k/\f k<=hi)/\Sat w0 w []:=by
  have hn:=hR.slh.n0;have hn1:=hR.slh.n1
  refine Zm Tryz.func175 Tryz.ntmps175 fun w hS=> ?_
  refine zsr<|(zP)<|zx5<|(zP)<|zx6<|zlp (fun mm M w=>∃(i:Int),mm=((n-i).toNat)/\(0<=i)/\(i<=n)/\(∀k,0<=k->k<i->lo<=f k/\f k<=hi)/\M= [(0,v),(1,.int .i64 lo),(2,.int .i64 hi),(7,.int .i64 i)]/\Sat w0 w []) ⟨0,rfl,(by omega),(by omega),?_,rfl,hS⟩ ?_
  ·
   intro k h0 h1;omega
  clear hS w
  rintro mm M w ⟨i,rfl,h0,h1,qa,rfl,hS⟩
  refine zx11<|(zP)<|(zP)<|(zV (xln Zb hR.slh))<|(zP)<|zlt<|Ze ?_ ?_<;>intro hc
  ·
   refine zx3<|(zP)<|(zP)<|(zV (xix (kk:=i) Zb hR.slh))<|(zV (xlr (u:= .int .i64 (f i)) pl_3 (hR.below hS.below)))<|(zP)<|(zP)<|(zP)<|zlb 20 ?_ ?_<;>intro hc
   ·
    iterate 6 refine zlo ?_
    refine(zP)<|zlt<|zct<|zsr ?_
    refine(zP)<|zx2<|zf1 ⟨_,rfl,?_⟩
    exact⟨false_B (by intro hh;have:=hh i (by omega) (by omega);omega),hS⟩
   refine(zP)<|(zP)<|(zV (xix (kk:=i) Zb hR.slh))<|(zV (xlr (u:= .int .i64 (f i)) pl_3 (hR.below hS.below)))<|(zP)<|(zP)<|(zP)<|zlt<|Ze ?_ ?_<;>intro hc
   ·
    refine zsr<|(zP)<|zx2<|zf1 ⟨_,rfl,?_⟩
    exact⟨false_B (by intro hh;have:=hh i (by omega) (by omega);omega),hS⟩
   refine zx4<|(zP)<|(zV (Zf (r:=i+1)))<|(zP)<|zln<|zlq ⟨i+1,rfl,(by omega),(by omega),?_,rfl,hS⟩
   ·
    intro k h0' h1';rcases Int.lt_or_eq_of_le (show k<=i by omega) with hk|hk;exact qa k h0' hk;rw [hk];omega
  refine zx8<|(zP)<|zx1<|zf1 ⟨_,rfl,?_⟩
  exact⟨ZU (by exact fun k k0 k1=>qa k k0 (by omega)),hS⟩
theorem c_clone {f:Int->Int} (w0:World) (hR:Row w0 v 1 n (ints f)) (hn:n<=1000000):Calls Tryz.prog 70 [v].toArray w0 fun e w=>∃u,e= .returned u/\∃r,u=r/\Slh r n/\Sat w0 w [.own r 1 3 n (ints f)]:=by
  have hn0:=hR.slh.n0
  have hl:=ZP f n
  have fin:∀{r:Value} {w:World} {xs:List Value},w.ownsRow w0.heap.size 3 1 r n.toNat xs->xs=cellsOf (ints f) n.toNat->Below w0.heap.size w0 w->Slh r n/\Sat w0 w [.own r 1 3 n (ints f)]:=fun {r w xs} qO hxs hB=>by
    subst hxs
    have hE:(Ent.own r 1 3 n (ints f)).holds w:=Ent.holds.of_owns hn0 (by omega) (by rw [Nat.mul_one];exact qO)
    exact⟨hE.row.slh,hB,fun e he=>by obtain rfl:=List.mem_singleton.1 he;exact hE,fun e he g hg=>by obtain rfl:=List.mem_singleton.1 he;exact(qO.lt g hg).1,List.pairwise_singleton _ _⟩
  obtain⟨_,_,a,cap,rfl,h⟩:=hR.slh
  cases a with
  | none=>
    have h0:n=0:=by rcases h with h|⟨_,_,h⟩;exact h;cases h
    subst h0
    refine(slices_Clone_int_nil 0 cap w0).mono fun e w ⟨he,hw⟩=>⟨_,he,_,rfl,slh_nil,?_⟩
    rw [hw]
    exact(Sat.start w0).addnil 1 3 (ints f)
  | some ad=>
    rcases h with h|⟨b,off,h⟩
    · subst h
      refine(slices_Clone_int_zero ad cap w0).mono fun e w ⟨r,he,qO,_,hB⟩=>⟨r,he,r,rfl,?_⟩
      exact fin qO rfl hB
    · cases h
      refine(slices_Clone_int b off n.toNat cap (Zq f n) w0 (by omega) (by omega) (fun j hj=> ?_)).mono fun e w ⟨r,he,qO,_,hB⟩=>⟨r,he,r,rfl,fin qO ?_ hB⟩
      · have:=hR.2 j (by omega)
        simp only [cad,Int.toNat_natCast] at this
        rw [this]
        rw [hl] at hj
        simp [ints,Zq,hj]
      · rw [List.take_of_length_le (by omega),V1];rfl
theorem Zi0(w0:World)(h0:0<=n)(h1:n<=1000000):
    Calls Tryz.prog 199 [.slice none 0 0,.int .i64 n].toArray w0 fun e w=>∃v,e= .returned v/\∃r,v=r/\Slh r 0/\Sat w0 w [.own r 1 3 0 (ints (fun _=>0))]:=by
  refine Zm Tryz.func199 Tryz.ntmps199 fun w hS=> ?_
  refine zsr<|(zP)<|zx5<|(zP)<|(zV (xkf ZZ))<|zlt<|zcf<|zsk<|ztn<|zsq<|zsr ?_
  refine(zP)<|(zP)<|Tx rfl rfl rfl (Wn rfl Zb rfl) ?_
  refine(zP)<|(zV (xln Zb slh_nil))<|(zV (ZD (r:=0)))<|(zV (ZD (r:=n)))<|(zP)<|zlz<|(zP)<|(zP)<|zlt<|Ze ?_ ?_<;>intro hc
  ·
   refine zrg<|(zP)<|(zP)<|Tx rfl rfl rfl (Wn rfl Zb rfl) ?_
   refine(zV (xany (v:= .slice none 0 0)))<|(zP)<|ZcX rfl rfl rfl (Td rfl Zb Tryz.underlying3 Zn rfl (by omega) rfl rfl (by omega) (by omega) hS) ?_;rintro v1 w ⟨hS,hv1⟩
   refine(zP)<|(zV (xln Zb slh_nil))<|Tx rfl rfl rfl (VE rfl Zb rfl rfl hv1) ?_
   replace hS:=hS.cut 0 rfl (ints (fun _=>0))
   refine(zP)<|zlz<|(zP)<|(zP)<|zx1<|zf1 ⟨_,rfl,?_⟩
   exact⟨_,rfl,(ZbX hv1),hS⟩
  refine Z7<|(zP)<|(zP)<|zx1<|zf1 ⟨_,rfl,?_⟩
  exact⟨_,rfl,slh_nil,(hS.addnil 1 3 (ints fun _=>0)).sub (.cons_cons _ .slnil)⟩
theorem ZeX{f:Int->Int->Int}(w0:World)(hM:NAt w0 v n vv ln f)(ht:∀k,0<=k->k<=n->tot ln k.toNat<=100000):
    Calls Tryz.prog 193 [v].toArray w0 fun e w=>∃v,e= .returned v/\∃r,v=r/\Slh r (tot ln n.toNat)/\Sat w0 w [.own r 1 3 (tot ln n.toNat) (ints (WY ln f n.toNat))]:=by
  have hn:=hM.row.slh.n0;have hn1:=hM.row.slh.n1
  refine Zm Tryz.func193 Tryz.ntmps193 fun w hS=> ?_
  refine zsr<|(zP)<|zlz<|(zP)<|zx5<|(zP)<|(zV (xln Zi hM.row.slh))<|(zP)<|zx6<|zlp (fun mm M w=>∃(s:Int) (i:Int),mm=((n-i).toNat)/\(0<=i)/\(i<=n)/\(s=tot ln i.toNat)/\(0<=s)/\M= [(0,v),(2,.slice none 0 0),(3,.int .i64 s),(9,v),(10,.int .i64 n),(11,.int .i64 i)]/\Sat w0 w []) ⟨0,0,rfl,(by omega),(by omega),?_,(by omega),rfl,hS⟩ ?_
  ·
   rfl
  clear hS w
  rintro mm M w ⟨s,i,rfl,h0,h1,hs,hs0,rfl,hS⟩
  refine zsr<|(zP)<|zx7<|Ze ?_ ?_<;>intro hc
  ·
   refine zx3<|(zV (xix (kk:=i) Zi hM.row.slh))<|zlv (xlr (u:=(vv i)) pl_22 (hM.row.below hS.below)) ?_
   have hl:=(hM.p i h0 (by omega)).slh.n0;have ht1:=ht (i+1) (by omega) (by omega);rw [Xj ln h0] at ht1
   refine(zP)<|zlz<|(zP)<|(zP)<|(zV (xln Zb (hM.p i (by omega) (by omega)).slh))<|(zV (Zf (r:=s+(ln i))))<|(zP)<|zlz<|(zP)<|(zV (xkf ZZ))<|zlt<|zcf<|zsk<|zbn<|ztn<|zrg ?_
   refine(zV (Zf (r:=i+1)))<|(zP)<|zln<|zlq ⟨s+(ln i),i+1,rfl,(by omega),(by omega),?_,(by omega),rfl,hS⟩
   ·
    rw [Xj ln h0,hs]
  refine zx8<|zlv xmv ?_
  have hin:i=n:=by omega
  have ht2:=ht n hn (Int.le_refl _);rw [<-hin] at ht2
  refine zlc (xc0 ZhE) (Zi0 (n:=s) w (by omega) (by omega)) ?_;rintro vq1 w ⟨_,rfl,qc,hS'⟩
  replace hS:=(hS.comp hS').n1;clear hS'
  refine(zP)<|zx5<|(zP)<|(zV (xln Zi hM.row.slh))<|(zP)<|zx6<|zlp (fun mm M w=>∃(m:Int) (j:Int) (vb:Value) (g:Int->Int),mm=((n-j).toNat)/\(0<=j)/\(j<=n)/\(m=tot ln j.toNat)/\(0<=m)/\(g=WY ln f j.toNat)/\(Slh vb m)/\M= [(2,.slice none 0 0),(6,vb),(25,v),(26,.int .i64 n),(27,.int .i64 j)]/\Sat w0 w [.own vb 1 3 m (ints g)]) ⟨0,0,vq1,(fun _=>0),rfl,(by omega),(by omega),?_,(by omega),?_,?_,rfl,hS⟩ ?_
  ·
   rfl
  ·
   rfl
  ·
   exact qc
  clear hS w
  rintro mm M w ⟨m,j,vb,g,rfl,h0,h1,hm,hm0,hg,hvb,rfl,hS⟩
  refine zsr<|(zP)<|zx7<|Ze ?_ ?_<;>intro hc
  ·
   refine zx3<|(zV (xix (kk:=j) Zi hM.row.slh))<|zlv (xlr (u:=(vv j)) pl_22 (hM.row.below hS.below)) ?_
   have hl:=(hM.p j h0 (by omega)).slh.n0;have ht1:=ht (j+1) (by omega) (by omega);rw [Xj ln h0] at ht1
   refine(zP)<|zlt<|zrg<|(zP)<|(zP)<|zla (xap 0 (r:=m+(ln j)) (f:=ints (cat m g (f j))) Zb Zn hS ((hM.p j (by omega) (by omega)).below hS.below) (by exact Zp _ _ _)) ?_;rintro v1 w ⟨hS,hv1⟩
   refine(zP)<|zx10<|(zV (Zf (r:=j+1)))<|(zP)<|zln<|zlq ⟨m+(ln j),j+1,v1,(cat m g (f j)),rfl,(by omega),(by omega),?_,(by omega),?_,?_,rfl,hS⟩
   ·
    rw [Xj ln h0,hm]
   ·
    rw [catN_next ln f h0,<-hg,<-hm]
   ·
    exact hv1
  refine zx8<|(zP)<|(zP)<|zx1<|zf1 ⟨_,rfl,?_⟩
  obtain rfl:j=n:=by omega
  subst hg;subst hm
  exact⟨_,rfl,hvb,hS⟩
theorem Zep{vs:Value}(w0:World)(hsl:Slh vs n):
    Calls Tryz.prog 192 [vs].toArray w0 fun e w=>∃v,e= .returned v/\∃g,v= .func (.func 198) #[] #[.pointer (some ⟨g,0,none⟩)]/\Sat w0 w [.blk g [vs]]:=by
  refine Zm Tryz.func192 Tryz.ntmps192 fun w hS=> ?_
  refine zsr<|zla (xbx (cs:= [_]) hS (hc:=Slh.cells hsl)) ?_;rintro _ w ⟨g1,rfl,hS⟩
  refine(zP)<|zlz<|(zV xmf)<|(zP)<|zx1<|zf1 ⟨_,rfl,?_⟩
  exact⟨_,rfl,hS⟩
theorem ZcU{f:Int->Int}{Bs:Nat}{E:TypeId}(w0:World)(hcs:w0.cell? ⟨Bs,0,none⟩=some v)(ho:(Ent.own v 1 E n (ints f)).holds w0)(hn:n<=1000000):
    Calls Tryz.prog 196 [.func (.func 198) #[] #[.pointer (some (⟨Bs,0,none⟩))]].toArray w0 fun e w=>∃v,e= .returned v/\∃r,v=r/\Slh r n/\Sat w0 w [.own r 1 3 n (ints f)]:=by
  refine Zm Tryz.func196 Tryz.ntmps196 fun w hS=> ?_
  refine zsr<|(zP)<|zlz<|(zP)<|zlc (xc0 ZhD) (c_appendSeq (f:=f) w (hS.ref hcs) (hS.kept ho) hn) ?_;rintro vq1 w ⟨_,rfl,qc,hS'⟩
  replace hS:=(hS.comp hS').n1;clear hS'
  refine(zP)<|zx1<|zf1 ⟨_,rfl,?_⟩
  exact⟨_,rfl,qc,hS⟩
theorem Zew{f:Int->Int}{Bs:Nat}{E:TypeId}(w0:World)(hcs:w0.cell? ⟨Bs,0,none⟩=some v)(ho:(Ent.own v 1 E n (ints f)).holds w0)(hn:n<=1000000):
    Calls Tryz.prog 191 [.func (.func 198) #[] #[.pointer (some (⟨Bs,0,none⟩))]].toArray w0 fun e w=>∃v,e= .returned v/\∃r g,v=r/\Slh r n/\Zq g n=((Zq f n).mergeSort fun x y=>decide (x<=y))/\Sat w0 w [.own r 1 3 n (ints g)]:=by
  refine Zm Tryz.func191 Tryz.ntmps191 fun w hS=> ?_
  refine zsr<|(zP)<|zlz<|(zP)<|zlc (xc0 ZhG) (ZcU (f:=f) w (hS.ref hcs) (hS.kept ho) hn) ?_;rintro vq1 w ⟨_,rfl,qc,hS'⟩
  replace hS:=(hS.comp hS').n1;clear hS'
  refine(zP)<|zlz<|(zP)<|zlc (xc0 ZhF) (Zcn (fun p cap w=>slices_Sort_int_none p cap w) (fun blk off cap zs w=>slices_Sort_int blk off cap zs w) (l1:= []) (l2:= []) hS) ?_;rintro _ w ⟨rfl,sg1,cR,hS⟩
  refine zlz<|(zP)<|(zP)<|zx1<|zf1 ⟨_,rfl,?_⟩
  exact⟨_,_,rfl,qc,cR,hS⟩
theorem ZiK{f:Int->Int}{a1:Addr}(w0:World)(hR:Row w0 v 1 n (ints f))(hp1:w0.cell? a1=some (.int .i64 q))(hq:0<=q/\q<=100):
    Calls Tryz.prog 194 [v,.pointer (some a1)].toArray w0 fun e w=>∃v,e= .returned v/\v=B (¬(n=q+1/\Btw f n 1073741824))/\Sat w0 w []:=by
  have hn1:=hR.slh.n1
  refine Zm Tryz.func194 Tryz.ntmps194 fun w hS=> ?_
  refine zsr<|(zP)<|zlz<|(zP)<|(zV (xln Zb hR.slh))<|(zV (xlf pl_3 hp1 hS))<|(zV (Zf (r:=q+1)))<|(zP)<|(zP)<|zlb 9 ?_ ?_<;>intro hc
  ·
   iterate 3 refine zlo ?_
   refine(zP)<|(zP)<|zx1<|zf1 ⟨_,rfl,?_⟩
   exact⟨ZU (by omega),hS⟩
  refine(zP)<|zlc (xc0 R2) (WV (n:=n) (m:=1073741824) (f:=f) w (hR.below hS.below) (by omega)) ?_;rintro _ w ⟨rfl,hS'⟩
  replace hS:=hS.cmp hS';clear hS'
  refine(zP)<|(zP)<|(zP)<|zx1<|zf1 ⟨_,rfl,?_⟩
  exact⟨ZA (by exact⟨fun h hh=>h hh.2,fun h hh=>h ⟨by omega,hh⟩⟩),hS⟩
theorem ZiY{f:Int->Int->Int}{a1:Addr}(w0:World)(hM:MAt w0 v n vv ln f)(hp1:w0.cell? a1=some (.int .i64 q))(hq:0<=q/\q<=100):
    Calls Tryz.prog 154 [v,.func (.func 194) #[] #[.pointer (some a1)]].toArray w0 fun e w=>∃v,e= .returned v/\∃r:Int,v= .int .i64 r/\((r= -1/\∀k,0<=k->k<n->¬(¬((ln k)=q+1/\Btw (f k) (ln k) 1073741824)))\/(0<=r/\r<n/\(¬((ln r)=q+1/\Btw (f r) (ln r) 1073741824))))/\Sat w0 w []:=by
  have hn:=hM.row.slh.n0;have hn1:=hM.row.slh.n1
  refine Zm Tryz.func154 Tryz.ntmps154 fun w hS=> ?_
  refine zsr<|(zP)<|zx5<|(zP)<|(zV (xln Zi hM.row.slh))<|(zP)<|zx6<|zlp (fun mm M w=>∃(i:Int),mm=((n-i).toNat)/\(0<=i)/\(i<=n)/\(∀k,0<=k->k<i->¬(¬((ln k)=q+1/\Btw (f k) (ln k) 1073741824)))/\M= [(0,v),(1,.func (.func 194) #[] #[.pointer (some a1)]),(7,.int .i64 n),(8,.int .i64 i)]/\Sat w0 w []) ⟨0,rfl,(by omega),(by omega),?_,rfl,hS⟩ ?_
  ·
   intro k h0 h1;omega
  clear hS w
  rintro mm M w ⟨i,rfl,h0,h1,qa,rfl,hS⟩
  refine zsr<|(zP)<|zx7<|Ze ?_ ?_<;>intro hc
  ·
   refine zx3<|(zP)<|(zP)<|zlz<|(zP)<|(zP)<|(zP)<|(zV (xix (kk:=i) Zi hM.row.slh))<|(zV (xlr (u:=(vv i)) pl_22 (hM.row.below hS.below)))<|zlc (xcc (vs:= [_]) ZhH) (ZiK (n:=(ln i)) (q:=q) (f:=(f i)) w ((hM.p i (by omega) (by omega)).below hS.below) (hS.ref hp1) hq) ?_;rintro _ w ⟨rfl,hS'⟩
   replace hS:=hS.cmp hS';clear hS'
   refine zlt<|Ze ?_ ?_<;>intro hc
   ·
    refine zsr<|(zP)<|(zP)<|zx2<|zf1 ⟨_,rfl,?_⟩
    exact⟨i,rfl,.inr ⟨by omega,by omega,‹¬((ln i)=q+1/\Btw (f i) (ln i) 1073741824)›⟩,hS⟩
   refine zx4<|(zV (Zf (r:=i+1)))<|(zP)<|zln<|zlq ⟨i+1,rfl,(by omega),(by omega),?_,rfl,hS⟩
   ·
    intro k h0' h1';rcases Int.lt_or_eq_of_le (show k<=i by omega) with hk|hk;exact qa k h0' hk;rw [hk];assumption
  refine zx8<|(zP)<|zx1<|zf1 ⟨_,rfl,?_⟩
  exact⟨-1,rfl,.inl ⟨rfl,fun k h0 h1=>qa k h0 (by omega)⟩,hS⟩
theorem Zi5{f:Int->Int->Int}{a1:Addr}(w0:World)(hM:MAt w0 v n vv ln f)(hp1:w0.cell? a1=some (.int .i64 q))(hq:0<=q/\q<=100):
    Calls Tryz.prog 117 [v,.func (.func 194) #[] #[.pointer (some a1)]].toArray w0 fun e w=>∃v,e= .returned v/\v=B (∃k,0<=k/\k<n/\(¬((ln k)=q+1/\Btw (f k) (ln k) 1073741824)))/\Sat w0 w []:=by
  refine Zm Tryz.func117 Tryz.ntmps117 fun w hS=> ?_
  refine zsr<|(zP)<|zlz<|(zP)<|(zP)<|zlc (xc0 Za6) (ZiY w (hM.below hS.below) (hS.ref hp1) hq) ?_;rintro _ w ⟨r1,rfl,hr1,hS'⟩
  replace hS:=hS.cmp hS';clear hS'
  refine(zP)<|(zP)<|zx1<|zf1 ⟨_,rfl,?_⟩
  exact⟨ZA (by
   rcases hr1 with⟨h1,h2⟩|⟨h1,h2,h3⟩
   · exact⟨fun h=>by omega,fun⟨k,h4,h5,h6⟩=>absurd h6 (h2 k h4 h5)⟩
   · exact⟨fun _=>⟨_,h1,h2,h3⟩,fun _=>h1⟩),hS⟩
theorem ZiJ{f:Int->Int}{a1:Addr}(w0:World)(hR:Row w0 v 1 n (ints f))(hp1:w0.cell? a1=some (.int .i64 q))(hq:0<=q/\q<=100):
    Calls Tryz.prog 185 [v,.pointer (some a1)].toArray w0 fun e w=>∃v,e= .returned v/\v=B (¬(n=q/\Btw f n 1000000))/\Sat w0 w []:=by
  have hn1:=hR.slh.n1
  refine Zm Tryz.func185 Tryz.ntmps185 fun w hS=> ?_
  refine zsr<|(zP)<|zlz<|(zP)<|(zV (xln Zb hR.slh))<|(zV (xlf pl_3 hp1 hS))<|(zP)<|(zP)<|zlb 8 ?_ ?_<;>intro hc
  ·
   iterate 3 refine zlo ?_
   refine(zP)<|(zP)<|zx1<|zf1 ⟨_,rfl,?_⟩
   exact⟨ZU (by omega),hS⟩
  refine(zP)<|zlc (xc0 R2) (WV (n:=n) (m:=1000000) (f:=f) w (hR.below hS.below) (by omega)) ?_;rintro _ w ⟨rfl,hS'⟩
  replace hS:=hS.cmp hS';clear hS'
  refine(zP)<|(zP)<|(zP)<|zx1<|zf1 ⟨_,rfl,?_⟩
  exact⟨ZA (by exact⟨fun h hh=>h hh.2,fun h hh=>h ⟨by omega,hh⟩⟩),hS⟩
theorem ZiX{f:Int->Int->Int}{a1:Addr}(w0:World)(hM:MAt w0 v n vv ln f)(hp1:w0.cell? a1=some (.int .i64 q))(hq:0<=q/\q<=100):
    Calls Tryz.prog 154 [v,.func (.func 185) #[] #[.pointer (some a1)]].toArray w0 fun e w=>∃v,e= .returned v/\∃r:Int,v= .int .i64 r/\((r= -1/\∀k,0<=k->k<n->¬(¬((ln k)=q/\Btw (f k) (ln k) 1000000)))\/(0<=r/\r<n/\(¬((ln r)=q/\Btw (f r) (ln r) 1000000))))/\Sat w0 w []:=by
  have hn:=hM.row.slh.n0;have hn1:=hM.row.slh.n1
  refine Zm Tryz.func154 Tryz.ntmps154 fun w hS=> ?_
  refine zsr<|(zP)<|zx5<|(zP)<|(zV (xln Zi hM.row.slh))<|(zP)<|zx6<|zlp (fun mm M w=>∃(i:Int),mm=((n-i).toNat)/\(0<=i)/\(i<=n)/\(∀k,0<=k->k<i->¬(¬((ln k)=q/\Btw (f k) (ln k) 1000000)))/\M= [(0,v),(1,.func (.func 185) #[] #[.pointer (some a1)]),(7,.int .i64 n),(8,.int .i64 i)]/\Sat w0 w []) ⟨0,rfl,(by omega),(by omega),?_,rfl,hS⟩ ?_
  ·
   intro k h0 h1;omega
  clear hS w
  rintro mm M w ⟨i,rfl,h0,h1,qa,rfl,hS⟩
  refine zsr<|(zP)<|zx7<|Ze ?_ ?_<;>intro hc
  ·
   refine zx3<|(zP)<|(zP)<|zlz<|(zP)<|(zP)<|(zP)<|(zV (xix (kk:=i) Zi hM.row.slh))<|(zV (xlr (u:=(vv i)) pl_22 (hM.row.below hS.below)))<|zlc (xcc (vs:= [_]) ZhN) (ZiJ (n:=(ln i)) (q:=q) (f:=(f i)) w ((hM.p i (by omega) (by omega)).below hS.below) (hS.ref hp1) hq) ?_;rintro _ w ⟨rfl,hS'⟩
   replace hS:=hS.cmp hS';clear hS'
   refine zlt<|Ze ?_ ?_<;>intro hc
   ·
    refine zsr<|(zP)<|(zP)<|zx2<|zf1 ⟨_,rfl,?_⟩
    exact⟨i,rfl,.inr ⟨by omega,by omega,‹¬((ln i)=q/\Btw (f i) (ln i) 1000000)›⟩,hS⟩
   refine zx4<|(zV (Zf (r:=i+1)))<|(zP)<|zln<|zlq ⟨i+1,rfl,(by omega),(by omega),?_,rfl,hS⟩
   ·
    intro k h0' h1';rcases Int.lt_or_eq_of_le (show k<=i by omega) with hk|hk;exact qa k h0' hk;rw [hk];assumption
  refine zx8<|(zP)<|zx1<|zf1 ⟨_,rfl,?_⟩
  exact⟨-1,rfl,.inl ⟨rfl,fun k h0 h1=>qa k h0 (by omega)⟩,hS⟩
theorem Zi4{f:Int->Int->Int}{a1:Addr}(w0:World)(hM:MAt w0 v n vv ln f)(hp1:w0.cell? a1=some (.int .i64 q))(hq:0<=q/\q<=100):
    Calls Tryz.prog 117 [v,.func (.func 185) #[] #[.pointer (some a1)]].toArray w0 fun e w=>∃v,e= .returned v/\v=B (∃k,0<=k/\k<n/\(¬((ln k)=q/\Btw (f k) (ln k) 1000000)))/\Sat w0 w []:=by
  refine Zm Tryz.func117 Tryz.ntmps117 fun w hS=> ?_
  refine zsr<|(zP)<|zlz<|(zP)<|(zP)<|zlc (xc0 Za6) (ZiX w (hM.below hS.below) (hS.ref hp1) hq) ?_;rintro _ w ⟨r1,rfl,hr1,hS'⟩
  replace hS:=hS.cmp hS';clear hS'
  refine(zP)<|(zP)<|zx1<|zf1 ⟨_,rfl,?_⟩
  exact⟨ZA (by
   rcases hr1 with⟨h1,h2⟩|⟨h1,h2,h3⟩
   · exact⟨fun h=>by omega,fun⟨k,h4,h5,h6⟩=>absurd h6 (h2 k h4 h5)⟩
   · exact⟨fun _=>⟨_,h1,h2,h3⟩,fun _=>h1⟩),hS⟩
theorem VJ(w0:World)(hT:TAt w0 vB vF vC vv t):
    Calls Tryz.prog 187 [.agg #[.int .i64 t.vars,.int .i64 t.den,vB,vF,vC]].toArray w0 fun e w=>∃v,e= .returned v/\v=B (TPrp t)/\Sat w0 w []:=by
  have hn:=hT.F.slh.n0;have hn1:=hT.F.slh.n1;have hb:=hT.B.slh.n0;have hb1:=hT.B.slh.n1;have hc0:=hT.C.row.slh.n0;have hc1:=hT.C.row.slh.n1
  refine Zm Tryz.func187 Tryz.ntmps187 fun w hS=> ?_
  refine zsr<|zla (xbx (cs:= [_,_,_,_,_]) hS) ?_;rintro _ w ⟨g1,rfl,hS⟩
  refine(zP)<|zx7<|zdst [0] [0] 7 mx_ hS ?_;clear hS;intro w hS
  refine(zDw 0 (xfb 3 fd_204_3))<|(zDl 1 (fun w hS=>(xlb 0 pl_22 hS)))<|(zDw 2 (xln Zb hT.F.slh))<|(zDw 3 (xfb 2 fd_204_2))<|(zDl 4 (fun w hS=>(xlb 0 pl_22 hS)))<|(zDw 5 (xln Zb hT.B.slh))<|zda 6 (xal (cs:= [_]) Zn hS) ?_;rintro _ w ⟨g2,rfl,hS⟩
  refine⟨⟨fun _=>hS.pk [0],hS.pk [0]⟩,?_⟩
  refine zde 7 (xsb 1 pl_3 hS) ?_;clear hS;rintro w hS
  refine⟨⟨fun h=>absurd h (by decide),hS.pk [0]⟩,?_⟩
  refine(zDw 8 xas)<|zdd<|ztn<|zsq<|zsr ?_
  refine(zV (xlb 1 pl_3 hS))<|(zP)<|(zP)<|zlb 16 ?_ ?_<;>intro hc;rotate_left
  refine(zV (xlb 1 pl_3 hS))<|(zP)<|(zP)<|(zP)<|zlb 20 ?_ ?_<;>intro hc;rotate_left
  refine zs4 ?_
  refine zlb 24 ?_ ?_<;>intro hc;rotate_left
  refine(zV (xfb 0 fd_204_0))<|(zV (xlb 0 pl_3 hS))<|(zV (xlb 1 pl_3 hS))<|(zP)<|(zP)<|(zP)<|zlb 30 ?_ ?_<;>intro hc;rotate_left
  refine(zV (xfb 1 fd_204_1))<|(zV (xlb 0 pl_3 hS))<|(zP)<|(zP)<|(zP)<|zlb 35 ?_ ?_<;>intro hc;rotate_left
  refine(zV (xfb 1 fd_204_1))<|(zV (xlb 0 pl_3 hS))<|(zP)<|(zP)<|(zP)<|zlb 40 ?_ ?_<;>intro hc;rotate_left
  refine(zV (xfb 4 fd_204_4))<|(zV (xlb 0 Zu hS))<|(zV (xln Zi hT.C.row.slh))<|(zP)<|(zV (Zf (r:=t.nb+1)))<|(zP)<|(zP)<|zlt<|Ze ?_ ?_<;>intro hc
  ·
   refine zsr<|(zP)<|zx14<|zf1 ⟨_,rfl,?_⟩
   exact⟨false_B (by intro hp;have b1:=hp.n1;have b2:=hp.n2;have b3:=hp.m2;have b4:=hp.v;have b5:=hp.d1;have b6:=hp.d2;have b7:=hp.c;first|omega|(have hq1:=(XK (by omega) yY).2 (hp.perm.congr fun k k0 k1=>(Rf t.nf t.nb t.F t.B k0).symm) i (by omega) (by omega);omega)),hS.nl⟩
  refine Z7<|(zV (xfb 3 fd_204_3))<|(zV (xlb 0 pl_22 hS))<|(zV (xfb 2 fd_204_2))<|(zV (xlb 0 pl_22 hS))<|zla (xli (n:=2) (len:=2) (pv:= [(0,vF),(1,vB)]) (cs:= [vF,vB]) (c:=(Z9 vF vB)) Zi Ya hS (hf:=by obtain⟨_,_,_,_,rfl,_⟩:=hT.F.slh;obtain⟨_,_,_,_,rfl,_⟩:=hT.B.slh;kernel_rfl)) ?_;rintro v1 w ⟨hS,hv1⟩
  have hna:=Zkr (w:=w) (a:=vF) (b:=vB) (n:=t.nf) (m:=t.nb) (f:=t.F) (g:=t.B) (hS.rowN 2 rfl) (hT.F.below hS.below) (hT.B.below hS.below)
  have htt:∀k:Int,0<=k->k<=2->tot (Z9 t.nf t.nb) k.toNat<=100000:=fun k k0 k1=>by
    have:k=0\/k=1\/k=2:=by omega
    rcases this with rfl|rfl|rfl
    · simp [tot]
    · simp [tot,Z9];omega
    · have e2:=Zfb t.nf t.nb;rw [show(2:Int).toNat=2 from rfl,e2];omega
  refine zlc (xc0 ZhI) (ZeX w hna htt) ?_;rintro vq1 w ⟨_,rfl,qc,hS'⟩
  rw [show(2:Int).toNat=2 from rfl,Zfb] at qc hS'
  replace hS:Sat w0 w [.blk g1 [.int .i64 t.vars,.int .i64 t.den,vB,vF,vC],.blk g2 [.int .i64 t.nf],.own v1 1 22 2 (Z9 vF vB),.own vq1 1 3 (t.nf+t.nb) (ints (WY (Z9 t.nf t.nb) (Z9 t.F t.B) 2))]:=hS.comp hS'
  clear hS'
  refine zlc (xc0 ZhJ) (Zep (n:=(t.nf+t.nb)) w qc) ?_;rintro _ w ⟨gv1,rfl,hS'⟩
  replace hS:=(hS.comp hS').n5;clear hS'
  refine zlc (xc0 ZhK) (Zew (n:=(t.nf+t.nb)) (f:=(WY (Z9 t.nf t.nb) (Z9 t.F t.B) 2)) w (hS.cellN 4 rfl rfl) (hS.holds _ (List.mem_of_getElem? (i:=3) rfl)) (by omega)) ?_;rintro vq2 w ⟨_,cD,rfl,qr,yY,hS'⟩
  replace hS:=(hS.comp hS').n6;clear hS'
  refine(zP)<|zx5<|(zP)<|(zV (xln Zb qr))<|(zP)<|zx6<|zlp (fun mm M w=>∃(i:Int),mm=((t.nf+t.nb-i).toNat)/\(0<=i)/\(i<=t.nf+t.nb)/\(∀k,0<=k->k<i->cD k=k)/\M= [(1,.pointer (some ⟨g1,0,none⟩)),(3,.pointer (some ⟨g2,0,none⟩)),(56,vq2),(57,.int .i64 (t.nf+t.nb)),(58,.int .i64 i)]/\Sat w0 w [.blk g1 [.int .i64 t.vars,.int .i64 t.den,vB,vF,vC],.blk g2 [.int .i64 t.nf],.own v1 1 22 2 (Z9 vF vB),.own vq1 1 3 (t.nf+t.nb) (ints (WY (Z9 t.nf t.nb) (Z9 t.F t.B) 2)),.blk gv1 [vq1],.own vq2 1 3 (t.nf+t.nb) (ints cD)]) ⟨0,rfl,(by omega),(by omega),?_,rfl,hS⟩ ?_
  ·
   intro k h0 h1;omega
  clear hS w
  rintro mm M w ⟨i,rfl,h0,h1,qa,rfl,hS⟩
  refine zsr<|(zP)<|zx7<|Ze ?_ ?_<;>intro hc
  ·
   refine zx3<|(zP)<|(zV (xix (kk:=i) Zb qr))<|(zV (xlr (u:= .int .i64 (cD i)) pl_3 (hS.rowN 5 rfl)))<|(zP)<|(zP)<|zlz<|(zP)<|(zP)<|(zP)<|zlt<|Ze ?_ ?_<;>intro hc
   ·
    refine zsr<|(zP)<|zx2<|zf1 ⟨_,rfl,?_⟩
    exact⟨false_B (by intro hp;have b1:=hp.n1;have b2:=hp.n2;have b3:=hp.m2;have b4:=hp.v;have b5:=hp.d1;have b6:=hp.d2;have b7:=hp.c;first|omega|(have hq1:=(XK (by omega) yY).2 (hp.perm.congr fun k k0 k1=>(Rf t.nf t.nb t.F t.B k0).symm) i (by omega) (by omega);omega)),hS.nl⟩
   refine zx4<|(zV (Zf (r:=i+1)))<|(zP)<|zln<|zlq ⟨i+1,rfl,(by omega),(by omega),?_,rfl,hS⟩
   ·
    intro k h0' h1';rcases Int.lt_or_eq_of_le (show k<=i by omega) with hk|hk;exact qa k h0' hk;rw [hk];omega
  refine zx8<|(zV (xfb 4 fd_204_4))<|(zV (xlb 0 Zu hS))<|(zV xmf)<|zlc (xc0 Za9) (Zi5 (n:=t.nc) (q:=t.nf) (vv:=vv) (ln:=t.ln) (f:=t.C) w (hT.C.below hS.below) (hS.cellN 1 rfl rfl) (by omega)) ?_;rintro _ w ⟨rfl,hS'⟩
  replace hS:=hS.cmp hS';clear hS'
  refine(zP)<|(zP)<|zx1<|zf1 ⟨_,rfl,?_⟩
  refine⟨ZA ⟨fun hx=> ?_,fun hp hx=> ?_⟩,hS.nl⟩
  · refine⟨by omega,by omega,by omega,by omega,by omega,by omega,by omega,((XK (by omega) yY).1 fun k k0 k1=>qa k k0 (by omega)).congr fun k k0 k1=>Rf t.nf t.nb t.F t.B k0,fun k k0 k1=> ?_⟩
    have hy:=Classical.not_not.1 fun hh=>hx ⟨k,k0,k1,hh⟩
    exact⟨hy.1,hy.2⟩
  · obtain⟨k,k0,k1,hh⟩:=hx
    have hr:=hp.rows k k0 k1
    exact hh ⟨hr.1,hr.2⟩
  all_goals
   refine zOps ?_
   refine zlt<|zct<|zsr ?_
   refine zOps ?_
   refine zx14<|zf1 ⟨_,rfl,?_⟩
   exact⟨false_B (by intro hp;have b1:=hp.n1;have b2:=hp.n2;have b3:=hp.m2;have b4:=hp.v;have b5:=hp.d1;have b6:=hp.d2;have b7:=hp.c;first|omega|(have hq1:=(XK (by omega) yY).2 (hp.perm.congr fun k k0 k1=>(Rf t.nf t.nb t.F t.B k0).symm) i (by omega) (by omega);omega)),hS.nl⟩
theorem VL{f:Int->Int->Int}(w0:World)(hM:MAt w0 v n vv ln f)(hn2:n<=1000)(hll:∀k,0<=k->k<n->ln k<=1000):
    Calls Tryz.prog 188 [v].toArray w0 fun e w=>∃v,e= .returned v/\∃vo vw,v=vo/\Slh vo n/\Sat w0 w [.own vo 1 22 n vw,.sem (Frame.rows 3 n vw ln f)]:=by
  have hn:=hM.row.slh.n0;have hn1:=hM.row.slh.n1
  refine Zm Tryz.func188 Tryz.ntmps188 fun w hS=> ?_
  refine zsr<|(zP)<|zlz<|(zP)<|(zV (xln Zi hM.row.slh))<|zla (xmk Zi Ya hS) ?_;rintro v1 w ⟨hS,hv1⟩
  refine(zP)<|zx5<|(zP)<|(zV (xln Zi hM.row.slh))<|(zP)<|zx6 ?_
  replace hS:=hS.addrows 3 (fun _=>Value.slice none 0 0) ln f
  refine zlp (fun mm M w=>∃(c:Int->Value) (i:Int),mm=((n-i).toNat)/\(0<=i)/\(i<=n)/\M= [(2,.slice none 0 0),(3,v1),(9,v),(10,.int .i64 n),(11,.int .i64 i)]/\Sat w0 w [.own v1 1 22 n c,.sem (Frame.rows 3 i c ln f)]) ⟨(fun _=>Value.slice none 0 0),0,rfl,(by omega),(by omega),rfl,hS⟩ ?_
  clear hS w
  rintro mm M w ⟨c,i,rfl,h0,h1,rfl,hS⟩
  have qN:=fun k (k0:0<=k) (k1:k<i)=>hS.slhIn 1 rfl k0 k1
  refine zsr<|(zP)<|zx7<|Ze ?_ ?_<;>intro hc
  ·
   refine zx3<|(zP)<|(zV (xix (kk:=i) Zi hM.row.slh))<|zlv (xlr (u:=(vv i)) pl_22 (hM.row.below hS.below)) ?_
   have hli:=hll i h0 (by omega);have hl0:=(hM.p i h0 (by omega)).slh.n0
   refine(zP)<|(zP)<|zlz<|(zP)<|(zP)<|(zP)<|(zV (xln Zb (hM.p i (by omega) (by omega)).slh))<|zla (xmk Zb Zn hS) ?_;rintro v2 w ⟨hS,hv2⟩
   refine(zV (xix (kk:=i) Zi hv1))<|zle (xso 0 pl_22 hS rfl (hv:=hv2.one)) ?_;clear hS;rintro w hS
   refine zlt<|zrg<|(zP)<|(zP)<|(zV (xix (kk:=i) Zi hv1))<|(zV (xlr (u:=v2) pl_22 (hS.rowN 0 rfl) (e:=(gu_self _ _ _))))<|(zP)<|ZcX rfl rfl rfl (ZfI 2 rfl Zb rfl rfl hS rfl ((hM.p i (by omega) (by omega)).below hS.below) (fun _ _ _=>rfl)) ?_;rintro _ w ⟨rfl,hS⟩
   replace hS:=Sat.merge (l1:= [.own v1 1 22 n (upd c i (v2))]) (l2:= []) (l3:= []) hS (by omega)
   replace hS:=hS.rerows (vv':=upd c i (v2)) (ln':=ln) (f':=f) 1 rfl (fun k k0 k1=>by
     by_cases e:k<i
     · rw [Zs e,Zs e,Zs e];exact⟨(gu_ne (by omega)).symm,rfl,fun _ _ _=>rfl⟩
     · obtain rfl:i=k:=(by omega);rw [Y0,Y0,Y0];exact⟨(gu_self _ _ _).symm,rfl,fun _ _ _=>rfl⟩)
   refine zx10<|(zV (Zf (r:=i+1)))<|(zP)<|zln<|zlq ⟨upd c i (v2),i+1,rfl,(by omega),(by omega),rfl,hS⟩
  refine zx8<|(zP)<|(zP)<|zx1<|zf1 ⟨_,rfl,?_⟩
  obtain rfl:i=n:=by omega
  exact⟨_,_,rfl,hv1,hS⟩
theorem ZiT(w0:World)(hT:TAt w0 vB vF vC vv t):
    Calls Tryz.prog 171 [.agg #[.int .i64 t.vars,.int .i64 t.den,vB,vF,vC]].toArray w0 fun e w=>∃v,e= .returned v/\∃r c d e,v= .tuple #[.int .i64 r,.int .i64 c,.bool d,.int .i64 e]/\NextR t r c d e/\Sat w0 w []:=by
  have hn:=hT.F.slh.n0;have hn1:=hT.F.slh.n1;have hb:=hT.B.slh.n0;have hb1:=hT.B.slh.n1;have hc0:=hT.C.row.slh.n0;have hc1:=hT.C.row.slh.n1
  refine Zm Tryz.func171 Tryz.ntmps171 fun w hS=> ?_
  refine zsr<|zla (xbx (cs:= [_,_,_,_,_]) hS) ?_;rintro _ w ⟨g1,rfl,hS⟩
  refine zs4 ?_
  refine zx5<|(zV (xls 0 Zy hS))<|zlc (xc0 R1) (VJ (t:=t) w (hT.below hS.below)) ?_;rintro _ w ⟨rfl,hS'⟩
  replace hS:=hS.cmp hS';clear hS'
  refine(zP)<|(zP)<|zlb 17 ?_ ?_<;>intro hc
  ·
   iterate 7 refine zlo ?_
   refine(zP)<|zlt<|zct<|zsr ?_
   refine zs4 ?_
   refine zx14<|zf4 ⟨_,rfl,?_⟩
   refine⟨_,_,_,_,rfl,.inl ⟨?_,rfl,rfl,rfl,rfl⟩,hS.nl⟩
   first|exact fun hh=>absurd hh.1 ‹_›|(rintro⟨_,hco⟩;obtain⟨k,k0,k1,k2⟩:=yK;have:=hco (k+1) (by omega) (by omega);omega)
  refine zlv (xfb 4 fd_204_4) ?_
  have hp:=(Classical.not_not.1 ‹¬¬(TPrp t)›)
  have b1:=hp.n1
  have b2:=hp.n2
  have b3:=hp.m2
  have b4:=hp.v
  have b5:=hp.d1
  have b6:=hp.d2
  have b7:=hp.c
  have hl0:=hp.len (i:=0) (by omega) (by omega)
  refine(zV (xlb 0 Zu hS))<|(zV (xix (kk:=0) Zi hT.C.row.slh))<|(zV (xlr (u:=(vv 0)) pl_22 (hT.C.row.below hS.below)))<|Tx rfl rfl rfl (YX (q:=1) rfl Zb rfl rfl rfl (hT.C.p 0 (by omega) (by omega)).slh rfl (by omega) (by omega)) ?_
  refine zlc (xc0 Zd8) (ZgQ (n:=((t.ln 0)-1)) (f:=(fun k=>(t.C 0) (k+1))) w ((Xe (q:=1) (hT.C.p 0 (by omega) (by omega)).slh (hT.C.room 0 (by omega) (by omega)) (by omega)).row (by omega) ((hT.C.p 0 (by omega) (by omega)).below hS.below)) (by omega)) ?_;rintro _ w ⟨x1,rfl,yK,yV,hS'⟩
  replace hS:=hS.cmp hS';clear hS'
  refine(zP)<|(zP)<|zlt<|Ze ?_ ?_<;>intro hc
  ·
   refine zsr<|zs4 ?_
   refine zx14<|zf4 ⟨_,rfl,?_⟩
   refine⟨_,_,_,_,rfl,.inl ⟨?_,rfl,rfl,rfl,rfl⟩,hS.nl⟩
   first|exact fun hh=>absurd hh.1 ‹_›|(rintro⟨_,hco⟩;obtain⟨k,k0,k1,k2⟩:=yK;have:=hco (k+1) (by omega) (by omega);omega)
  refine Z7<|(zP)<|zx5<|(zV (xfb 2 fd_204_2))<|(zV (xlb 0 pl_22 hS))<|(zV (xln Zb hT.B.slh))<|(zP)<|zx6<|zlp (fun mm M w=>∃(r:Int) (i:Int),mm=((t.nb-i).toNat)/\(0<=i)/\(i<=t.nb)/\(r=ZR t i.toNat)/\M= [(1,.pointer (some ⟨g1,0,none⟩)),(2,.int .i64 r),(3,.int .i64 0),(4,.bool false),(5,.int .i64 0),(27,vB),(28,.int .i64 t.nb),(29,.int .i64 i)]/\Sat w0 w [.blk g1 [.int .i64 t.vars,.int .i64 t.den,vB,vF,vC]]) ⟨(-1),0,rfl,(by omega),(by omega),?_,rfl,hS⟩ ?_
  ·
   rfl
  clear hS w
  rintro mm M w ⟨r,i,rfl,h0,h1,hr,rfl,hS⟩
  have hrr:=YG t i.toNat;rw [<-hr] at hrr
  refine zsr<|(zP)<|zx7<|Ze ?_ ?_<;>intro hc
  ·
   refine zx3<|(zP)<|(zV (xix (kk:=i) Zb hT.B.slh))<|(zV (xlr (u:= .int .i64 (t.B i)) pl_3 (hT.B.below hS.below)))<|(zP)<|(zP)<|zlz<|(zV (xfb 4 fd_204_4))<|(zV (xlb 0 Zu hS))<|(zP)<|(zV (Zf (r:=i+1)))<|(zV (xix (kk:=i+1) Zi hT.C.row.slh))<|zlv (xlr (u:=(vv (i+1))) pl_22 (hT.C.row.below hS.below)) ?_
   have yc:=hp.len (i:=i+1) (by omega) (by omega)
   refine(zV (xix (kk:=0) Zb (hT.C.p (i+1) (by omega) (by omega)).slh))<|(zV (xlr (u:= .int .i64 ((t.C (i+1)) 0)) pl_3 ((hT.C.p (i+1) (by omega) (by omega)).below hS.below)))<|(zP)<|(zP)<|zlb 43 ?_ ?_<;>intro hc
   ·
    refine zs3 ?_
    have hrr:=YG t i.toNat;rw [<-hr] at hrr
    refine zlb 46 ?_ ?_<;>intro hc
    ·
     iterate 7 refine zlo ?_
     refine(zP)<|(zP)<|zlt<|zct<|zrg ?_
     refine(zP)<|(zP)<|zx10<|(zV (Zf (r:=i+1)))<|(zP)<|zln<|zlq ⟨i,i+1,rfl,(by omega),(by omega),?_,rfl,hS⟩
     ·
      rw [YV t h0,<-hr];split<;>omega
    refine(zP)<|(zV (xfb 2 fd_204_2))<|(zV (xlb 0 pl_22 hS))<|(zP)<|(zV (xix (kk:=r) Zb hT.B.slh))<|(zV (xlr (u:= .int .i64 (t.B r)) pl_3 (hT.B.below hS.below)))<|(zP)<|(zP)<|(zP)<|zlt<|Ze ?_ ?_<;>intro hc
    ·
     refine zrg<|(zP)<|(zP)<|zx10<|(zV (Zf (r:=i+1)))<|(zP)<|zln<|zlq ⟨i,i+1,rfl,(by omega),(by omega),?_,rfl,hS⟩
     ·
      rw [YV t h0,<-hr];split<;>omega
    refine zx4<|(zV (Zf (r:=i+1)))<|(zP)<|zln<|zlq ⟨r,i+1,rfl,(by omega),(by omega),?_,rfl,hS⟩
    ·
     rw [YV t h0,<-hr];split<;>omega
   iterate 11 refine zlo ?_
   refine(zP)<|zlt<|zcf<|zsk<|zbn<|ztn<|zrg ?_
   refine(zV (Zf (r:=i+1)))<|(zP)<|zln<|zlq ⟨r,i+1,rfl,(by omega),(by omega),?_,rfl,hS⟩
   ·
    rw [YV t h0,<-hr];split<;>omega
  refine zx18<|(zP)<|(zP)<|zlt<|Ze ?_ ?_<;>intro hc
  ·
   refine zsr<|zs4 ?_
   refine zx14<|zf4 ⟨_,rfl,?_⟩
   obtain rfl:i=t.nb:=by omega
   exact⟨_,_,_,_,rfl,.inr (.inl ⟨hp,(fun j j0 j1=>by have:=yV (j-1) (by omega) (by omega);rw [show j-1+1=j by omega] at this;omega),by omega,rfl,rfl,rfl,rfl⟩),hS.nl⟩
  refine Z7<|(zP)<|zx7<|zdst [0] [0] 1000 mx_ hS ?_;clear hS;intro w hS
  refine zDrv 0 (xfb 4 fd_204_4) ?_
  have hin:i=t.nb:=by omega
  have hrr:=YG t i.toNat;rw [<-hr] at hrr;have hlr:=hp.len (i:=r+1) (by omega) (by omega)
  refine(zDl 1 (fun w hS=>(xlb 0 Zu hS)))<|(zDw 2 (xix (kk:=0) Zi hT.C.row.slh))<|(zDl 3 (fun w hS=>(xlr (u:=(vv 0)) pl_22 (hT.C.row.below hS.below))))<|Zji 4 rfl rfl rfl rfl (by kernel_rfl) rfl (fun w=>(YX (q:=1) rfl Zb rfl rfl rfl (hT.C.p 0 (by omega) (by omega)).slh rfl (by omega) (by omega))) ?_
  refine(zDw 5 (xfb 4 fd_204_4))<|(zDl 6 (fun w hS=>(xlb 0 Zu hS)))<|(zDw 7 xmv)<|(zDw 8 (Zf (r:=r+1)))<|(zDw 9 (xix (kk:=r+1) Zi hT.C.row.slh))<|(zDl 10 (fun w hS=>(xlr (u:=(vv (r+1))) pl_22 (hT.C.row.below hS.below))))<|Zji 11 rfl rfl rfl rfl (by kernel_rfl) rfl (fun w=>(YX (q:=1) rfl Zb rfl rfl rfl (hT.C.p (r+1) (by omega) (by omega)).slh rfl (by omega) (by omega))) ?_
  refine(zDw 12 xas)<|(zDw 13 xas)<|zdd<|ztn<|zsq<|zsr ?_
  refine(zP)<|(zV (xln Zb (Xe (q:=1) (hT.C.p (r+1) (by omega) (by omega)).slh (hT.C.room (r+1) (by omega) (by omega)) (by omega)).slh))<|(zP)<|zx6<|zlp (fun mm M w=>∃(c:Int) (j:Int),mm=((t.nf-j).toNat)/\(0<=j)/\(j<=t.nf)/\(c=Yd t r j.toNat)/\M= [(1,.pointer (some ⟨g1,0,none⟩)),(2,.int .i64 r),(3,.int .i64 c),(4,.bool false),(5,.int .i64 0),(8,(Xz (vv 0) 1)),(9,(Xz (vv (r+1)) 1)),(72,(Xz (vv (r+1)) 1)),(73,.int .i64 ((t.ln (r+1))-1)),(74,.int .i64 j)]/\Sat w0 w [.blk g1 [.int .i64 t.vars,.int .i64 t.den,vB,vF,vC]]) ⟨(-1),0,rfl,(by omega),(by omega),?_,rfl,hS⟩ ?_
  ·
   rfl
  clear hS w
  rintro mm M w ⟨c,j,rfl,j0,j1,hcc,rfl,hS⟩
  have hcr:=Xm t r j.toNat;rw [<-hcc] at hcr
  refine zsr<|(zP)<|zx7<|Ze ?_ ?_<;>intro hc
  ·
   refine zx3<|(zP)<|(zV (xix (kk:=j) Zb (Xe (q:=1) (hT.C.p (r+1) (by omega) (by omega)).slh (hT.C.room (r+1) (by omega) (by omega)) (by omega)).slh))<|(zV (xlr (u:= .int .i64 ((t.C (r+1)) (j+1))) pl_3 ((Xe (q:=1) (hT.C.p (r+1) (by omega) (by omega)).slh (hT.C.room (r+1) (by omega) (by omega)) (by omega)).row (by omega) ((hT.C.p (r+1) (by omega) (by omega)).below hS.below))))<|(zP)<|(zP)<|zx5<|(zP)<|(zP)<|zlt<|Ze ?_ ?_<;>intro hc
   ·
    refine zxt<|ztx<|zbh<|ztn<|zrg<|(zV (Zf (r:=j+1)))<|(zP)<|zln<|zlq ⟨c,j+1,rfl,(by omega),(by omega),?_,rfl,hS⟩
    ·
     rw [Yk t r j0,<-hcc];(repeat' split)<;>omega
   refine Xb<|zs2 ?_
   have hcr:=Xm t r j.toNat;rw [<-hcc] at hcr
   refine zlt<|Ze ?_ ?_<;>intro hc
   ·
    refine zsq<|zdst [0] [0] 1000 mx_ hS ?_;clear hS;intro w hS
    refine zDrv 0 xmv ?_
    have hm1:=YY (hp.cell (i:=0) (j:=j+1) (by omega) (by omega) (by omega) (by omega)) (hp.cell (i:=r+1) (j:=c+1) (by omega) (by omega) (by omega) (by omega));have hm2:=YY (hp.cell (i:=0) (j:=c+1) (by omega) (by omega) (by omega) (by omega)) (hp.cell (i:=r+1) (j:=j+1) (by omega) (by omega) (by omega) (by omega))
    have hne:t.F j≠t.F c:=fun hh=>by have:=hp.injF (i:=j) (j:=c) (by omega) (by omega) (by omega) (by omega) (by omega) hh;omega
    refine(zDw 1 xmv)<|(zDw 2 (xix (kk:=j) Zb (Xe (q:=1) (hT.C.p 0 (by omega) (by omega)).slh (hT.C.room 0 (by omega) (by omega)) (by omega)).slh))<|(zDl 3 (fun w hS=>(xlr (u:= .int .i64 ((t.C 0) (j+1))) pl_3 ((Xe (q:=1) (hT.C.p 0 (by omega) (by omega)).slh (hT.C.room 0 (by omega) (by omega)) (by omega)).row (by omega) ((hT.C.p 0 (by omega) (by omega)).below hS.below)))))<|(zDw 4 xmv)<|(zDw 5 xmv)<|(zDw 6 (xix (kk:=c) Zb (Xe (q:=1) (hT.C.p (r+1) (by omega) (by omega)).slh (hT.C.room (r+1) (by omega) (by omega)) (by omega)).slh))<|(zDl 7 (fun w hS=>(xlr (u:= .int .i64 ((t.C (r+1)) (c+1))) pl_3 ((Xe (q:=1) (hT.C.p (r+1) (by omega) (by omega)).slh (hT.C.room (r+1) (by omega) (by omega)) (by omega)).row (by omega) ((hT.C.p (r+1) (by omega) (by omega)).below hS.below)))))<|zdv 8 (fun _=>(Z4 (r:=(((t.C 0) (j+1))*((t.C (r+1)) (c+1)))) (e:=rfl) (hr:=(by unfold I64;omega)))) ?_
    refine(zDw 9 xmv)<|(zDw 10 xmv)<|(zDw 11 (xix (kk:=c) Zb (Xe (q:=1) (hT.C.p 0 (by omega) (by omega)).slh (hT.C.room 0 (by omega) (by omega)) (by omega)).slh))<|(zDl 12 (fun w hS=>(xlr (u:= .int .i64 ((t.C 0) (c+1))) pl_3 ((Xe (q:=1) (hT.C.p 0 (by omega) (by omega)).slh (hT.C.room 0 (by omega) (by omega)) (by omega)).row (by omega) ((hT.C.p 0 (by omega) (by omega)).below hS.below)))))<|(zDw 13 xmv)<|zdv 14 (fun _=>(Z4 (r:=(((t.C 0) (c+1))*((t.C (r+1)) (j+1)))) (e:=rfl) (hr:=(by unfold I64;omega)))) ?_
    refine(zDw 15 xas)<|(zDw 16 xas)<|zdd<|ztn<|zsq ?_
    refine zdst [0] [0] 1000 mx_ hS ?_;clear hS;intro w hS
    refine(zDw 0 xmv)<|(zDw 1 xmv)<|(zDw 2 Yr)<|(zDw 3 xmv)<|zdb 101 ?_ ?_<;>intro hc
    ·
     refine(zDo 4)<|(zDo 5)<|(zDo 6)<|(zDo 7)<|(zDo 8)<|(zDo 9)<|(zDo 10)<|(zDo 11)<|(zDo 12)<|(zDo 13)<|(zDo 14)<|(zDo 15)<|(zDo 16)<|(zDo 17)<|Ur 18 ?_
     refine(zDo 19)<|(zDw 20 xpt)<|zdd<|ztn<|zct<|zxt<|ztx<|zbh<|ztn<|zrg ?_
     refine(zV (Zf (r:=j+1)))<|(zP)<|zln<|zlq ⟨c,j+1,rfl,(by omega),(by omega),?_,rfl,hS⟩
     ·
      rw [Yk t r j0,<-hcc];(repeat' split)<;>omega
    refine(zDw 4 xmv)<|(zDw 5 xmv)<|(zDw 6 YO)<|(zDw 7 xmv)<|zdb 105 ?_ ?_<;>intro hc
    ·
     refine(zDw 8 (xfb 3 fd_204_3))<|(zDl 9 (fun w hS=>(xlb 0 pl_22 hS)))<|(zDw 10 xmv)<|(zDw 11 (xix (kk:=j) Zb hT.F.slh))<|(zDl 12 (fun w hS=>(xlr (u:= .int .i64 (t.F j)) pl_3 (hT.F.below hS.below))))<|(zDw 13 (xfb 3 fd_204_3))<|(zDl 14 (fun w hS=>(xlb 0 pl_22 hS)))<|(zDw 15 xmv)<|(zDw 16 (xix (kk:=c) Zb hT.F.slh))<|(zDl 17 (fun w hS=>(xlr (u:= .int .i64 (t.F c)) pl_3 (hT.F.below hS.below))))<|(zDw 18 Yr)<|(zDw 19 xpt)<|(zDw 20 xpf)<|zdd<|ztn ?_
     refine Ze ?_ ?_<;>intro hc
     ·
      refine zxt<|ztx<|zbh<|ztn<|zrg<|(zV (Zf (r:=j+1)))<|(zP)<|zln<|zlq ⟨c,j+1,rfl,(by omega),(by omega),?_,rfl,hS⟩
      ·
       rw [Yk t r j0,<-hcc];(repeat' split)<;>omega
     refine zsk<|ztn<|zrg<|(zP)<|(zP)<|zx10<|(zV (Zf (r:=j+1)))<|(zP)<|zln<|zlq ⟨j,j+1,rfl,(by omega),(by omega),?_,rfl,hS⟩
     ·
      rw [Yk t r j0,<-hcc];(repeat' split)<;>omega
    refine(zDo 8)<|(zDo 9)<|(zDo 10)<|(zDo 11)<|(zDo 12)<|(zDo 13)<|(zDo 14)<|(zDo 15)<|(zDo 16)<|(zDo 17)<|(zDo 18)<|(zDw 19 xpf)<|(zDw 20 xpf)<|zdd<|ztn<|zcf<|zsk<|ztn<|zrg ?_
    refine(zP)<|(zP)<|zx10<|(zV (Zf (r:=j+1)))<|(zP)<|zln<|zlq ⟨j,j+1,rfl,(by omega),(by omega),?_,rfl,hS⟩
    ·
     rw [Yk t r j0,<-hcc];(repeat' split)<;>omega
   refine zsk<|ztn<|zrg<|(zP)<|(zP)<|zx10<|(zV (Zf (r:=j+1)))<|(zP)<|zln<|zlq ⟨j,j+1,rfl,(by omega),(by omega),?_,rfl,hS⟩
   ·
    rw [Yk t r j0,<-hcc];(repeat' split)<;>omega
  refine zx18<|(zP)<|(zP)<|zlt<|Ze ?_ ?_<;>intro hc
  ·
   refine zsr<|zs4 ?_
   refine zx14<|zf4 ⟨_,rfl,?_⟩
   obtain rfl:i=t.nb:=by omega
   obtain rfl:j=t.nf:=by omega
   subst hr;exact⟨_,_,_,_,rfl,.inr (.inr (.inl ⟨hp,(fun j j0 j1=>by have:=yV (j-1) (by omega) (by omega);rw [show j-1+1=j by omega] at this;omega),by omega,by omega,rfl,rfl,rfl,rfl⟩)),hS.nl⟩
  refine Z7<|zs6 ?_
  refine zx1<|zf4 ⟨_,rfl,?_⟩
  obtain rfl:i=t.nb:=by omega
  obtain rfl:j=t.nf:=by omega
  subst hr;exact⟨_,_,_,_,rfl,.inr (.inr (.inr ⟨hp,(fun j j0 j1=>by have:=yV (j-1) (by omega) (by omega);rw [show j-1+1=j by omega] at this;omega),by omega,by omega,rfl,hcc,rfl,rfl⟩)),hS.nl⟩
theorem Zf9{row col:Int}(w0:World)(hT:TAt w0 vB vF vC vv t)(dT: -9223372036854775808<=row/\row<=9223372036854775807)(eH: -9223372036854775808<=col/\col<=9223372036854775807):
    Calls Tryz.prog 172 [.agg #[.int .i64 t.vars,.int .i64 t.den,vB,vF,vC],.int .i64 row,.int .i64 col].toArray w0 fun e w=>∃v,e= .returned v/\∃vB vF vC vv t' e,v= .tuple #[.agg #[.int .i64 t'.vars,.int .i64 t'.den,vB,vF,vC],.int .i64 e]/\PivR t row col t' e/\Slh vB t'.nb/\Slh vF t'.nf/\Slh vC t'.nc/\Sat w0 w [.own vB 1 3 t'.nb (ints t'.B),.own vF 1 3 t'.nf (ints t'.F),.own vC 1 22 t'.nc vv,.sem (Frame.rows 3 t'.nc vv t'.ln t'.C)]:=by
  have hn:=hT.F.slh.n0;have hn1:=hT.F.slh.n1;have hb:=hT.B.slh.n0;have hb1:=hT.B.slh.n1;have hc0:=hT.C.row.slh.n0;have hc1:=hT.C.row.slh.n1
  refine Zm Tryz.func172 Tryz.ntmps172 fun w hS=> ?_
  refine zsr<|zla (xbx (cs:= [_,_,_,_,_]) hS) ?_;rintro _ w ⟨g1,rfl,hS⟩
  refine zla (xal (cs:= [_,_,_,_,_]) Xg hS) ?_;rintro _ w ⟨g2,rfl,hS⟩
  refine(zP)<|zx5<|(zV (xls 0 Zy hS))<|zlc (xc0 R1) (VJ (t:=t) w (hT.below hS.below)) ?_;rintro _ w ⟨rfl,hS'⟩
  replace hS:=hS.cmp hS';clear hS'
  refine(zP)<|(zP)<|zlb 23 ?_ ?_<;>intro hc;rotate_left
  refine zlv xmv ?_
  have hp:=(Classical.not_not.1 ‹¬¬(TPrp t)›)
  have b1:=hp.n1
  have b2:=hp.n2
  have b3:=hp.m2
  have b4:=hp.v
  have b5:=hp.d1
  have b6:=hp.d2
  have b7:=hp.c
  refine(zP)<|(zP)<|(zP)<|zlb 27 ?_ ?_<;>intro hc;rotate_left
  refine(zP)<|(zV (xfb 2 fd_204_2))<|(zV (xlb 0 pl_22 hS))<|(zV (xln Zb hT.B.slh))<|(zP)<|(zP)<|(zP)<|zlb 34 ?_ ?_<;>intro hc;rotate_left
  refine zs4 ?_
  refine zlb 38 ?_ ?_<;>intro hc;rotate_left
  refine(zP)<|(zV (xfb 3 fd_204_3))<|(zV (xlb 0 pl_22 hS))<|(zV (xln Zb hT.F.slh))<|(zP)<|(zP)<|(zP)<|zlb 45 ?_ ?_<;>intro hc;rotate_left
  refine(zV (xfb 4 fd_204_4))<|(zV (xlb 0 Zu hS))<|(zP)<|(zV (Zf (r:=row+1)))<|(zV (xix (kk:=row+1) Zi hT.C.row.slh))<|zlv (xlr (u:=(vv (row+1))) pl_22 (hT.C.row.below hS.below)) ?_
  have hlr:=hp.len (i:=row+1) (by omega) (by omega)
  refine(zP)<|(zV (Zf (r:=col+1)))<|(zV (xix (kk:=col+1) Zb (hT.C.p (row+1) (by omega) (by omega)).slh))<|(zV (xlr (u:= .int .i64 ((t.C (row+1)) (col+1))) pl_3 ((hT.C.p (row+1) (by omega) (by omega)).below hS.below)))<|(zP)<|(zP)<|zlt<|Ze ?_ ?_<;>intro hc
  ·
   refine zsr<|(zV (xany (v:= .agg #[.int .i64 0,.int .i64 0,.slice none 0 0,.slice none 0 0,.slice none 0 0])))<|zle (xsw 1 Zy hS) ?_;clear hS;rintro w hS
   refine(zP)<|zx14<|ZW 1 Zy hS ⟨_,rfl,?_⟩
   exact⟨_,_,_,fun _=>undef,Tb.zero,1,rfl,.inl ⟨by first|exact fun hh=>absurd hh.1 ‹_›|(rintro⟨_,p1,p2,p3,p4,p5⟩;omega),rfl,rfl⟩,slh_nil,slh_nil,slh_nil,((((hS.sub (.cons _ (.cons _ .slnil))).addnil 1 3 (ints Tb.zero.B)).addnil 1 3 (ints Tb.zero.F)).addnil 1 22 (fun _=>undef)).addrows 3 (fun _=>undef) Tb.zero.ln Tb.zero.C⟩
  refine Z7<|(zP)<|zlv (Zf (r:=row+1)) ?_
  have hnz:t.C (row+1) (col+1)≠0:=by omega
  have hpb:=hp.cell (i:=row+1) (j:=col+1) (by omega) (by omega) (by omega) (by omega)
  refine(zP)<|(zV (Zf (r:=col+1)))<|(zP)<|(zP)<|zx7<|zdst [0,1] [0,1] 1000 mx_ hS ?_;clear hS;intro w hS
  refine(zDw 0 (xfb 4 fd_204_4))<|(zDl 1 (fun w hS=>(xlb 0 Zu hS)))<|(zDw 2 xmv)<|(zDw 3 (xix (kk:=row+1) Zi hT.C.row.slh))<|(zDl 4 (fun w hS=>(xlr (u:=(vv (row+1))) pl_22 (hT.C.row.below hS.below))))<|(zDw 5 xmv)<|(zDw 6 (xix (kk:=col+1) Zb (hT.C.p (row+1) (by omega) (by omega)).slh))<|(zDl 7 (fun w hS=>(xlr (u:= .int .i64 ((t.C (row+1)) (col+1))) pl_3 ((hT.C.p (row+1) (by omega) (by omega)).below hS.below))))<|(zDw 8 (xfb 1 fd_204_1))<|(zDl 9 (fun w hS=>(xlb 0 pl_3 hS)))<|(zDw 10 xas)<|(zDw 11 xas)<|zdd<|ztn<|zsq<| ?_
  refine XX (fun M w=>∃(g3:Nat) (vq1:Value) (vq2:Value) (qu:Value) (qx:Int->Value),(Slh vq1 t.nb)/\(Slh vq2 t.nf)/\(Slh qu t.nc)/\(∀k,0<=k->k<t.nc->Slh (qx k) (t.ln k))/\M= [(0,.agg #[.int .i64 t.vars,.int .i64 t.den,vB,vF,vC]),(1,.int .i64 row),(2,.int .i64 col),(3,.pointer (some ⟨g1,0,none⟩)),(6,.pointer (some ⟨g2,0,none⟩)),(7,.int .i64 0),(20,.agg #[.int .i64 t.vars,.int .i64 t.den,vB,vF,vC]),(21,B (TPrp t)),(22,B (¬(TPrp t))),(23,.bool false),(24,.int .i64 row),(25,B (row<0)),(26,B (row<0)),(27,.bool false),(28,.int .i64 row),(29,.pointer (some ⟨g1,2,none⟩)),(30,vB),(31,.int .i64 t.nb),(32,B (t.nb<=row)),(33,B (t.nb<=row)),(34,.bool false),(35,.int .i64 col),(36,B (col<0)),(37,B (col<0)),(38,.bool false),(39,.int .i64 col),(40,.pointer (some ⟨g1,3,none⟩)),(41,vF),(42,.int .i64 t.nf),(43,B (t.nf<=col)),(44,B (t.nf<=col)),(45,.bool false),(46,.pointer (some ⟨g1,4,none⟩)),(47,vC),(48,.int .i64 row),(49,.int .i64 (row+1)),(50,.pointer (some (cad vC (row+1)))),(51,(vv (row+1))),(52,.int .i64 col),(53,.int .i64 (col+1)),(54,.pointer (some (cad (vv (row+1)) (col+1)))),(55,.int .i64 ((t.C (row+1)) (col+1))),(56,B (((t.C (row+1)) (col+1))=0)),(57,B (((t.C (row+1)) (col+1))=0)),(59,.int .i64 row),(60,.int .i64 (row+1)),(61,.int .i64 col),(62,.int .i64 (col+1)),(8,.int .i64 (row+1)),(9,.int .i64 (col+1)),(63,.pointer (some ⟨g1,4,none⟩)),(64,vC),(65,.int .i64 (row+1)),(66,.pointer (some (cad vC (row+1)))),(67,(vv (row+1))),(68,.int .i64 (col+1)),(69,.pointer (some (cad (vv (row+1)) (col+1)))),(70,.int .i64 ((t.C (row+1)) (col+1))),(71,.pointer (some ⟨g1,1,none⟩)),(72,.int .i64 t.den),(10,.int .i64 ((t.C (row+1)) (col+1))),(11,.int .i64 t.den),(73,.pointer (some ⟨g1,0,none⟩)),(74,.int .i64 t.vars),(75,.int .i64 ((t.C (row+1)) (col+1))),(76,.pointer (some ⟨g1,2,none⟩)),(77,vB),(79,.pointer (some ⟨g1,3,none⟩)),(80,vF),(82,.pointer (some ⟨g1,4,none⟩)),(83,vC),(78,vq1),(81,vq2),(84,qu),(85,.agg #[.int .i64 t.vars,.int .i64 ((t.C (row+1)) (col+1)),vq1,vq2,qu]),(12,.pointer (some ⟨g3,0,none⟩))]/\Sat w0 w [.blk g1 [.int .i64 t.vars,.int .i64 t.den,vB,vF,vC],.blk g2 [.int .i64 0,.int .i64 0,.slice none 0 0,.slice none 0 0,.slice none 0 0],.own vq1 1 3 t.nb (ints t.B),.own vq2 1 3 t.nf (ints t.F),.own qu 1 22 t.nc qx,.sem (Frame.rows 3 t.nc qx t.ln t.C),.blk g3 [.int .i64 t.vars,.int .i64 ((t.C (row+1)) (col+1)),vq1,vq2,qu]]) ?_ ?_
  ·
   refine zdst [0,1] [0,1] 14 mx_ hS ?_;clear hS;intro w hS
   refine(zDw 0 (xfb 0 fd_204_0))<|(zDl 1 (fun w hS=>(xlb 0 pl_3 hS)))<|(zDw 2 xmv)<|(zDw 3 (xfb 2 fd_204_2))<|(zDl 4 (fun w hS=>(xlb 0 pl_22 hS)))<|(zDw 6 (xfb 3 fd_204_3))<|(zDl 7 (fun w hS=>(xlb 0 pl_22 hS)))<|(zDw 9 (xfb 4 fd_204_4))<|(zDl 10 (fun w hS=>(xlb 0 Zu hS)))<|YS (r:= [5,13]) ((ZO ?_ (ZO ?_ YR)))
   ·
    refine zkc (xc0 cl_70) (c_clone (n:=t.nb) (f:=t.B) w (hT.B.below hS.below) (by omega)) ?_;rintro vq1 w ⟨_,rfl,qc,hS'⟩
    replace hS:=(hS.comp hS').n3;clear hS'
    refine⟨⟨fun _=>hS.pk [0,1],hS.pk [0,1]⟩,?_⟩
    refine YS (r:= [8,13]) ((ZO ?_ (ZO ?_ YR)))
    ·
     refine zkc (xc0 cl_70) (c_clone (n:=t.nf) (f:=t.F) w (hT.F.below hS.below) (by omega)) ?_;rintro vq2 w ⟨_,rfl,qr,hS'⟩
     replace hS:=(hS.comp hS').n4;clear hS'
     refine⟨⟨fun _=>hS.pk [0,1],hS.pk [0,1]⟩,?_⟩
     refine YS (r:= [11,13]) ((ZO ?_ (ZO ?_ YR)))
     ·
      refine zkc (xc0 R0) (VL (n:=t.nc) (vv:=vv) (ln:=t.ln) (f:=t.C) w (hT.C.below hS.below) (by omega) (fun k k0 k1=>by have:=hp.len (i:=k) (by omega) (by omega);omega)) ?_;rintro qu w ⟨_,qx,rfl,qw,hS'⟩
      replace hS:=(hS.comp hS').n6;clear hS'
      have xa:=fun k (k0:0<=k) (k1:k<t.nc)=>hS.slhIn 5 rfl k0 k1
      refine⟨⟨fun _=>hS.pk [0,1],hS.pk [0,1]⟩,?_⟩
      refine zdv 12 (fun _=>(xany (v:= .agg #[.int .i64 t.vars,.int .i64 ((t.C (row+1)) (col+1)),vq1,vq2,qu]) (hr:=by obtain⟨_,_,_,_,rfl,_⟩:=qc;obtain⟨_,_,_,_,rfl,_⟩:=qr;obtain⟨_,_,_,_,rfl,_⟩:=qw;kernel_rfl))) ?_
      refine zda 13 (xal (cs:= [_,_,_,_,_]) Xg hS) ?_;rintro _ w ⟨g3,rfl,hS⟩
      refine⟨⟨fun _=>hS.pk [0,1],hS.pk [0,1]⟩,?_⟩
      refine zde 14 (xsw 6 Zy hS (hd:=(Za rfl (Za rfl (Za qc.one (Za qr.one (Za qw.one Zg))))))) ?_;clear hS;rintro w hS
      refine⟨⟨fun h=>absurd h (by decide),hS.pk [0,1]⟩,?_⟩
      refine zdd<|zgj ⟨g3,vq1,vq2,qu,qx,qc,qr,qw,xa,rfl,hS⟩
     refine zka (xal (cs:= [_,_,_,_,_]) Xg hS) ?_;rintro _ w ⟨g3,rfl,hS⟩
     refine⟨⟨fun _=>hS.pk [0,1],hS.pk [0,1]⟩,?_⟩
     refine zdc 11 (xc0 R0) (VL (n:=t.nc) (vv:=vv) (ln:=t.ln) (f:=t.C) w (hT.C.below hS.below) (by omega) (fun k k0 k1=>by have:=hp.len (i:=k) (by omega) (by omega);omega)) ?_;rintro qu w ⟨_,qx,rfl,qw,hS'⟩
     replace hS:=(hS.comp hS').n7;clear hS'
     have xa:=fun k (k0:0<=k) (k1:k<t.nc)=>hS.slhIn 6 rfl k0 k1
     refine⟨⟨fun _=>hS.pk [0,1],hS.pk [0,1]⟩,?_⟩
     refine zdv 12 (fun _=>(xany (v:= .agg #[.int .i64 t.vars,.int .i64 ((t.C (row+1)) (col+1)),vq1,vq2,qu]) (hr:=by obtain⟨_,_,_,_,rfl,_⟩:=qc;obtain⟨_,_,_,_,rfl,_⟩:=qr;obtain⟨_,_,_,_,rfl,_⟩:=qw;kernel_rfl))) ?_
     refine zde 14 (xsw 4 Zy hS (hd:=(Za rfl (Za rfl (Za qc.one (Za qr.one (Za qw.one Zg))))))) ?_;clear hS;rintro w hS
     refine⟨⟨fun h=>absurd h (by decide),hS.pk [0,1]⟩,?_⟩
     refine zdd<|zgj ⟨g3,vq1,vq2,qu,qx,qc,qr,qw,xa,rfl,hS.pk [0,1,2,3,5,6,4]⟩
    refine zka (xal (cs:= [_,_,_,_,_]) Xg hS) ?_;rintro _ w ⟨g3,rfl,hS⟩
    refine⟨⟨fun _=>hS.pk [0,1],hS.pk [0,1]⟩,?_⟩
    refine zdc 8 (xc0 cl_70) (c_clone (n:=t.nf) (f:=t.F) w (hT.F.below hS.below) (by omega)) ?_;rintro vq2 w ⟨_,rfl,qr,hS'⟩
    replace hS:=(hS.comp hS').n5;clear hS'
    refine⟨⟨fun _=>hS.pk [0,1],hS.pk [0,1]⟩,?_⟩
    refine zdc 11 (xc0 R0) (VL (n:=t.nc) (vv:=vv) (ln:=t.ln) (f:=t.C) w (hT.C.below hS.below) (by omega) (fun k k0 k1=>by have:=hp.len (i:=k) (by omega) (by omega);omega)) ?_;rintro qu w ⟨_,qx,rfl,qw,hS'⟩
    replace hS:=(hS.comp hS').n7;clear hS'
    have xa:=fun k (k0:0<=k) (k1:k<t.nc)=>hS.slhIn 6 rfl k0 k1
    refine⟨⟨fun _=>hS.pk [0,1],hS.pk [0,1]⟩,?_⟩
    refine zdv 12 (fun _=>(xany (v:= .agg #[.int .i64 t.vars,.int .i64 ((t.C (row+1)) (col+1)),vq1,vq2,qu]) (hr:=by obtain⟨_,_,_,_,rfl,_⟩:=qc;obtain⟨_,_,_,_,rfl,_⟩:=qr;obtain⟨_,_,_,_,rfl,_⟩:=qw;kernel_rfl))) ?_
    refine zde 14 (xsw 3 Zy hS (hd:=(Za rfl (Za rfl (Za qc.one (Za qr.one (Za qw.one Zg))))))) ?_;clear hS;rintro w hS
    refine⟨⟨fun h=>absurd h (by decide),hS.pk [0,1]⟩,?_⟩
    refine zdd<|zgj ⟨g3,vq1,vq2,qu,qx,qc,qr,qw,xa,rfl,hS.pk [0,1,2,4,5,6,3]⟩
   refine zka (xal (cs:= [_,_,_,_,_]) Xg hS) ?_;rintro _ w ⟨g3,rfl,hS⟩
   refine⟨⟨fun _=>hS.pk [0,1],hS.pk [0,1]⟩,?_⟩
   refine zdc 5 (xc0 cl_70) (c_clone (n:=t.nb) (f:=t.B) w (hT.B.below hS.below) (by omega)) ?_;rintro vq1 w ⟨_,rfl,qc,hS'⟩
   replace hS:=(hS.comp hS').n4;clear hS'
   refine⟨⟨fun _=>hS.pk [0,1],hS.pk [0,1]⟩,?_⟩
   refine zdc 8 (xc0 cl_70) (c_clone (n:=t.nf) (f:=t.F) w (hT.F.below hS.below) (by omega)) ?_;rintro vq2 w ⟨_,rfl,qr,hS'⟩
   replace hS:=(hS.comp hS').n5;clear hS'
   refine⟨⟨fun _=>hS.pk [0,1],hS.pk [0,1]⟩,?_⟩
   refine zdc 11 (xc0 R0) (VL (n:=t.nc) (vv:=vv) (ln:=t.ln) (f:=t.C) w (hT.C.below hS.below) (by omega) (fun k k0 k1=>by have:=hp.len (i:=k) (by omega) (by omega);omega)) ?_;rintro qu w ⟨_,qx,rfl,qw,hS'⟩
   replace hS:=(hS.comp hS').n7;clear hS'
   have xa:=fun k (k0:0<=k) (k1:k<t.nc)=>hS.slhIn 6 rfl k0 k1
   refine⟨⟨fun _=>hS.pk [0,1],hS.pk [0,1]⟩,?_⟩
   refine zdv 12 (fun _=>(xany (v:= .agg #[.int .i64 t.vars,.int .i64 ((t.C (row+1)) (col+1)),vq1,vq2,qu]) (hr:=by obtain⟨_,_,_,_,rfl,_⟩:=qc;obtain⟨_,_,_,_,rfl,_⟩:=qr;obtain⟨_,_,_,_,rfl,_⟩:=qw;kernel_rfl))) ?_
   refine zde 14 (xsw 2 Zy hS (hd:=(Za rfl (Za rfl (Za qc.one (Za qr.one (Za qw.one Zg))))))) ?_;clear hS;rintro w hS
   refine⟨⟨fun h=>absurd h (by decide),hS.pk [0,1]⟩,?_⟩
   refine zdd<|zgj ⟨g3,vq1,vq2,qu,qx,qc,qr,qw,xa,rfl,hS.pk [0,1,3,4,5,6,2]⟩
  clear hS w;rintro M w ⟨g3,vq1,vq2,qu,qx,qc,qr,qw,xa,rfl,hS⟩
  refine ztn<|zsq<|zdst [0,1,2,3,4,5,6] [0,1,4,5,6] 17 mx_ hS ?_;clear hS;intro w hS
  refine(zDw 0 (xfb 2 fd_204_2))<|(zDl 1 (fun w hS=>(xlb 4 pl_22 hS)))<|(zDw 2 xmv)<|(zDw 3 (xfb 3 fd_204_3))<|(zDl 4 (fun w hS=>(xlb 4 pl_22 hS)))<|(zDw 5 xmv)<|(zDw 6 (xfb 3 fd_204_3))<|(zDl 7 (fun w hS=>(xlb 0 pl_22 hS)))<|(zDw 8 xmv)<|(zDw 9 (xix (kk:=col) Zb hT.F.slh))<|(zDl 10 (fun w hS=>(xlr (u:= .int .i64 (t.F col)) pl_3 (hT.F.below hS.below))))<|(zDw 11 (xfb 2 fd_204_2))<|(zDl 12 (fun w hS=>(xlb 0 pl_22 hS)))<|(zDw 13 xmv)<|zDrv 14 (xix (kk:=row) Zb hT.B.slh) ?_
  refine(zDl 15 (fun w hS=>(xlr (u:= .int .i64 (t.B row)) pl_3 (hT.B.below hS.below))))<|(zDw 16 (xix (kk:=row) Zb qc))<|zde 17 (xso 2 pl_3 hS (ZE _ _ _)) ?_;clear hS;rintro w hS
  refine⟨⟨fun h=>absurd h (by decide),hS.pk [0,1,4,5,6]⟩,?_⟩
  refine(zDw 18 (xix (kk:=col) Zb qr))<|zde 19 (xso 3 pl_3 hS (ZE _ _ _)) ?_;clear hS;rintro w hS
  refine⟨⟨fun h=>absurd h (by decide),hS.pk [0,1,4,5,6]⟩,?_⟩
  refine zdd<|ztn<|zsq<|zsr ?_
  refine(zV (xfb 4 fd_204_4))<|(zV (xlb 0 Zu hS))<|(zV (xln Zi hT.C.row.slh))<|(zP)<|zx6<|zlp (fun mm M w=>∃(cf:Int->Int->Int) (i:Int),mm=((t.nc-i).toNat)/\(0<=i)/\(i<=t.nc)/\(∀a b,0<=a->a<i->0<=b->b<=t.nf->cf a b=ZS t (row+1) (col+1) a b)/\(∀a b,0<=a->a<i->0<=b->b<=t.nf->RU t (row+1) (col+1) a b)/\M= [(3,.pointer (some ⟨g1,0,none⟩)),(6,.pointer (some ⟨g2,0,none⟩)),(8,.int .i64 (row+1)),(9,.int .i64 (col+1)),(10,.int .i64 ((t.C (row+1)) (col+1))),(11,.int .i64 t.den),(12,.pointer (some ⟨g3,0,none⟩)),(105,vC),(106,.int .i64 t.nc),(107,.int .i64 i)]/\Sat w0 w [.blk g1 [.int .i64 t.vars,.int .i64 t.den,vB,vF,vC],.blk g2 [.int .i64 0,.int .i64 0,.slice none 0 0,.slice none 0 0,.slice none 0 0],.own vq1 1 3 t.nb (ints (upd t.B row (t.F col))),.own vq2 1 3 t.nf (ints (upd t.F col (t.B row))),.own qu 1 22 t.nc qx,.sem (Frame.rows 3 t.nc qx t.ln cf),.blk g3 [.int .i64 t.vars,.int .i64 ((t.C (row+1)) (col+1)),vq1,vq2,qu]]) ⟨t.C,0,rfl,(by omega),(by omega),?_,?_,rfl,hS⟩ ?_
  ·
   intro a b a0 a1;omega
  ·
   intro a b a0 a1;omega
  clear hS w
  rintro mm M w ⟨cf,i,rfl,h0,h1,hcf,hdv,rfl,hS⟩
  refine zsr<|(zP)<|zx7<|Ze ?_ ?_<;>intro hc
  ·
   refine zx3<|(zP)<|(zV (xix (kk:=i) Zi hT.C.row.slh))<|zlv (xlr (u:=(vv i)) pl_22 (hT.C.row.below hS.below)) ?_
   have hli:=hp.len (i:=i) (by omega) (by omega)
   refine(zP)<|(zP)<|zlz<|(zP)<|(zV (xln Zb (hT.C.p i (by omega) (by omega)).slh))<|(zP)<|zx6<|zlp (fun mm M w=>∃(cf:Int->Int->Int) (j:Int),mm=((t.nf+1-j).toNat)/\(0<=j)/\(j<=t.nf+1)/\(∀a b,0<=a->a<i->0<=b->b<=t.nf->cf a b=ZS t (row+1) (col+1) a b)/\(∀b,0<=b->b<j->cf i b=ZS t (row+1) (col+1) i b)/\(∀b,0<=b->b<j->RU t (row+1) (col+1) i b)/\M= [(3,.pointer (some ⟨g1,0,none⟩)),(6,.pointer (some ⟨g2,0,none⟩)),(8,.int .i64 (row+1)),(9,.int .i64 (col+1)),(10,.int .i64 ((t.C (row+1)) (col+1))),(11,.int .i64 t.den),(12,.pointer (some ⟨g3,0,none⟩)),(13,.int .i64 i),(14,(vv i)),(105,vC),(106,.int .i64 t.nc),(107,.int .i64 i),(112,(vv i)),(113,.int .i64 (t.ln i)),(114,.int .i64 j)]/\Sat w0 w [.blk g1 [.int .i64 t.vars,.int .i64 t.den,vB,vF,vC],.blk g2 [.int .i64 0,.int .i64 0,.slice none 0 0,.slice none 0 0,.slice none 0 0],.own vq1 1 3 t.nb (ints (upd t.B row (t.F col))),.own vq2 1 3 t.nf (ints (upd t.F col (t.B row))),.own qu 1 22 t.nc qx,.sem (Frame.rows 3 t.nc qx t.ln cf),.blk g3 [.int .i64 t.vars,.int .i64 ((t.C (row+1)) (col+1)),vq1,vq2,qu]]) ⟨cf,0,rfl,(by omega),(by omega),?_,?_,?_,rfl,hS⟩ ?_
   ·
    exact hcf
   ·
    intro b b0 b1;omega
   ·
    intro b b0 b1;omega
   clear hS w
   rintro mm M w ⟨cf,j,rfl,j0,j1,bm,qO,hdr,rfl,hS⟩
   refine zsr<|(zP)<|zx7<|Ze ?_ ?_<;>intro hc
   ·
    refine zx3<|(zP)<|(zV (xix (kk:=j) Zb (hT.C.p i (by omega) (by omega)).slh))<|zlv (xlr (u:= .int .i64 ((t.C i) j)) pl_3 ((hT.C.p i (by omega) (by omega)).below hS.below)) ?_
    have hcb:=hp.cell (i:=i) (j:=j) (by omega) (by omega) (by omega) (by omega)
    refine(zP)<|(zP)<|zlt<|zsq<|zbk<|zsr<|zs4 ?_
    refine zlb 123 ?_ ?_<;>intro hc
    ·
     refine zs5 ?_
     refine zlt<|Ze ?_ ?_<;>intro hc
     ·
      refine zrg<|(zP)<|(zP)<|zx10<|(zV (xfb 4 fd_204_4))<|(zV (xlb 6 Zu hS))<|(zP)<|(zV (xix (kk:=i) Zi qw))<|zlv (xlr (u:=(qx i)) pl_22 (hS.rowN 4 rfl)) ?_
      skip
      refine(zP)<|(zP)<|(zV (xix (kk:=j) Zb (xa i (by omega) (by omega))))<|zle (xsr 5 pl_3 hS rfl) ?_;clear hS;rintro w hS
      refine zx10<|(zV (Zf (r:=j+1)))<|(zP)<|zln<|zlq ⟨upd cf i (upd (cf i) j t.den),j+1,rfl,(by omega),(by omega),?_,?_,?_,rfl,hS⟩
      ·
       intro a b a0 a1 b0 b1;rw [gu_ne (by omega)];exact bm a b a0 a1 b0 b1
      ·
       intro b b0 b1
       by_cases e:b=j
       · subst e;rw [gu_self,gu_self];unfold ZS;(repeat' split)<;>first|rfl|omega|(exfalso;omega)
       · rw [gu_self,gu_ne e];exact qO b b0 (by omega)
      ·
       intro b b0 b1
       by_cases e:b=j
       · subst e;intro e1 e2;first|omega|exact Classical.not_not.1 ‹_›
       · exact hdr b b0 (by omega)
     refine zsr<|(zP)<|(zP)<|(zV (xkt YO))<|(zP)<|zlt<|zct<|zrg ?_
     refine(zP)<|zlv (ZaG (r:= -(((t.C i) j))) (hr:=(by unfold I64;omega))) ?_
     refine(zP)<|zx10<|(zV (xfb 4 fd_204_4))<|(zV (xlb 6 Zu hS))<|(zP)<|(zV (xix (kk:=i) Zi qw))<|zlv (xlr (u:=(qx i)) pl_22 (hS.rowN 4 rfl)) ?_
     skip
     refine(zP)<|(zP)<|(zV (xix (kk:=j) Zb (xa i (by omega) (by omega))))<|zle (xsr 5 pl_3 hS rfl) ?_;clear hS;rintro w hS
     refine zx10<|(zV (Zf (r:=j+1)))<|(zP)<|zln<|zlq ⟨upd cf i (upd (cf i) j (-(((t.C i) j)))),j+1,rfl,(by omega),(by omega),?_,?_,?_,rfl,hS⟩
     ·
      intro a b a0 a1 b0 b1;rw [gu_ne (by omega)];exact bm a b a0 a1 b0 b1
     ·
      intro b b0 b1
      by_cases e:b=j
      · subst e;rw [gu_self,gu_self];unfold ZS;(repeat' split)<;>first|rfl|omega|(exfalso;omega)
      · rw [gu_self,gu_ne e];exact qO b b0 (by omega)
     ·
      intro b b0 b1
      by_cases e:b=j
      · subst e;intro e1 e2;first|omega|exact Classical.not_not.1 ‹_›
      · exact hdr b b0 (by omega)
    iterate 3 refine zlo ?_
    refine(zP)<|(zP)<|zlt<|zcf<|zsr ?_
    refine zs4 ?_
    refine zlt<|Ze ?_ ?_<;>intro hc
    ·
     exfalso;omega
    refine zsr<|zs4 ?_
    refine zlt<|Ze ?_ ?_<;>intro hc
    ·
     refine zsq<|zdst [0,1,2,3,4,5,6] [0,1,2,3,4,5,6] 1000 mx_ hS ?_;clear hS;intro w hS
     refine zDrv 0 xmv ?_
     have hm1:=YY hpb hcb;have hm2:=YY (hp.cell (i:=i) (j:=col+1) (by omega) (by omega) (by omega) (by omega)) (hp.cell (i:=row+1) (j:=j) (by omega) (by omega) (by omega) (by omega))
     have hqd:=Yx (a:=t.C (row+1) (col+1)*t.C i j-t.C i (col+1)*t.C (row+1) j) (d:=t.den) (A:=2305843009213693952) (by omega) (by omega)
     refine(zDw 1 xmv)<|zdv 2 (fun _=>(Z4 (r:=(((t.C (row+1)) (col+1))*((t.C i) j))) (e:=rfl) (hr:=(by unfold I64;omega)))) ?_
     refine(zDw 3 xmv)<|(zDw 4 xmv)<|(zDw 5 (xix (kk:=col+1) Zb (hT.C.p i (by omega) (by omega)).slh))<|(zDl 6 (fun w hS=>(xlr (u:= .int .i64 ((t.C i) (col+1))) pl_3 ((hT.C.p i (by omega) (by omega)).below hS.below))))<|(zDw 7 (xfb 4 fd_204_4))<|(zDl 8 (fun w hS=>(xlb 0 Zu hS)))<|(zDw 9 xmv)<|(zDw 10 (xix (kk:=row+1) Zi hT.C.row.slh))<|(zDl 11 (fun w hS=>(xlr (u:=(vv (row+1))) pl_22 (hT.C.row.below hS.below))))<|(zDw 12 xmv)<|(zDw 13 (xix (kk:=j) Zb (hT.C.p (row+1) (by omega) (by omega)).slh))<|(zDl 14 (fun w hS=>(xlr (u:= .int .i64 ((t.C (row+1)) j)) pl_3 ((hT.C.p (row+1) (by omega) (by omega)).below hS.below))))<|zdv 15 (fun _=>(Z4 (r:=(((t.C i) (col+1))*((t.C (row+1)) j))) (e:=rfl) (hr:=(by unfold I64;omega)))) ?_
     refine zdv 16 (fun _=>(ZD (r:=(((t.C (row+1)) (col+1))*((t.C i) j))-(((t.C i) (col+1))*((t.C (row+1)) j))) (hr:=(by unfold I64;omega)))) ?_
     refine(zDw 17 xas)<|zdd<|ztn<|zsq<|zsr ?_
     refine(zP)<|(zP)<|(zV (Rq (r:=(Int.tmod ((((t.C (row+1)) (col+1))*((t.C i) j))-(((t.C i) (col+1))*((t.C (row+1)) j))) t.den)) (hn:=(by omega))))<|(zP)<|zlt<|Ze ?_ ?_<;>intro hc
     ·
      refine zsr<|(zV (xany (v:= .agg #[.int .i64 0,.int .i64 0,.slice none 0 0,.slice none 0 0,.slice none 0 0])))<|zle (xsw 1 Zy hS) ?_;clear hS;rintro w hS
      refine(zP)<|zlt<|zrt<|ztr<|zbr<|ztr<|zbr<|ztr<|ztr<|zbr<|zbr<|ztr<|ztr<|zbr<|ztr<|ZW 1 Zy hS ⟨_,rfl,?_⟩
      exact⟨_,_,_,fun _=>undef,Tb.zero,4,rfl,.inr (.inl ⟨⟨hp,by omega,by omega,by omega,by omega,hnz⟩,fun hd=>by have:=hd i j h0 (by omega) j0 (by omega) (by omega) (by omega);omega,rfl,rfl⟩),slh_nil,slh_nil,slh_nil,((((hS.sub (.cons _ (.cons _ (.cons _ (.cons _ (.cons _ (.cons _ (.cons _ .slnil)))))))).addnil 1 3 (ints Tb.zero.B)).addnil 1 3 (ints Tb.zero.F)).addnil 1 22 (fun _=>undef)).addrows 3 (fun _=>undef) Tb.zero.ln Tb.zero.C⟩
     refine zsk<|ztn<|zrg<|(zP)<|(zP)<|zlv (Ut (r:=(Int.tdiv ((((t.C (row+1)) (col+1))*((t.C i) j))-(((t.C i) (col+1))*((t.C (row+1)) j))) t.den)) (hn:=(by omega)) (hr:=(by unfold I64;omega))) ?_
     refine(zP)<|zx10<|(zV (xfb 4 fd_204_4))<|(zV (xlb 6 Zu hS))<|(zP)<|(zV (xix (kk:=i) Zi qw))<|zlv (xlr (u:=(qx i)) pl_22 (hS.rowN 4 rfl)) ?_
     skip
     refine(zP)<|(zP)<|(zV (xix (kk:=j) Zb (xa i (by omega) (by omega))))<|zle (xsr 5 pl_3 hS rfl) ?_;clear hS;rintro w hS
     refine zx10<|(zV (Zf (r:=j+1)))<|(zP)<|zln<|zlq ⟨upd cf i (upd (cf i) j (Int.tdiv ((((t.C (row+1)) (col+1))*((t.C i) j))-(((t.C i) (col+1))*((t.C (row+1)) j))) t.den)),j+1,rfl,(by omega),(by omega),?_,?_,?_,rfl,hS⟩
     ·
      intro a b a0 a1 b0 b1;rw [gu_ne (by omega)];exact bm a b a0 a1 b0 b1
     ·
      intro b b0 b1
      by_cases e:b=j
      · subst e;rw [gu_self,gu_self];unfold ZS;(repeat' split)<;>first|rfl|omega|(exfalso;omega)
      · rw [gu_self,gu_ne e];exact qO b b0 (by omega)
     ·
      intro b b0 b1
      by_cases e:b=j
      · subst e;intro e1 e2;first|omega|exact Classical.not_not.1 ‹_›
      · exact hdr b b0 (by omega)
    refine zx4<|(zV (xfb 4 fd_204_4))<|(zV (xlb 6 Zu hS))<|(zP)<|(zV (xix (kk:=i) Zi qw))<|zlv (xlr (u:=(qx i)) pl_22 (hS.rowN 4 rfl)) ?_
    skip
    refine(zP)<|(zP)<|(zV (xix (kk:=j) Zb (xa i (by omega) (by omega))))<|zle (xsr 5 pl_3 hS rfl) ?_;clear hS;rintro w hS
    refine zx10<|(zV (Zf (r:=j+1)))<|(zP)<|zln<|zlq ⟨upd cf i (upd (cf i) j ((t.C i) j)),j+1,rfl,(by omega),(by omega),?_,?_,?_,rfl,hS⟩
    ·
     intro a b a0 a1 b0 b1;rw [gu_ne (by omega)];exact bm a b a0 a1 b0 b1
    ·
     intro b b0 b1
     by_cases e:b=j
     · subst e;rw [gu_self,gu_self];unfold ZS;(repeat' split)<;>first|rfl|omega|(exfalso;omega)
     · rw [gu_self,gu_ne e];exact qO b b0 (by omega)
    ·
     intro b b0 b1
     by_cases e:b=j
     · subst e;intro e1 e2;first|omega|exact Classical.not_not.1 ‹_›
     · exact hdr b b0 (by omega)
   refine zx21<|(zV (Zf (r:=i+1)))<|(zP)<|zln<|zlq ⟨cf,i+1,rfl,(by omega),(by omega),?_,?_,rfl,hS⟩
   ·
    intro a b a0 a1 b0 b1
    by_cases e:a=i
    · subst e;exact qO b b0 (by omega)
    · exact bm a b a0 (by omega) b0 b1
   ·
    intro a b a0 a1 b0 b1
    by_cases e:a=i
    · subst e;exact hdr b b0 (by omega)
    · exact hdv a b a0 (by omega) b0 b1
  refine zx18<|zlv xmv ?_
  have hin:i=t.nc:=by omega
  have bS:ZaS t row col:=fun a b a0 a1 b0 b1=>hdv a b a0 (by omega) b0 b1
  refine(zP)<|zlt<|Ze ?_ ?_<;>intro hc
  ·
   refine zsr<|(zP)<|zlv (ZaG (r:= -(((t.C (row+1)) (col+1)))) (hr:=(by unfold I64;omega))) ?_
   refine(zV (xfb 1 fd_204_1))<|zle (xsb 6 pl_3 hS) ?_;clear hS;rintro w hS
   refine zlz<|(zV (xfb 4 fd_204_4))<|(zV (xlb 6 Zu hS))<|(zV (xln Zi qw))<|(zP)<|zx6<|zlp (fun mm M w=>∃(cf:Int->Int->Int) (k:Int),mm=((t.nc-k).toNat)/\(0<=k)/\(k<=t.nc)/\(∀a b,0<=a->a<k->0<=b->b<=t.nf->cf a b= -ZS t (row+1) (col+1) a b)/\(∀a b,k<=a->a<t.nc->0<=b->b<=t.nf->cf a b=ZS t (row+1) (col+1) a b)/\M= [(6,.pointer (some ⟨g2,0,none⟩)),(12,.pointer (some ⟨g3,0,none⟩)),(180,qu),(181,.int .i64 t.nc),(182,.int .i64 k)]/\Sat w0 w [.blk g1 [.int .i64 t.vars,.int .i64 t.den,vB,vF,vC],.blk g2 [.int .i64 0,.int .i64 0,.slice none 0 0,.slice none 0 0,.slice none 0 0],.own vq1 1 3 t.nb (ints (upd t.B row (t.F col))),.own vq2 1 3 t.nf (ints (upd t.F col (t.B row))),.own qu 1 22 t.nc qx,.sem (Frame.rows 3 t.nc qx t.ln cf),.blk g3 [.int .i64 t.vars,.int .i64 (-(((t.C (row+1)) (col+1)))),vq1,vq2,qu]]) ⟨cf,0,rfl,(by omega),(by omega),?_,?_,rfl,hS⟩ ?_
   ·
    intro a b a0 a1;omega
   ·
    intro a b a0 a1 b0 b1;exact hcf a b (by omega) (by omega) b0 b1
   clear hS w
   rintro mm M w ⟨cf,k,rfl,k0,k1,hng,hps,rfl,hS⟩
   refine zsr<|(zP)<|zx7<|Ze ?_ ?_<;>intro hc
   ·
    refine zx3<|(zV (xix (kk:=k) Zi qw))<|zlv (xlr (u:=(qx k)) pl_22 (hS.rowN 4 rfl)) ?_
    have hlk:=hp.len (i:=k) (by omega) (by omega)
    refine(zP)<|zlz<|(zP)<|(zV (xln Zb (xa k (by omega) (by omega))))<|(zP)<|zx6<|zlp (fun mm M w=>∃(cf:Int->Int->Int) (q:Int),mm=((t.nf+1-q).toNat)/\(0<=q)/\(q<=t.nf+1)/\(∀a b,0<=a->a<k->0<=b->b<=t.nf->cf a b= -ZS t (row+1) (col+1) a b)/\(∀a b,k+1<=a->a<t.nc->0<=b->b<=t.nf->cf a b=ZS t (row+1) (col+1) a b)/\(∀b,0<=b->b<q->cf k b= -ZS t (row+1) (col+1) k b)/\(∀b,q<=b->b<=t.nf->cf k b=ZS t (row+1) (col+1) k b)/\M= [(6,.pointer (some ⟨g2,0,none⟩)),(12,.pointer (some ⟨g3,0,none⟩)),(18,(qx k)),(180,qu),(181,.int .i64 t.nc),(182,.int .i64 k),(187,.int .i64 (t.ln k)),(188,.int .i64 q)]/\Sat w0 w [.blk g1 [.int .i64 t.vars,.int .i64 t.den,vB,vF,vC],.blk g2 [.int .i64 0,.int .i64 0,.slice none 0 0,.slice none 0 0,.slice none 0 0],.own vq1 1 3 t.nb (ints (upd t.B row (t.F col))),.own vq2 1 3 t.nf (ints (upd t.F col (t.B row))),.own qu 1 22 t.nc qx,.sem (Frame.rows 3 t.nc qx t.ln cf),.blk g3 [.int .i64 t.vars,.int .i64 (-(((t.C (row+1)) (col+1)))),vq1,vq2,qu]]) ⟨cf,0,rfl,(by omega),(by omega),?_,?_,?_,?_,rfl,hS⟩ ?_
    ·
     exact hng
    ·
     intro a b a0 a1 b0 b1;exact hps a b (by omega) a1 b0 b1
    ·
     intro b b0 b1;omega
    ·
     intro b b0 b1;exact hps k b (Int.le_refl _) (by omega) (by omega) b1
    clear hS w
    rintro mm M w ⟨cf,q,rfl,q0,q1,hng,hps,dY,dZ,rfl,hS⟩
    refine zsr<|(zP)<|zx7<|Ze ?_ ?_<;>intro hc
    ·
     refine zx3<|(zP)<|(zP)<|zlt<|zrg<|zs4 ?_
     refine(zV (xix (kk:=q) Zb (xa k (by omega) (by omega))))<|zlv (xlr (u:= .int .i64 (cf k q)) pl_3 (hS.rowIn (k:=k) 5 rfl (by omega) (by omega))) ?_
     have d7:=dZ q (Int.le_refl _) (by omega)
     have hpc: -9223372036854775807<=cf k q/\cf k q<=9223372036854775807:=by rw [d7];exact KJ hp (by omega) (by omega) (by omega) (by omega) (by omega) (by omega) (by omega) (by omega)
     refine zlv (ZaG (r:= -((cf k q))) (hr:=(by unfold I64;omega))) ?_
     refine(zV (xix (kk:=q) Zb (xa k (by omega) (by omega))))<|zle (xsr 5 pl_3 hS rfl) ?_;clear hS;rintro w hS
     refine zx10<|(zV (Zf (r:=q+1)))<|(zP)<|zln<|zlq ⟨upd cf k (upd (cf k) q (-((cf k q)))),q+1,rfl,(by omega),(by omega),?_,?_,?_,?_,rfl,hS⟩
     ·
      intro a b a0 a1 b0 b1;rw [gu_ne (by omega)];exact hng a b a0 a1 b0 b1
     ·
      intro a b a0 a1 b0 b1;rw [gu_ne (by omega)];exact hps a b a0 a1 b0 b1
     ·
      intro b b0 b1
      by_cases e:b=q
      · subst e;rw [gu_self,gu_self,d7]
      · rw [gu_self,gu_ne e];exact dY b b0 (by omega)
     ·
      intro b b0 b1;rw [gu_self,gu_ne (by omega)];exact dZ b (by omega) b1
    refine zx21<|(zV (Zf (r:=k+1)))<|(zP)<|zln<|zlq ⟨cf,k+1,rfl,(by omega),(by omega),?_,?_,rfl,hS⟩
    ·
     intro a b a0 a1 b0 b1
     by_cases e:a=k
     · subst e;exact dY b b0 (by omega)
     · exact hng a b a0 (by omega) b0 b1
    ·
     intro a b a0 a1 b0 b1;exact hps a b (by omega) a1 b0 b1
   refine zx18<|zlv (xls 6 Zy hS) ?_
   have yN: -(((t.C (row+1)) (col+1)))=(piv t row col).den:=(if_pos (by omega)).symm
   replace hS:=hS.rerows (vv':=qx) (ln':=(piv t row col).ln) (f':=(piv t row col).C) 5 rfl (fun k k0 k1=>⟨rfl,rfl,fun j j0 j1=>by
     have hlk:=hp.len (i:=k) (by omega) (by omega)
     exact(hng k j k0 (by omega) j0 (by omega)).trans (if_pos (by omega)).symm⟩)
   rw [yN] at hS⊢
   obtain⟨u,huu⟩:∃u,u=piv t row col:=⟨_,rfl⟩
   have za:Slh vq1 u.nb:=by subst huu;exact qc
   have y8:Slh vq2 u.nf:=by subst huu;exact qr
   have y9:Slh qu u.nc:=by subst huu;exact qw
   replace hS:Sat w0 w [.blk g1 [.int .i64 t.vars,.int .i64 t.den,vB,vF,vC],.blk g2 [.int .i64 0,.int .i64 0,.slice none 0 0,.slice none 0 0,.slice none 0 0],.own vq1 1 3 u.nb (ints u.B),.own vq2 1 3 u.nf (ints u.F),.own qu 1 22 u.nc qx,.sem (Frame.rows 3 u.nc qx u.ln u.C),.blk g3 [.int .i64 u.vars,.int .i64 u.den,vq1,vq2,qu]]:=by subst huu;exact hS
   have ff:=fun k (k0:0<=k) (k1:k<u.nc)=>hS.slhIn 5 rfl k0 k1
   refine ZcW 201 (u:= .agg #[.int .i64 u.vars,.int .i64 u.den,vq1,vq2,qu]) (by subst huu;first|rfl|(congr 1)) ?_
   refine zlc (xc0 R1) (VJ (t:=u) w (⟨(hS.rowN 2 rfl),(hS.rowN 3 rfl),(⟨(hS.rowN 4 rfl),fun k k0 k1=>hS.rowIn 5 rfl k0 k1,fun k k0 k1=>hS.roomIn 5 rfl k0 k1⟩:MAt _ qu u.nc qx u.ln u.C)⟩:TAt _ vq1 vq2 qu qx u)) ?_;rintro _ w ⟨rfl,hS'⟩
   replace hS:=hS.cmp hS';clear hS'
   refine(zP)<|zlt<|Ze ?_ ?_<;>intro hc
   ·
    refine zsr<|(zV (xany (v:= .agg #[.int .i64 0,.int .i64 0,.slice none 0 0,.slice none 0 0,.slice none 0 0])))<|zle (xsw 1 Zy hS) ?_;clear hS;rintro w hS
    refine(zP)<|zx14<|ZW 1 Zy hS ⟨_,rfl,?_⟩
    exact⟨_,_,_,fun _=>undef,Tb.zero,2,rfl,.inr (.inr (.inl ⟨⟨hp,by omega,by omega,by omega,by omega,hnz⟩,bS,huu▸‹¬TPrp u›,rfl,rfl⟩)),slh_nil,slh_nil,slh_nil,((((hS.sub (.cons _ (.cons _ (.cons _ (.cons _ (.cons _ (.cons _ (.cons _ .slnil)))))))).addnil 1 3 (ints Tb.zero.B)).addnil 1 3 (ints Tb.zero.F)).addnil 1 22 (fun _=>undef)).addrows 3 (fun _=>undef) Tb.zero.ln Tb.zero.C⟩
   refine Z7<|(zV (xls 6 Zy hS))<|zle (xsw 1 Zy hS (hd:=(Za rfl (Za rfl (Za za.one (Za y8.one (Za y9.one Zg))))))) ?_;clear hS;rintro w hS
   refine(zP)<|zx1<|ZW 1 Zy hS ⟨_,rfl,?_⟩
   exact⟨_,_,_,_,u,0,rfl,.inr (.inr (.inr ⟨⟨hp,by omega,by omega,by omega,by omega,hnz⟩,bS,huu▸(Classical.not_not.1 ‹¬¬(TPrp u)›),huu,rfl⟩)),za,y8,y9,hS.pk [2,3,4,5]⟩
  refine Xb<|zlv (xls 6 Zy hS) ?_
  have yN:((t.C (row+1)) (col+1))=(piv t row col).den:=(if_neg (by omega)).symm
  replace hS:=hS.rerows (vv':=qx) (ln':=(piv t row col).ln) (f':=(piv t row col).C) 5 rfl (fun k k0 k1=>⟨rfl,rfl,fun j j0 j1=>by
    have hlk:=hp.len (i:=k) (by omega) (by omega)
    exact(hcf k j k0 (by omega) j0 (by omega)).trans (if_neg (by omega)).symm⟩)
  rw [yN] at hS⊢
  obtain⟨u,huu⟩:∃u,u=piv t row col:=⟨_,rfl⟩
  have za:Slh vq1 u.nb:=by subst huu;exact qc
  have y8:Slh vq2 u.nf:=by subst huu;exact qr
  have y9:Slh qu u.nc:=by subst huu;exact qw
  replace hS:Sat w0 w [.blk g1 [.int .i64 t.vars,.int .i64 t.den,vB,vF,vC],.blk g2 [.int .i64 0,.int .i64 0,.slice none 0 0,.slice none 0 0,.slice none 0 0],.own vq1 1 3 u.nb (ints u.B),.own vq2 1 3 u.nf (ints u.F),.own qu 1 22 u.nc qx,.sem (Frame.rows 3 u.nc qx u.ln u.C),.blk g3 [.int .i64 u.vars,.int .i64 u.den,vq1,vq2,qu]]:=by subst huu;exact hS
  have ff:=fun k (k0:0<=k) (k1:k<u.nc)=>hS.slhIn 5 rfl k0 k1
  refine ZcW 201 (u:= .agg #[.int .i64 u.vars,.int .i64 u.den,vq1,vq2,qu]) (by subst huu;first|rfl|(congr 1)) ?_
  refine zlc (xc0 R1) (VJ (t:=u) w (⟨(hS.rowN 2 rfl),(hS.rowN 3 rfl),(⟨(hS.rowN 4 rfl),fun k k0 k1=>hS.rowIn 5 rfl k0 k1,fun k k0 k1=>hS.roomIn 5 rfl k0 k1⟩:MAt _ qu u.nc qx u.ln u.C)⟩:TAt _ vq1 vq2 qu qx u)) ?_;rintro _ w ⟨rfl,hS'⟩
  replace hS:=hS.cmp hS';clear hS'
  refine(zP)<|zlt<|Ze ?_ ?_<;>intro hc
  ·
   refine zsr<|(zV (xany (v:= .agg #[.int .i64 0,.int .i64 0,.slice none 0 0,.slice none 0 0,.slice none 0 0])))<|zle (xsw 1 Zy hS) ?_;clear hS;rintro w hS
   refine(zP)<|zx14<|ZW 1 Zy hS ⟨_,rfl,?_⟩
   exact⟨_,_,_,fun _=>undef,Tb.zero,2,rfl,.inr (.inr (.inl ⟨⟨hp,by omega,by omega,by omega,by omega,hnz⟩,bS,huu▸‹¬TPrp u›,rfl,rfl⟩)),slh_nil,slh_nil,slh_nil,((((hS.sub (.cons _ (.cons _ (.cons _ (.cons _ (.cons _ (.cons _ (.cons _ .slnil)))))))).addnil 1 3 (ints Tb.zero.B)).addnil 1 3 (ints Tb.zero.F)).addnil 1 22 (fun _=>undef)).addrows 3 (fun _=>undef) Tb.zero.ln Tb.zero.C⟩
  refine Z7<|(zV (xls 6 Zy hS))<|zle (xsw 1 Zy hS (hd:=(Za rfl (Za rfl (Za za.one (Za y8.one (Za y9.one Zg))))))) ?_;clear hS;rintro w hS
  refine(zP)<|zx1<|ZW 1 Zy hS ⟨_,rfl,?_⟩
  exact⟨_,_,_,_,u,0,rfl,.inr (.inr (.inr ⟨⟨hp,by omega,by omega,by omega,by omega,hnz⟩,bS,huu▸(Classical.not_not.1 ‹¬¬(TPrp u)›),huu,rfl⟩)),za,y8,y9,hS.pk [2,3,4,5]⟩
  all_goals
   refine zOps ?_
   refine zlt<|zct<|zsr ?_
   refine(zV (xany (v:= .agg #[.int .i64 0,.int .i64 0,.slice none 0 0,.slice none 0 0,.slice none 0 0])))<|zle (xsw 1 Zy hS) ?_;clear hS;rintro w hS
   refine zOps ?_
   refine zx14<|ZW 1 Zy hS ⟨_,rfl,?_⟩
   exact⟨_,_,_,fun _=>undef,Tb.zero,1,rfl,.inl ⟨by first|exact fun hh=>absurd hh.1 ‹_›|(rintro⟨_,p1,p2,p3,p4,p5⟩;omega),rfl,rfl⟩,slh_nil,slh_nil,slh_nil,((((hS.sub (.cons _ (.cons _ .slnil))).addnil 1 3 (ints Tb.zero.B)).addnil 1 3 (ints Tb.zero.F)).addnil 1 22 (fun _=>undef)).addrows 3 (fun _=>undef) Tb.zero.ln Tb.zero.C⟩
end Go.Proofs.YtopmifmfecfaaaaGreat
namespace Go.Proofs.Gw
open Go Go.RowKit
variable {i:Int} {a:Int->Int} {n:Nat}
def Zh(f:Int->Int):Nat->Int
  |0=>0
  |k+1=>Zh f k+f k
theorem Z2(f:Int->Int)(h:0<=i):Zh f (i+1).toNat=Zh f i.toNat+f i:=by
  rw [show(i+1).toNat=i.toNat+1 by omega]
  simp only [Zh]
  rw [show((i.toNat:Nat):Int)=i by omega]
theorem Yy{f g:Int->Int}:∀{n:Nat},(∀i,0<=i->i<(n:Int)->f i<=g i)->Zh f n<=Zh g n
  |0,_=>Int.le_refl _
  | n+1,h=>by
    have h1:=Yy (n:=n) (fun i h0 h1=>h i h0 (by omega))
    have h2:=h n (by omega) (by omega)
    simp only [Zh];omega
theorem Zj{f g:Int->Int}(h:∀i,0<=i->i<(n:Int)->f i=g i):Zh f n=Zh g n:=
  Int.le_antisymm (Yy fun i h0 h1=>Int.le_of_eq (h i h0 h1)) (Yy fun i h0 h1=>Int.le_of_eq (h i h0 h1).symm)
theorem ZL:∀n:Nat,Zh (fun _=>0) n=0
  |0=>rfl
  |n+1=>by simp only [Zh,ZL n];rfl
theorem Ym{f:Int->Int}(h:∀i,0<=i->i<(n:Int)->0<=f i):0<=Zh f n:=by
  have:=Yy (f:=fun _=>0) h
  rw [ZL] at this;exact this
theorem Uf(c:Int):∀n:Nat,Zh (fun _=>c) n=n*c
  |0=>by simp [Zh]
  |n+1=>by simp only [Zh,Uf c n];rw [Int.natCast_add,Int.add_mul];simp
theorem Kr{f:Int->Int}{A:Int}(h:∀i,0<=i->i<(n:Int)->0<=f i/\f i<=A):0<=Zh f n/\Zh f n<=n*A:=by
  refine⟨Ym fun i h0 h1=>(h i h0 h1).1,?_⟩
  rw [<-Uf];exact Yy fun i h0 h1=>(h i h0 h1).2
theorem VQ(f g:Int->Int):∀n:Nat,Zh (fun i=>f i+g i) n=Zh f n+Zh g n
  |0=>rfl
  |n+1=>by simp only [Zh,VQ f g n];omega
theorem YB(f:Int->Int)(c:Int):∀n:Nat,Zh (fun i=>f i*c) n=Zh f n*c
  |0=>by simp [Zh]
  |n+1=>by simp only [Zh,YB f c n];rw [Int.add_mul]
theorem W5(f:Int->Int->Int)(n:Nat):∀m:Nat,Zh (fun k=>Zh (fun i=>f i k) n) m=Zh (fun i=>Zh (fun k=>f i k) m) n
  |0=>(ZL n).symm
  | m+1=>by
    simp only [Zh,W5 f n m]
    rw [<-VQ]
theorem XY{f:Int->Int}{j:Int}(h0:0<=j)(h1:j<(n:Int))(h:∀i,0<=i->i<(n:Int)->0<=f i):f j<=Zh f n:=by
  induction n with
  |zero=>omega
  | succ n ih=>
    simp only [Zh]
    have h2:=h n (by omega) (by omega)
    have h3:=Ym (n:=n) (fun i a b=>h i a (by omega))
    by_cases e:j=n
    · subst e;omega
    · have:=ih (by omega) (fun i a b=>h i a (by omega));omega
def Z8(p:Prob)(a:Int->Int)(n:Nat):Int:=Zh (fun i=>a i*(p.L i+p.kerf)) n
structure FitsP (p:Prob) (n:Int) (a:Int->Int):Prop where
  ok:p.Ok
  eq:n=p.m
  all:∀i,0<=i->i<p.m->0<=a i/\a i<=2000
  used:Z8 p a p.m.toNat<=p.stock+p.kerf
structure SoundP (p:Prob) (n:Int) (len:Int->Int) (pt:Int->Int->Int) (cnt:Int->Int):Prop where
  ok:p.Ok
  few:n<=1000
  all:∀i,0<=i->i<n->FitsP p (len i) (pt i)/\1<=cnt i/\cnt i<=1000
def MadeTo(pt:Int->Int->Int)(cnt:Int->Int)(n:Nat)(k:Int):Int:=Zh (fun i=>pt i k*cnt i) n
structure MeetsP (p:Prob) (n:Int) (len:Int->Int) (pt:Int->Int->Int) (cnt:Int->Int):Prop where
  s:SoundP p n len pt cnt
  all:∀k,0<=k->k<p.m->p.D k<=MadeTo pt cnt n.toNat k
theorem TE{p:Prob}(hp:p.Ok)(h0:0<=i)(h1:i<p.m)(ha:0<=a i/\a i<=2000):0<=a i*(p.L i+p.kerf)/\a i*(p.L i+p.kerf)<=4200000:=by
  have h2:=hp.all i h0 h1
  unfold Prob.each at h2
  have:=hp.k1;have:=hp.k2;have:=hp.s2
  have:=XN (a:=a i) (b:=p.L i+p.kerf) (A:=2000) (B:=2100) ha.1 ha.2 (by omega) (by omega)
  omega
theorem UK{p:Prob}(hp:p.Ok)(ha:∀i,0<=i->i<p.m->0<=a i/\a i<=2000){n:Int}(h0:0<=n)(h1:n<=p.m):0<=Z8 p a n.toNat/\Z8 p a n.toNat<=84000000:=by
  have h:=Kr (f:=fun i=>a i*(p.L i+p.kerf)) (A:=4200000) (n:=n.toNat) (fun i a0 a1=>TE hp a0 (by omega) (ha i a0 (by omega)))
  have:=hp.m2
  unfold Z8;omega
theorem Zft{c:Int->Int}{D:Int}(hD:0<=D)(ha:∀i,0<=i->i<(n:Int)->0<=a i)(hc:∀i,0<=i->i<(n:Int)->1<=c i)(h:D<=Zh (fun i=>a i*c i) n):D<=Zh (fun i=>min (a i) D*c i) n:=by
  have hnn:∀i,0<=i->i<(n:Int)->0<=min (a i) D*c i:=fun i h0 h1=>by
    have:=ha i h0 h1;have:=hc i h0 h1
    exact Int.mul_nonneg (by omega) (by omega)
  by_cases hex:∃i,0<=i/\i<(n:Int)/\D<=a i
  · obtain⟨i,h0,h1,h2⟩:=hex
    have h3:=XY (f:=fun i=>min (a i) D*c i) h0 h1 hnn
    have h4:min (a i) D=D:=by omega
    simp only [h4] at h3
    have h5:D*1<=D*c i:=Int.mul_le_mul_of_nonneg_left (hc i h0 h1) hD
    omega
  · have:Zh (fun i=>min (a i) D*c i) n=Zh (fun i=>a i*c i) n:=Zj fun i h0 h1=>by
      have h2:¬D<=a i:=fun h2=>hex ⟨i,h0,h1,h2⟩
      rw [show min (a i) D=a i by omega]
    omega
structure ShortP (n:Int) (len cnt:Int->Int):Prop where
  all:∀i,0<=i->i<n->len i<=25/\cnt i<=40
  few:n<=12
def Zd(pv:Int->Value)(cnt:Int->Int):Int->Value:=fun k=>if k%2=0 then pv (k/2) else .int .i64 (cnt (k/2))
theorem Yu(pv:Int->Value)(cnt:Int->Int){k:Int}(h:k=2*i):Zd pv cnt k=pv i:=by
  subst h;unfold Zd;rw [if_pos (by omega)];congr 1;omega
theorem Yt(pv:Int->Value)(cnt:Int->Int){k:Int}(h:k=2*i+1):Zd pv cnt k= .int .i64 (cnt i):=by
  subst h;unfold Zd;rw [if_neg (by omega)];congr 2;omega
structure UAt (w:World) (v:Value) (n:Int) (pv:Int->Value) (len:Int->Int) (pt:Int->Int->Int) (cnt:Int->Int):Prop where
  row:Row w v 2 n (Zd pv cnt)
  p:∀i,0<=i->i<n->IAt w (pv i) (len i) (pt i)
  c:∀i,-9223372036854775808<=cnt i/\cnt i<=9223372036854775807
theorem UAt.below{w w':World}{v:Value}{n:Int}{pv:Int->Value}{len:Int->Int}{pt:Int->Int->Int}{cnt:Int->Int}(h:UAt w v n pv len pt cnt)(hb:Below w.heap.size w w'):UAt w' v n pv len pt cnt:=
  ⟨h.row.below hb,fun i h0 h1=>(h.p i h0 h1).below hb,h.c⟩
end Go.Proofs.Gw
namespace Go.Proofs.Gw
open Go Go.RowKit
theorem StartR.ok{p:Lp}{t:Tb}{e:Int}(h:StartR p t e)(he:e=0):LOk p/\t=Zw p:=by
  rcases h with⟨_,_,h⟩|⟨h1,h2,_⟩
  · omega
  · exact⟨h1,h2⟩
theorem StartR.err{p:Lp}{t:Tb}{e:Int}(h:StartR p t e)(he:e≠0):¬LOk p/\e=1:=by
  rcases h with⟨h1,_,h⟩|⟨h1,h2,h⟩
  · exact⟨h1,h⟩
  · exact absurd h he
def ZH(f g:Int->Int)(n:Nat):Int:=Zh (fun k=>f k*g k) n
def wgt(A:Int->Int->Int)(y:Int->Int)(n:Nat)(j:Int):Int:=Zh (fun i=>A i j*y i) n
structure ChkS (p:Lp) (s:So):Prop where
  ok:LOk p
  d1:1<=s.den
  d2:s.den<=1073741824
  v: -1073741824<=s.val/\s.val<=1073741824
  n:s.n=p.n
  m:s.m=p.m
  X:∀j,0<=j->j<p.n->0<=s.X j/\s.X j<=1073741824
  Y:∀i,0<=i->i<p.m->0<=s.Y i/\s.Y i<=1073741824
  rows:∀i,0<=i->i<p.m->p.b i*s.den<=ZH (p.A i) s.X p.n.toNat
  cols:∀j,0<=j->j<p.n->wgt p.A s.Y p.m.toNat j<=p.c j*s.den
  cX:ZH p.c s.X p.n.toNat=s.val
  bY:ZH p.b s.Y p.m.toNat=s.val
end Go.Proofs.Gw
namespace Go.Proofs.YtopmifmfecfaaaaGreat
open Go Go.RowKit Go.Proofs.Gw
variable {vq:Int->Value} {vA vb vc:Value}
theorem Zh6:Zc Tryz.prog 155=true:=by kernel_rfl
theorem Zh5:Zc Tryz.prog 156=true:=by kernel_rfl
theorem ZhS:Zc Tryz.prog 170=true:=by kernel_rfl
theorem ZhR:Zc Tryz.prog 171=true:=by kernel_rfl
theorem ZhQ:Zc Tryz.prog 172=true:=by kernel_rfl
theorem VG:Z0 Tryz.prog 29=some (.agg #[.slice none 0 0,.slice none 0 0,.int .i64 0,.int .i64 0],4,64):=by kernel_rfl
theorem fd_173_0:Zz Tryz.prog 173 0=some 0:=by kernel_rfl
theorem fd_173_1:Zz Tryz.prog 173 1=some 1:=by kernel_rfl
theorem fd_173_2:Zz Tryz.prog 173 2=some 2:=by kernel_rfl
theorem fd_29_0:Zz Tryz.prog 29 0=some 0:=by kernel_rfl
theorem fd_29_1:Zz Tryz.prog 29 1=some 1:=by kernel_rfl
theorem Zda:ZF Tryz.prog 173=some 3:=by kernel_rfl
theorem Z3:ZF Tryz.prog 29=some 4:=by kernel_rfl
theorem ZfW{p:Lp}(w0:World)(hL:LAt w0 vc vA vb vq p):
    Calls Tryz.prog 170 [.agg #[vc,vA,vb]].toArray w0 fun e w=>∃v,e= .returned v/\v=B (LOk p)/\Sat w0 w []:=by
  have hn:=hL.c.slh.n0;have hn1:=hL.c.slh.n1;have hm:=hL.A.row.slh.n0;have hm1:=hL.A.row.slh.n1;have hk:=hL.b.slh.n0;have hk1:=hL.b.slh.n1
  refine Zm Tryz.func170 Tryz.ntmps170 fun w hS=> ?_
  refine zsr<|zla (xbx (cs:= [_,_,_]) hS) ?_;rintro _ w ⟨g1,rfl,hS⟩
  refine(zP)<|zlz<|(zV (xfb 0 fd_173_0))<|(zV (xlb 0 pl_22 hS))<|(zV (xln Zb hL.c.slh))<|zla (xal (cs:= [_]) Zn hS) ?_;rintro _ w ⟨g2,rfl,hS⟩
  refine zle (xsb 1 pl_3 hS) ?_;clear hS;rintro w hS
  refine zx5<|(zV (xlb 1 pl_3 hS))<|(zP)<|(zP)<|zlb 10 ?_ ?_<;>intro hc;rotate_left
  refine(zV (xlb 1 pl_3 hS))<|(zP)<|(zP)<|(zP)<|zlb 14 ?_ ?_<;>intro hc;rotate_left
  refine(zV (xfb 1 fd_173_1))<|(zV (xlb 0 Zu hS))<|(zV (xln Zi hL.A.row.slh))<|(zP)<|(zP)<|(zP)<|zlb 20 ?_ ?_<;>intro hc;rotate_left
  refine(zV (xfb 2 fd_173_2))<|(zV (xlb 0 pl_22 hS))<|(zV (xln Zb hL.b.slh))<|(zV (xfb 1 fd_173_1))<|(zV (xlb 0 Zu hS))<|(zV (xln Zi hL.A.row.slh))<|(zP)<|(zP)<|(zP)<|zlb 29 ?_ ?_<;>intro hc;rotate_left
  refine(zV (xfb 0 fd_173_0))<|(zV (xlb 0 pl_22 hS))<|zlc (xc0 R2) (WV (n:=p.n) (m:=1000000) (f:=p.c) w (hL.c.below hS.below) (by omega)) ?_;rintro _ w ⟨rfl,hS'⟩
  replace hS:=hS.cmp hS';clear hS'
  refine(zP)<|(zP)<|(zP)<|zlb 35 ?_ ?_<;>intro hc;rotate_left
  refine(zV (xfb 2 fd_173_2))<|(zV (xlb 0 pl_22 hS))<|zlc (xc0 R2) (WV (n:=p.k) (m:=1000000) (f:=p.b) w (hL.b.below hS.below) (by omega)) ?_;rintro _ w ⟨rfl,hS'⟩
  replace hS:=hS.cmp hS';clear hS'
  refine(zP)<|(zP)<|zlt<|Ze ?_ ?_<;>intro hc
  ·
   refine zsr<|(zP)<|zx14<|zf1 ⟨_,rfl,?_⟩
   exact⟨false_B (by intro hl;have b1:=hl.n1;have b2:=hl.n2;have b3:=hl.m2;have b4:=hl.k;first|omega|exact absurd (fun j j0 j1=>by have:=hl.c j j0 j1;omega) ‹¬Btw p.c p.n 1000000›|exact absurd (fun j j0 j1=>hl.b j j0 (by omega)) ‹¬Btw p.b p.k 1000000›|(obtain⟨j,j0,j1,j2⟩:=yK;have:=hl.c j j0 j1;omega)),hS.nl⟩
  refine Z7<|(zV xmf)<|(zP)<|zlz<|(zV (xfb 0 fd_173_0))<|(zV (xlb 0 pl_22 hS))<|zlc (xc0 Zd8) (ZgQ (n:=p.n) (f:=p.c) w (hL.c.below hS.below) (by omega)) ?_;rintro _ w ⟨x1,rfl,yK,yV,hS'⟩
  replace hS:=hS.cmp hS';clear hS'
  refine(zP)<|(zP)<|zlb 46 ?_ ?_<;>intro hc
  ·
   refine(zV (xfb 1 fd_173_1))<|(zV (xlb 0 Zu hS))<|(zP)<|zlc (xc0 Za9) (Zi4 (n:=p.m) (q:=p.n) (vv:=vq) (ln:=p.ln) (f:=p.A) w (hL.A.below hS.below) (hS.cellN 1 rfl rfl) (by omega)) ?_;rintro _ w ⟨rfl,hS'⟩
   replace hS:=hS.cmp hS';clear hS'
   refine(zP)<|(zP)<|(zP)<|zx1<|zf1 ⟨_,rfl,?_⟩
   refine⟨ZA ⟨fun hx=> ?_,fun hl hx=> ?_⟩,hS.nl⟩
   · have hc1:=(Classical.not_not.1 ‹¬¬(Btw p.c p.n 1000000)›);have hc2:=(Classical.not_not.1 ‹¬¬(Btw p.b p.k 1000000)›)
     refine⟨by omega,by omega,by omega,by omega,fun j j0 j1=>⟨by have:=yV j j0 j1;omega,(hc1 j j0 j1).2⟩,fun i i0 i1=>hc2 i i0 (by omega),fun i i0 i1=> ?_⟩
     have hy:=Classical.not_not.1 fun hh=>hx ⟨i,i0,i1,hh⟩
     exact⟨hy.1,fun j j0 j1=>hy.2 j j0 (by have:=hy.1;omega)⟩
   · obtain⟨k,k0,k1,hh⟩:=hx
     have hr:=hl.rows k k0 k1
     exact hh ⟨hr.1,fun j j0 j1=>hr.2 j j0 (by have:=hr.1;omega)⟩
  iterate 5 refine zlo ?_
  refine(zP)<|(zP)<|zx1<|zf1 ⟨_,rfl,?_⟩
  exact⟨false_B (by intro hl;have b1:=hl.n1;have b2:=hl.n2;have b3:=hl.m2;have b4:=hl.k;first|omega|exact absurd (fun j j0 j1=>by have:=hl.c j j0 j1;omega) ‹¬Btw p.c p.n 1000000›|exact absurd (fun j j0 j1=>hl.b j j0 (by omega)) ‹¬Btw p.b p.k 1000000›|(obtain⟨j,j0,j1,j2⟩:=yK;have:=hl.c j j0 j1;omega)),hS.nl⟩
  all_goals
   refine zOps ?_
   refine zlt<|zct<|zsr ?_
   refine zOps ?_
   refine zx14<|zf1 ⟨_,rfl,?_⟩
   exact⟨false_B (by intro hl;have b1:=hl.n1;have b2:=hl.n2;have b3:=hl.m2;have b4:=hl.k;first|omega|exact absurd (fun j j0 j1=>by have:=hl.c j j0 j1;omega) ‹¬Btw p.c p.n 1000000›|exact absurd (fun j j0 j1=>hl.b j j0 (by omega)) ‹¬Btw p.b p.k 1000000›|(obtain⟨j,j0,j1,j2⟩:=yK;have:=hl.c j j0 j1;omega)),hS.nl⟩
theorem Zf0{p:Lp}(w0:World)(hL:LAt w0 vc vA vb vq p):
    Calls Tryz.prog 155 [.agg #[vc,vA,vb]].toArray w0 fun e w=>∃v,e= .returned v/\∃vB vF vC vv t' e,v= .tuple #[.agg #[.int .i64 t'.vars,.int .i64 t'.den,vB,vF,vC],.int .i64 e]/\StartR p t' e/\Slh vB t'.nb/\Slh vF t'.nf/\Slh vC t'.nc/\Sat w0 w [.own vB 1 3 t'.nb (ints t'.B),.own vF 1 3 t'.nf (ints t'.F),.own vC 1 22 t'.nc vv,.sem (Frame.rows 3 t'.nc vv t'.ln t'.C)]:=by
  have hn:=hL.c.slh.n0;have hn1:=hL.c.slh.n1;have hm:=hL.A.row.slh.n0;have hm1:=hL.A.row.slh.n1;have hk:=hL.b.slh.n0;have hk1:=hL.b.slh.n1
  refine Zm Tryz.func155 Tryz.ntmps155 fun w hS=> ?_
  refine zsr<|zla (xbx (cs:= [_,_,_]) hS) ?_;rintro _ w ⟨g1,rfl,hS⟩
  refine zla (xal (cs:= [_,_,_,_,_]) Xg hS) ?_;rintro _ w ⟨g2,rfl,hS⟩
  refine(zP)<|zx5<|(zV (xls 0 Zda hS))<|zlc (xc0 ZhS) (ZfW (p:=p) w (hL.below hS.below)) ?_;rintro _ w ⟨rfl,hS'⟩
  replace hS:=hS.cmp hS';clear hS'
  refine(zP)<|zlt<|Ze ?_ ?_<;>intro hc
  ·
   refine zsr<|(zV (xany (v:= .agg #[.int .i64 0,.int .i64 0,.slice none 0 0,.slice none 0 0,.slice none 0 0])))<|zle (xsw 1 Zy hS) ?_;clear hS;rintro w hS
   refine(zP)<|zx14<|ZW 1 Zy hS ⟨_,rfl,?_⟩
   exact⟨_,_,_,fun _=>undef,Tb.zero,1,rfl,.inl ⟨‹_›,rfl,rfl⟩,slh_nil,slh_nil,slh_nil,((((hS.sub (.cons _ (.cons _ .slnil))).addnil 1 3 (ints Tb.zero.B)).addnil 1 3 (ints Tb.zero.F)).addnil 1 22 (fun _=>undef)).addrows 3 (fun _=>undef) Tb.zero.ln Tb.zero.C⟩
  refine zsk<|ztn<|zsq<| ?_
  refine XX (fun M w=>∃(g3:Nat) (v1:Value) (v2:Value) (v3:Value),(Slh v2 (p.n+1))/\(Slh v3 1)/\M= [(0,.agg #[vc,vA,vb]),(1,.pointer (some ⟨g1,0,none⟩)),(2,.pointer (some ⟨g2,0,none⟩)),(3,.int .i64 0),(8,.agg #[vc,vA,vb]),(9,B (LOk p)),(10,B (¬(LOk p))),(12,.pointer (some ⟨g1,0,none⟩)),(13,vc),(14,.int .i64 p.n),(16,.pointer (some ⟨g1,0,none⟩)),(17,vc),(15,v1),(18,v2),(19,v3),(20,.agg #[.int .i64 p.n,.int .i64 1,.slice none 0 0,.slice none 0 0,v3]),(4,.pointer (some ⟨g3,0,none⟩))]/\Sat w0 w [.blk g1 [vc,vA,vb],.blk g2 [.int .i64 0,.int .i64 0,.slice none 0 0,.slice none 0 0,.slice none 0 0],.own v2 1 3 (p.n+1) (ints (cat 1 (fun _=>0) p.c)),.own v3 1 22 1 (fun _=>v2),.blk g3 [.int .i64 p.n,.int .i64 1,.slice none 0 0,.slice none 0 0,v3]]) ?_ ?_
  ·
   refine zdst [0,1] [0,1] 10 mx_ hS ?_;clear hS;intro w hS
   refine zDrv 0 (xfb 0 fd_173_0) ?_
   have hl:=(Classical.not_not.1 ‹¬¬(LOk p)›)
   have b1:=hl.n1
   have b2:=hl.n2
   have b3:=hl.m2
   have b4:=hl.k
   refine(zDl 1 (fun w hS=>(xlb 0 pl_22 hS)))<|(zDw 2 (xln Zb hL.c.slh))<|(zDw 4 (xfb 0 fd_173_0))<|(zDl 5 (fun w hS=>(xlb 0 pl_22 hS)))<|YS (r:= [3,9]) ((ZO ?_ (ZO ?_ YR)))
   ·
    refine zka (xli (n:=1) (len:=1) (pv:= [(0,.int .i64 0)]) (cs:= [.int .i64 0]) (c:=ints (fun _=>0)) Zb Zn hS) ?_;rintro v1 w ⟨hS,hv1⟩
    refine⟨⟨fun _=>hS.pk [0,1],hS.pk [0,1]⟩,?_⟩
    refine YS (r:= [6,9]) ((ZO ?_ (ZO ?_ YR)))
    ·
     refine zka (xap 2 (r:=p.n+1) (f:=ints (cat 1 (fun _=>0) p.c)) Zb Zn hS (hL.c.below hS.below) (by exact Zp _ _ _)) ?_;rintro v2 w ⟨hS,hv2⟩
     refine⟨⟨fun _=>hS.pk [0,1],hS.pk [0,1]⟩,?_⟩
     refine YS (r:= [7,9]) ((ZO ?_ (ZO ?_ YR)))
     ·
      refine zka (xli (n:=1) (len:=1) (pv:= [(0,v2)]) (cs:= [v2]) (c:=(fun _=>v2)) Zi Ya hS (hf:=by obtain⟨_,_,_,_,rfl,_⟩:=hv2;kernel_rfl)) ?_;rintro v3 w ⟨hS,hv3⟩
      refine⟨⟨fun _=>hS.pk [0,1],hS.pk [0,1]⟩,?_⟩
      refine zDrv 8 (xany (v:= .agg #[.int .i64 p.n,.int .i64 1,.slice none 0 0,.slice none 0 0,v3]) (hr:=by obtain⟨_,_,_,_,rfl,_⟩:=hv3;kernel_rfl)) ?_
      refine zda 9 (xal (cs:= [_,_,_,_,_]) Xg hS) ?_;rintro _ w ⟨g3,rfl,hS⟩
      refine⟨⟨fun _=>hS.pk [0,1],hS.pk [0,1]⟩,?_⟩
      refine zde 10 (xsw 4 Zy hS (hd:=(Za rfl (Za rfl (Za rfl (Za rfl (Za hv3.one Zg))))))) ?_;clear hS;rintro w hS
      refine⟨⟨fun h=>absurd h (by decide),hS.pk [0,1]⟩,?_⟩
      refine zdd<|zgj ⟨g3,v1,v2,v3,hv2,hv3,rfl,hS⟩
     refine zka (xal (cs:= [_,_,_,_,_]) Xg hS) ?_;rintro _ w ⟨g3,rfl,hS⟩
     refine⟨⟨fun _=>hS.pk [0,1],hS.pk [0,1]⟩,?_⟩
     refine zda 7 (xli (n:=1) (len:=1) (pv:= [(0,v2)]) (cs:= [v2]) (c:=(fun _=>v2)) Zi Ya hS (hf:=by obtain⟨_,_,_,_,rfl,_⟩:=hv2;kernel_rfl)) ?_;rintro v3 w ⟨hS,hv3⟩
     refine⟨⟨fun _=>hS.pk [0,1],hS.pk [0,1]⟩,?_⟩
     refine zDrv 8 (xany (v:= .agg #[.int .i64 p.n,.int .i64 1,.slice none 0 0,.slice none 0 0,v3]) (hr:=by obtain⟨_,_,_,_,rfl,_⟩:=hv3;kernel_rfl)) ?_
     refine zde 10 (xsw 3 Zy hS (hd:=(Za rfl (Za rfl (Za rfl (Za rfl (Za hv3.one Zg))))))) ?_;clear hS;rintro w hS
     refine⟨⟨fun h=>absurd h (by decide),hS.pk [0,1]⟩,?_⟩
     refine zdd<|zgj ⟨g3,v1,v2,v3,hv2,hv3,rfl,hS.pk [0,1,2,4,3]⟩
    refine zka (xal (cs:= [_,_,_,_,_]) Xg hS) ?_;rintro _ w ⟨g3,rfl,hS⟩
    refine⟨⟨fun _=>hS.pk [0,1],hS.pk [0,1]⟩,?_⟩
    refine zda 6 (xap 2 (r:=p.n+1) (f:=ints (cat 1 (fun _=>0) p.c)) Zb Zn hS (hL.c.below hS.below) (by exact Zp _ _ _)) ?_;rintro v2 w ⟨hS,hv2⟩
    refine⟨⟨fun _=>hS.pk [0,1],hS.pk [0,1]⟩,?_⟩
    refine zda 7 (xli (n:=1) (len:=1) (pv:= [(0,v2)]) (cs:= [v2]) (c:=(fun _=>v2)) Zi Ya hS (hf:=by obtain⟨_,_,_,_,rfl,_⟩:=hv2;kernel_rfl)) ?_;rintro v3 w ⟨hS,hv3⟩
    refine⟨⟨fun _=>hS.pk [0,1],hS.pk [0,1]⟩,?_⟩
    refine zDrv 8 (xany (v:= .agg #[.int .i64 p.n,.int .i64 1,.slice none 0 0,.slice none 0 0,v3]) (hr:=by obtain⟨_,_,_,_,rfl,_⟩:=hv3;kernel_rfl)) ?_
    refine zde 10 (xsw 3 Zy hS (hd:=(Za rfl (Za rfl (Za rfl (Za rfl (Za hv3.one Zg))))))) ?_;clear hS;rintro w hS
    refine⟨⟨fun h=>absurd h (by decide),hS.pk [0,1]⟩,?_⟩
    refine zdd<|zgj ⟨g3,v1,v2,v3,hv2,hv3,rfl,hS.pk [0,1,2,4,3]⟩
   refine zka (xal (cs:= [_,_,_,_,_]) Xg hS) ?_;rintro _ w ⟨g3,rfl,hS⟩
   refine⟨⟨fun _=>hS.pk [0,1],hS.pk [0,1]⟩,?_⟩
   refine zda 3 (xli (n:=1) (len:=1) (pv:= [(0,.int .i64 0)]) (cs:= [.int .i64 0]) (c:=ints (fun _=>0)) Zb Zn hS) ?_;rintro v1 w ⟨hS,hv1⟩
   refine⟨⟨fun _=>hS.pk [0,1],hS.pk [0,1]⟩,?_⟩
   refine zda 6 (xap 3 (r:=p.n+1) (f:=ints (cat 1 (fun _=>0) p.c)) Zb Zn hS (hL.c.below hS.below) (by exact Zp _ _ _)) ?_;rintro v2 w ⟨hS,hv2⟩
   refine⟨⟨fun _=>hS.pk [0,1],hS.pk [0,1]⟩,?_⟩
   refine zda 7 (xli (n:=1) (len:=1) (pv:= [(0,v2)]) (cs:= [v2]) (c:=(fun _=>v2)) Zi Ya hS (hf:=by obtain⟨_,_,_,_,rfl,_⟩:=hv2;kernel_rfl)) ?_;rintro v3 w ⟨hS,hv3⟩
   refine⟨⟨fun _=>hS.pk [0,1],hS.pk [0,1]⟩,?_⟩
   refine zDrv 8 (xany (v:= .agg #[.int .i64 p.n,.int .i64 1,.slice none 0 0,.slice none 0 0,v3]) (hr:=by obtain⟨_,_,_,_,rfl,_⟩:=hv3;kernel_rfl)) ?_
   refine zde 10 (xsw 2 Zy hS (hd:=(Za rfl (Za rfl (Za rfl (Za rfl (Za hv3.one Zg))))))) ?_;clear hS;rintro w hS
   refine⟨⟨fun h=>absurd h (by decide),hS.pk [0,1]⟩,?_⟩
   refine zdd<|zgj ⟨g3,v1,v2,v3,hv2,hv3,rfl,hS.pk [0,1,3,4,2]⟩
  clear hS w;rintro M w ⟨g3,v1,v2,v3,hv2,hv3,rfl,hS⟩
  refine ztn<|zsq<|zsr<|(zV (xfb 0 fd_173_0))<|(zV (xlb 0 pl_22 hS))<|zlv (xln Zb hL.c.slh) ?_
  have hl:=(Classical.not_not.1 ‹¬¬(LOk p)›)
  have b1:=hl.n1
  have b2:=hl.n2
  have b3:=hl.m2
  have b4:=hl.k
  refine(zP)<|zx6 ?_
  replace hS:=hS.addrows 3 (fun _=>Value.slice none 0 0) (fun _=>0) (fun _ _=>0)
  replace hS:=Sat.merge2 (l1:= [.blk g1 [vc,vA,vb],.blk g2 [.int .i64 0,.int .i64 0,.slice none 0 0,.slice none 0 0,.slice none 0 0]]) (l2:= [.own v3 1 22 1 (fun _=>v2),.blk g3 [.int .i64 p.n,.int .i64 1,.slice none 0 0,.slice none 0 0,v3]]) (l3:= []) hS (by omega)
  replace hS:=hS.rerows (vv':=(fun _=>v2)) (ln':=(Zw p).ln) (f':=(Zw p).C) 4 rfl (fun k k0 k1=>by
    obtain rfl:k=0:=by omega
    refine⟨Y0 _ _ _,?_,fun j j0 j1=> ?_⟩
    · rw [Y0];show _=p.n+1;omega
    · rw [Y0];unfold Zw cat;dsimp only;(repeat' split)<;>first|rfl|omega)
  have yw:=fun k (k0:0<=k) (k1:k<1)=>hS.slhIn 4 rfl k0 k1
  replace hS:=hS.addnil 1 3 (ints (fun _=>0))
  replace hS:=hS.addnil 1 3 (ints (fun _=>0))
  refine zlp (fun mm M w=>∃(nF:Int) (j:Int) (wF:Value) (fF:Int->Int),mm=((p.n-j).toNat)/\(0<=j)/\(j<=p.n)/\(nF=j)/\(∀k,0<=k->k<j->fF k=k)/\(Slh wF nF)/\M= [(1,.pointer (some ⟨g1,0,none⟩)),(2,.pointer (some ⟨g2,0,none⟩)),(3,.int .i64 0),(4,.pointer (some ⟨g3,0,none⟩)),(23,.int .i64 p.n),(24,.int .i64 j)]/\Sat w0 w [.blk g1 [vc,vA,vb],.blk g2 [.int .i64 0,.int .i64 0,.slice none 0 0,.slice none 0 0,.slice none 0 0],.own v3 1 22 1 (fun _=>v2),.blk g3 [.int .i64 p.n,.int .i64 1,(.slice none 0 0),wF,v3],.sem (Frame.rows 3 1 (fun _=>v2) ((Zw p).ln) ((Zw p).C)),.own wF 1 3 nF (ints fF),.own (.slice none 0 0) 1 3 0 (ints (fun _=>0))]) ⟨0,0,(.slice none 0 0),(fun _=>0),rfl,(by omega),(by omega),(by omega),?_,?_,rfl,hS⟩ ?_
  ·
   intro k k0 k1;omega
  ·
   exact slh_nil
  clear hS w
  rintro mm M w ⟨nF,j,wF,fF,rfl,j0,j1,hnF,hfF,hwF,rfl,hS⟩
  refine zsr<|(zP)<|zx7<|Ze ?_ ?_<;>intro hc
  ·
   refine zx3<|(zP)<|(zP)<|zlt<|zrg<|(zV (xfb 3 fd_204_3))<|(zV (xlb 3 pl_22 hS))<|(zP)<|zla (xli (n:=1) (len:=1) (pv:= [(0,.int .i64 j)]) (cs:= [.int .i64 j]) (c:=ints (fun _=>j)) Zb Zn hS) ?_;rintro v4 w ⟨hS,hv4⟩
   refine zla (xap 5 (r:=nF+1) Zb Zn hS (hS.rowN 7 rfl) (Z1 _ _ _)) ?_;rintro v5 w ⟨hS,hv5⟩
   refine(zV (xfb 3 fd_204_3))<|zle (xsb 3 pl_22 hS (hv:=hv5.one)) ?_;clear hS;rintro w hS
   refine zx10<|(zV (Zf (r:=j+1)))<|(zP)<|zln<|zlq ⟨nF+1,j+1,v5,(snoc fF nF j),rfl,(by omega),(by omega),(by omega),?_,?_,rfl,hS.pk [0,1,2,3,4,5,6]⟩
   ·
    intro k k0 k1;by_cases e:k<nF
    · rw [Zl e];exact hfF k k0 (by omega)
    · rw [Zk e];omega
   ·
    exact hv5
  refine zx18<|(zV (xfb 1 fd_173_1))<|(zV (xlb 0 Zu hS))<|(zV (xln Zi hL.A.row.slh))<|(zP)<|zx6<|zlp (fun mm M w=>∃(mB:Int) (nC:Int) (wv:Int->Value) (i:Int) (wB:Value) (fB:Int->Int) (wC:Value),mm=((p.m-i).toNat)/\(0<=i)/\(i<=p.m)/\(mB=i)/\(nC=i+1)/\(∀k,0<=k->k<i->fB k=p.n+k)/\(Slh wB mB)/\(Slh wC nC)/\M= [(1,.pointer (some ⟨g1,0,none⟩)),(2,.pointer (some ⟨g2,0,none⟩)),(3,.int .i64 0),(4,.pointer (some ⟨g3,0,none⟩)),(35,vA),(36,.int .i64 p.m),(37,.int .i64 i)]/\Sat w0 w [.blk g1 [vc,vA,vb],.blk g2 [.int .i64 0,.int .i64 0,.slice none 0 0,.slice none 0 0,.slice none 0 0],.own wC 1 22 nC wv,.blk g3 [.int .i64 p.n,.int .i64 1,wB,wF,wC],.sem (Frame.rows 3 nC wv ((Zw p).ln) ((Zw p).C)),.own wF 1 3 nF (ints fF),.own wB 1 3 mB (ints fB)]) ⟨0,1,(fun _=>v2),0,(.slice none 0 0),(fun _=>0),v3,rfl,(by omega),(by omega),(by omega),(by omega),?_,?_,?_,rfl,hS⟩ ?_
  ·
   intro k k0 k1;omega
  ·
   exact slh_nil
  ·
   exact hv3
  clear hS w
  rintro mm M w ⟨mB,nC,wv,i,wB,fB,wC,rfl,i0,i1,hmB,hnC,hfB,hwB,hwC,rfl,hS⟩
  have qN:=fun k (k0:0<=k) (k1:k<nC)=>hS.slhIn 4 rfl k0 k1
  refine zsr<|(zP)<|zx7<|Ze ?_ ?_<;>intro hc
  ·
   refine zx3<|(zP)<|(zV (xix (kk:=i) Zi hL.A.row.slh))<|zlv (xlr (u:=(vq i)) pl_22 (hL.A.row.below hS.below)) ?_
   have hri:=hl.rows i i0 (by omega)
   refine(zP)<|(zP)<|zlz<|(zV (xfb 2 fd_204_2))<|(zV (xlb 3 pl_22 hS))<|(zV (xfb 0 fd_204_0))<|(zV (xlb 3 pl_3 hS))<|(zP)<|(zV (Zf (r:=p.n+i)))<|zla (xli (n:=1) (len:=1) (pv:= [(0,.int .i64 (p.n+i))]) (cs:= [.int .i64 (p.n+i)]) (c:=ints (fun _=>p.n+i)) Zb Zn hS) ?_;rintro v6 w ⟨hS,hv6⟩
   refine zla (xap 6 (r:=mB+1) Zb Zn hS (hS.rowN 7 rfl) (Z1 _ _ _)) ?_;rintro v7 w ⟨hS,hv7⟩
   refine(zV (xfb 2 fd_204_2))<|zle (xsb 3 pl_22 hS (hv:=hv7.one)) ?_;clear hS;rintro w hS
   refine zlt<|zdst [0,1,3] [0,1] 14 mx_ hS ?_;clear hS;intro w hS
   refine(zDw 0 (xfb 4 fd_204_4))<|zdl 1 (fun w hS=>(xlb 2 Zu hS)) ?_
   refine(zDw 2 (xfb 2 fd_173_2))<|(zDl 3 (fun w hS=>(xlb 0 pl_22 hS)))<|(zDw 4 xmv)<|(zDw 5 (xix (kk:=i) Zb hL.b.slh))<|zdla 6 (fun w hS=>(xlr (u:= .int .i64 (p.b i)) pl_3 (hL.b.below hS.below))) ?_
   have hbi:=hl.b i i0 (by omega)
   refine(zDw 7 (ZaG (r:= -((p.b i)))))<|(zDw 9 xmv)<|zda 8 (xli (n:=1) (len:=1) (pv:= [(0,.int .i64 (-((p.b i))))]) (cs:= [.int .i64 (-((p.b i)))]) (c:=ints (fun _=> -((p.b i)))) Zb Zn hS) ?_;rintro v8 w ⟨hS,hv8⟩
   refine⟨⟨fun _=>hS.pk [0,1,3],hS.pk [0,1]⟩,?_⟩
   refine zda 10 (xap 8 (r:=(p.ln i)+1) (f:=ints (cat 1 (fun _=> -(p.b i)) (p.A i))) Zb Zn hS ((hL.A.p i (by omega) (by omega)).below hS.below) (by exact Zp _ _ _)) ?_;rintro v9 w ⟨hS,hv9⟩
   refine⟨⟨fun _=>hS.pk [0,1,3],hS.pk [0,1]⟩,?_⟩
   refine zda 11 (xli (n:=1) (len:=1) (pv:= [(0,v9)]) (cs:= [v9]) (c:=(fun _=>v9)) Zi Ya hS (hf:=by obtain⟨_,_,_,_,rfl,_⟩:=hv9;kernel_rfl)) ?_;rintro v10 w ⟨hS,bd⟩
   refine⟨⟨fun _=>hS.pk [0,1,3],hS.pk [0,1]⟩,?_⟩
   refine zda 12 (xap 2 (r:=nC+1) Zi Ya hS (hS.rowN 9 rfl) (Y8 _ _ _) (h1:=fun _ _ _=>hv9.one)) ?_;rintro v11 w ⟨hS,aJ⟩
   replace hS:=Sat.merge (l1:= [_,_,_,_]) (l2:= [_,_,_]) (l3:= [_]) hS (by omega)
   have xe:=fun k (k0:0<=k) (k1:k<nC+1)=>hS.slhIn 4 rfl k0 k1
   refine⟨⟨fun _=>hS.pk [0,1,3],hS.pk [0,1]⟩,?_⟩
   refine(zDw 13 (xfb 4 fd_204_4))<|zde 14 (xsb 3 Zu hS (hv:=aJ.one)) ?_;clear hS;rintro w hS
   refine⟨⟨fun h=>absurd h (by decide),hS.pk [0,1]⟩,?_⟩
   refine zdd<|zbn<|ztn<|zrg ?_
   refine zlv (Zf (r:=i+1)) ?_
   replace hS:=hS.rerows (vv':=gsn wv nC v9) (ln':=(Zw p).ln) (f':=(Zw p).C) 4 rfl (fun k k0 k1=>by
     by_cases e:k<i+1
     · exact⟨rfl,Zs (by omega),fun j _ _=>by rw [Zs (by omega)]⟩
     · have hki:k=i+1:=by omega
       refine⟨rfl,?_,fun j j0 j1=> ?_⟩
       · rw [Zr (by omega)];show _=p.n+1;omega
       · rw [Zr (by omega)];unfold Zw cat;dsimp only;(repeat' split)<;>first|rfl|omega|(congr 2;omega)|(congr 1;omega))
   have aF:=fun k (k0:0<=k) (k1:k<nC+1)=>hS.slhIn 4 rfl k0 k1
   refine(zP)<|zln<|zlq ⟨mB+1,nC+1,gsn wv nC v9,i+1,v7,(snoc fB mB (p.n+i)),v11,rfl,(by omega),(by omega),(by omega),(by omega),?_,?_,?_,rfl,hS.pk [0,1,2,3,4,5,6]⟩
   ·
    intro k k0 k1;by_cases e:k<mB
    · rw [Zl e];exact hfB k k0 (by omega)
    · rw [Zk e];omega
   ·
    exact hv7
   ·
    exact aJ
  refine zx8<|(zV (xls 3 Zy hS))<|zle (xsw 1 Zy hS (hd:=(Za rfl (Za rfl (Za hwB.one (Za hwF.one (Za hwC.one Zg))))))) ?_;clear hS;rintro w hS
  refine(zP)<|zx1<|ZW 1 Zy hS ⟨_,rfl,?_⟩
  obtain rfl:i=p.m:=by omega
  obtain rfl:mB=p.m:=by omega
  obtain rfl:nC=p.m+1:=by omega
  obtain rfl:nF=p.n:=by omega
  replace hS:=hS.recont 6 rfl (d:=ints (Zw p).B) (fun k k0 k1=>by unfold ints;rw [hfB k k0 (by simp at k1;omega)];rfl)
  replace hS:=hS.recont 5 rfl (d:=ints (Zw p).F) (fun k k0 k1=>by unfold ints;rw [hfF k k0 (by simp at k1;omega)];rfl)
  exact⟨_,_,_,_,Zw p,0,rfl,.inr ⟨hl,rfl,rfl⟩,hwB,hwF,hwC,(hS.pk [2,4,5,6]).perm (WP (l1:= [_,_,_]) (l2:= []) (WP (l1:= [_,_]) (l2:= []) (List.Perm.refl _)))⟩
theorem Zga{vB vF vC:Value}{vv:Int->Value}{t:Tb}(w0:World)(hT:TAt w0 vB vF vC vv t):Calls Tryz.prog 171 [.agg #[.int .i64 t.vars,.int .i64 t.den,vB,vF,vC]].toArray w0 fun e w=>∃v,e= .returned v/\∃r c d e,v= .tuple #[.int .i64 r,.int .i64 c,B (d=true),.int .i64 e]/\NextR t r c d e/\Sat w0 w []:=
  (ZiT w0 hT).mono fun e w h=>by
    obtain⟨v,he,r,c,d,e',hv,hn,hS⟩:=h
    exact⟨v,he,r,c,d,e',by rw [hv,Ze2],hn,hS⟩
theorem Zbe{vB vF vC:Value}{vv:Int->Value}{t:Tb}(w0:World)(hT:TAt w0 vB vF vC vv t):
    Calls Tryz.prog 156 [.agg #[.int .i64 t.vars,.int .i64 t.den,vB,vF,vC]].toArray w0 fun e w=>∃v,e= .returned v/\∃xB xF xC xv u e,v= .tuple #[.agg #[.int .i64 u.vars,.int .i64 u.den,xB,xF,xC],.int .i64 e]/\Run 1000 t u e/\Slh xB u.nb/\Slh xF u.nf/\Slh xC u.nc/\Sat w0 w [.sem (Frame.alt (u=t/\xB=vB/\xF=vF/\xC=vC/\xv=vv) (Frame.bun [.own xB 1 3 u.nb (ints u.B),.own xF 1 3 u.nf (ints u.F),.own xC 1 22 u.nc xv,.sem (Frame.rows 3 u.nc xv u.ln u.C)]))]:=by
  refine Zm Tryz.func156 Tryz.ntmps156 fun w hS=> ?_
  refine zsr<|zla (xbx (cs:= [_,_,_,_,_]) hS) ?_;rintro _ w ⟨g1,rfl,hS⟩
  refine zla (xal (cs:= [_,_,_,_,_]) Xg hS) ?_;rintro _ w ⟨g2,rfl,hS⟩
  refine(zP)<|zlz<|(zP)<|zx6 ?_
  replace hS:=hS.altL (Frame.bun [.own vB 1 3 t.nb (ints t.B),.own vF 1 3 t.nf (ints t.F),.own vC 1 22 t.nc vv,.sem (Frame.rows 3 t.nc vv t.ln t.C)]) (p:=t=t/\vB=vB/\vF=vF/\vC=vC/\vv=vv) ⟨rfl,rfl,rfl,rfl,rfl⟩
  refine zlp (fun mm M w=>∃(u:Tb) (xB:Value) (xF:Value) (xC:Value) (xv:Int->Value) (n:Int),mm=(((1001:Int)-n).toNat)/\(0<=n)/\(n<=1000)/\(Slh xB u.nb)/\(Slh xF u.nf)/\(Slh xC u.nc)/\(∀z e,Run (1000-n).toNat u z e->Run 1000 t z e)/\M= [(1,.pointer (some ⟨g1,0,none⟩)),(2,.pointer (some ⟨g2,0,none⟩)),(4,.int .i64 n)]/\Sat w0 w [.blk g1 [.int .i64 u.vars,.int .i64 u.den,xB,xF,xC],.blk g2 [.int .i64 0,.int .i64 0,.slice none 0 0,.slice none 0 0,.slice none 0 0],.sem (Frame.alt (u=t/\xB=vB/\xF=vF/\xC=vC/\xv=vv) (Frame.bun [.own xB 1 3 u.nb (ints u.B),.own xF 1 3 u.nf (ints u.F),.own xC 1 22 u.nc xv,.sem (Frame.rows 3 u.nc xv u.ln u.C)]))]) ⟨t,vB,vF,vC,vv,0,rfl,(by omega),(by omega),?_,?_,?_,?_,rfl,hS.sub (List.Sublist.refl _)⟩ ?_
  ·
   exact hT.B.slh
  ·
   exact hT.F.slh
  ·
   exact hT.C.row.slh
  ·
   exact fun z e h=>h
  clear hS w
  rintro mm M w ⟨u,xB,xF,xC,xv,n,rfl,n0,n1,hxB,hxF,hxC,yE,rfl,hS⟩
  have htu:=Yl (hT.below hS.below) hS 2 rfl
  have hub:=htu.B.slh.n0;have eZ:=htu.B.slh.n1;have huf:=htu.F.slh.n0;have eY:=htu.F.slh.n1
  refine zsq<|zbk<|zsr<|(zV (xls 0 Zy hS))<|zlc (xc0 ZhR) (Zga (t:=u) w (Yl (hT.below hS.below) hS 2 rfl)) ?_;rintro _ w ⟨rn1,cn1,dn1,en1,rfl,yz,hS'⟩
  replace hS:=hS.cmp hS';clear hS'
  have hrc:=yz.rng
  refine zs6 ?_
  refine(zP)<|(zP)<|(zP)<|zx5<|(zP)<|(zP)<|zlb 20 ?_ ?_<;>intro hc
  ·
   refine(zO)<|(zO)<|(zP)<|zlt<|zct<|zsr ?_
   refine(zV (xls 0 Zy hS))<|(zP)<|zle (xsw 1 Zy hS (hd:=(Za rfl (Za rfl (Za hxB.one (Za hxF.one (Za hxC.one Zg))))))) ?_;clear hS;rintro w hS
   refine(zP)<|zlt<|zrt<|ztr<|zbr<|ztr<|ztr<|zbr<|ZW 1 Zy hS ⟨_,rfl,?_⟩
   exact⟨xB,xF,xC,xv,u,_,rfl,yE _ _ (.stop yz (by first|exact .inl hc|exact .inr (by omega))),hxB,hxF,hxC,hS.pk [2]⟩
  refine(zP)<|(zP)<|(zP)<|zlt<|Ze ?_ ?_<;>intro hc
  ·
   refine zsr<|(zV (xls 0 Zy hS))<|(zP)<|zle (xsw 1 Zy hS (hd:=(Za rfl (Za rfl (Za hxB.one (Za hxF.one (Za hxC.one Zg))))))) ?_;clear hS;rintro w hS
   refine(zP)<|zlt<|zrt<|ztr<|zbr<|ztr<|ztr<|zbr<|ZW 1 Zy hS ⟨_,rfl,?_⟩
   exact⟨xB,xF,xC,xv,u,_,rfl,yE _ _ (.stop yz (by first|exact .inl hc|exact .inr (by omega))),hxB,hxF,hxC,hS.pk [2]⟩
  refine Xb<|zlv xmv ?_
  have hn0:NextR u rn1 cn1 false 0:=by have h1:dn1=false:=(by simpa using‹¬(dn1=true)›);have h2:en1=0:=(by omega);have h3:=yz;rw [h1,h2] at h3;exact h3
  have hpu:=(hn0.prp (by omega)).1;have hq1:=hpu.n2;have hq2:=hpu.m2
  refine(zP)<|zlt<|Ze ?_ ?_<;>intro hc
  ·
   refine zsr<|(zV (xls 0 Zy hS))<|zle (xsw 1 Zy hS (hd:=(Za rfl (Za rfl (Za hxB.one (Za hxF.one (Za hxC.one Zg))))))) ?_;clear hS;rintro w hS
   refine(zP)<|zlt<|zrt<|ztr<|zbr<|ztr<|ztr<|zbr<|ZW 1 Zy hS ⟨_,rfl,?_⟩
   exact⟨xB,xF,xC,xv,u,_,rfl,yE _ _ (by rw [show(1000-n).toNat=0 by omega];exact .lim hn0),hxB,hxF,hxC,hS.pk [2]⟩
  refine Z7<|(zV (xls 0 Zy hS))<|(zP)<|(zP)<|zlc (xc0 ZhQ) (Zf9 (t:=u) (row:=rn1) (col:=cn1) w (Yl (hT.below hS.below) hS 2 rfl) (by omega) (by omega)) ?_;rintro _ w ⟨qz,qy,ql,qp,tk1,ek1,rfl,yS,x7,x5,x6,hS'⟩
  replace hS:=(hS.comp hS').n7;clear hS'
  have bk:=fun k (k0:0<=k) (k1:k<tk1.nc)=>hS.slhIn 6 rfl k0 k1
  refine(zP)<|(zP)<|(zP)<|zla (xal (cs:= [_,_,_,_,_]) Xg hS) ?_;rintro _ w ⟨g3,rfl,hS⟩
  refine zle (xsw 7 Zy hS (hd:=(Za rfl (Za rfl (Za x7.one (Za x5.one (Za x6.one Zg))))))) ?_;clear hS;rintro w hS
  refine(zP)<|zx5<|(zP)<|(zP)<|zlt<|Ze ?_ ?_<;>intro hc
  ·
   refine zsr<|(zV (xls 0 Zy hS))<|(zP)<|zle (xsw 1 Zy hS (hd:=(Za rfl (Za rfl (Za hxB.one (Za hxF.one (Za hxC.one Zg))))))) ?_;clear hS;rintro w hS
   refine(zP)<|zlt<|zrt<|ztr<|zbr<|ztr<|ztr<|zbr<|ZW 1 Zy hS ⟨_,rfl,?_⟩
   exact⟨xB,xF,xC,xv,u,_,rfl,yE _ _ (by rw [show(1000-n).toNat=(1000-(n+1)).toNat+1 by omega];exact .bad hn0 yS (by omega)),hxB,hxF,hxC,hS.pk [2]⟩
  refine zsk<|ztn<|zrg<|(zV (xls 7 Zy hS))<|zle (xsw 0 Zy hS (hd:=(Za rfl (Za rfl (Za x7.one (Za x5.one (Za x6.one Zg))))))) ?_;clear hS;rintro w hS
  refine zx10<|zlv xmv ?_
  replace hS:=hS.sub (.cons_cons _ (.cons_cons _ (.cons _ (.cons_cons _ (.cons_cons _ (.cons_cons _ (.cons_cons _ (.cons _ .slnil))))))))
  replace hS:=Sat.altR (tk1=t/\qz=vB/\qy=vF/\ql=vC/\qp=vv) (l1:= [.blk g1 [.int .i64 tk1.vars,.int .i64 tk1.den,qz,qy,ql],.blk g2 [.int .i64 0,.int .i64 0,.slice none 0 0,.slice none 0 0,.slice none 0 0]]) (l2:= []) (Sat.bundle (l1:= [.blk g1 [.int .i64 tk1.vars,.int .i64 tk1.den,qz,qy,ql],.blk g2 [.int .i64 0,.int .i64 0,.slice none 0 0,.slice none 0 0,.slice none 0 0]]) (l2:= [.own qz 1 3 tk1.nb (ints tk1.B),.own qy 1 3 tk1.nf (ints tk1.F),.own ql 1 22 tk1.nc qp,.sem (Frame.rows 3 tk1.nc qp tk1.ln tk1.C)]) hS)
  refine(zV (Zf (r:=n+1)))<|(zP)<|zln<|zlq ⟨tk1,qz,qy,ql,qp,n+1,rfl,(by omega),(by omega),?_,?_,?_,?_,rfl,hS.sub (List.Sublist.refl _)⟩
  ·
   exact x7
  ·
   exact x5
  ·
   exact x6
  ·
   intro z e hz;have he0:ek1=0:=(by omega);rw [he0] at yS;exact yE z e (by rw [show(1000-n).toNat=(1000-(n+1)).toNat+1 by omega];exact .go hn0 yS hz)
theorem Zf3{p:Lp}(w0:World)(hL:LAt w0 vc vA vb vq p):
    Calls Tryz.prog 121 [.agg #[vc,vA,vb]].toArray w0 fun e w=>∃v,e= .returned v/\∃vX vY s e,v= .tuple #[.agg #[vX,vY,.int .i64 s.val,.int .i64 s.den],.int .i64 e]/\SolveR p s e/\Slh vX s.n/\Slh vY s.m/\Sat w0 w [.own vX 1 3 s.n (ints s.X),.own vY 1 3 s.m (ints s.Y)]:=by
  have hn:=hL.c.slh.n0;have hn1:=hL.c.slh.n1;have hm:=hL.A.row.slh.n0;have hm1:=hL.A.row.slh.n1;have hk:=hL.b.slh.n0;have hk1:=hL.b.slh.n1
  refine Zm Tryz.func121 Tryz.ntmps121 fun w hS=> ?_
  refine zsr<|zla (xbx (cs:= [_,_,_]) hS) ?_;rintro _ w ⟨g1,rfl,hS⟩
  refine zla (xal (cs:= [_,_,_,_]) VG hS) ?_;rintro _ w ⟨g2,rfl,hS⟩
  refine(zP)<|zlz<|(zV (xls 0 Zda hS))<|zlc (xc0 Zh6) (Zf0 (p:=p) w (hL.below hS.below)) ?_;rintro _ w ⟨qz,qy,ql,qp,tk1,ek1,rfl,yQ,x7,x5,x6,hS'⟩
  replace hS:=(hS.comp hS').n6;clear hS'
  have bk:=fun k (k0:0<=k) (k1:k<tk1.nc)=>hS.slhIn 5 rfl k0 k1
  refine(zP)<|(zP)<|(zP)<|zla (xal (cs:= [_,_,_,_,_]) Xg hS) ?_;rintro _ w ⟨g3,rfl,hS⟩
  refine zle (xsw 6 Zy hS (hd:=(Za rfl (Za rfl (Za x7.one (Za x5.one (Za x6.one Zg))))))) ?_;clear hS;rintro w hS
  refine(zP)<|zx5<|(zP)<|(zP)<|zlt<|Ze ?_ ?_<;>intro hc
  ·
   refine zsr<|(zV (xany (v:= .agg #[.slice none 0 0,.slice none 0 0,.int .i64 0,.int .i64 0])))<|(zP)<|zle (xsw 1 Z3 hS) ?_;clear hS;rintro w hS
   refine(zP)<|zx14<|ZW 1 Z3 hS ⟨_,rfl,?_⟩
   obtain⟨hl0,hl1⟩:=yQ.err (by omega)
   exact⟨_,_,So.zero,_,rfl,.inl ⟨hl0,rfl,hl1⟩,slh_nil,slh_nil,((hS.sub (.cons _ (.cons _ (.cons _ (.cons _ (.cons _ (.cons _ (.cons _ .slnil)))))))).addnil 1 3 (ints So.zero.X)).addnil 1 3 (ints So.zero.Y)⟩
  refine Xb<|(zV (xls 6 Zy hS))<|zlc (xc0 Zh5) (Zbe (t:=tk1) w (⟨(hS.rowN 2 rfl),(hS.rowN 3 rfl),(⟨(hS.rowN 4 rfl),fun k k0 k1=>hS.rowIn 5 rfl k0 k1,fun k k0 k1=>hS.roomIn 5 rfl k0 k1⟩:MAt _ ql tk1.nc qp tk1.ln tk1.C)⟩:TAt _ qz qy ql qp tk1)) ?_;rintro _ w ⟨yt,yr,ye,yd,uu1,zI,rfl,qI,zS,zR,zr,hS'⟩
  replace hS:=(hS.comp hS').n8;clear hS'
  have aE:=fun k (k0:0<=k) (k1:k<uu1.nc)=>((Yl (⟨(hS.rowN 2 rfl),(hS.rowN 3 rfl),(⟨(hS.rowN 4 rfl),fun k k0 k1=>hS.rowIn 5 rfl k0 k1,fun k k0 k1=>hS.roomIn 5 rfl k0 k1⟩:MAt _ ql tk1.nc qp tk1.ln tk1.C)⟩:TAt _ qz qy ql qp tk1) hS 7 rfl).C.p k k0 k1).slh
  refine(zP)<|(zP)<|(zP)<|zle (xsw 6 Zy hS (hd:=(Za rfl (Za rfl (Za zS.one (Za zR.one (Za zr.one Zg))))))) ?_;clear hS;rintro w hS
  refine(zP)<|zlz<|(zP)<|(zP)<|zlt<|Ze ?_ ?_<;>intro hc
  ·
   refine zsr<|(zV (xany (v:= .agg #[.slice none 0 0,.slice none 0 0,.int .i64 0,.int .i64 0])))<|(zP)<|zle (xsw 1 Z3 hS) ?_;clear hS;rintro w hS
   refine(zP)<|zx14<|ZW 1 Z3 hS ⟨_,rfl,?_⟩
   obtain⟨hl,hts⟩:=yQ.ok (by omega);rw [hts] at qI
   exact⟨_,_,So.zero,_,rfl,.inr ⟨hl,_,qI,.inl ⟨by omega,rfl⟩⟩,slh_nil,slh_nil,((hS.sub (.cons _ (.cons _ (.cons _ (.cons _ (.cons _ (.cons _ (.cons _ (.cons _ .slnil))))))))).addnil 1 3 (ints So.zero.X)).addnil 1 3 (ints So.zero.Y)⟩
  refine zsk<|ztn<|zsq<| ?_
  refine XX (fun M w=>∃(v1:Value) (v2:Value) (g4:Nat),(Slh v1 p.n)/\(Slh v2 p.m)/\M= [(0,.agg #[vc,vA,vb]),(1,.pointer (some ⟨g1,0,none⟩)),(2,.pointer (some ⟨g2,0,none⟩)),(3,.int .i64 0),(12,.agg #[vc,vA,vb]),(13,.tuple #[.agg #[.int .i64 tk1.vars,.int .i64 tk1.den,qz,qy,ql],.int .i64 ek1]),(11,.tuple #[.agg #[.int .i64 tk1.vars,.int .i64 tk1.den,qz,qy,ql],.int .i64 ek1]),(14,.agg #[.int .i64 tk1.vars,.int .i64 tk1.den,qz,qy,ql]),(15,.int .i64 ek1),(4,.pointer (some ⟨g3,0,none⟩)),(5,.int .i64 zI),(16,.int .i64 ek1),(17,B (ek1≠0)),(21,.agg #[.int .i64 tk1.vars,.int .i64 tk1.den,qz,qy,ql]),(22,.tuple #[.agg #[.int .i64 uu1.vars,.int .i64 uu1.den,yt,yr,ye],.int .i64 zI]),(20,.tuple #[.agg #[.int .i64 uu1.vars,.int .i64 uu1.den,yt,yr,ye],.int .i64 zI]),(23,.agg #[.int .i64 uu1.vars,.int .i64 uu1.den,yt,yr,ye]),(24,.int .i64 zI),(25,.int .i64 zI),(26,B (zI≠0)),(29,.pointer (some ⟨g1,0,none⟩)),(30,vc),(31,.int .i64 p.n),(33,.pointer (some ⟨g1,1,none⟩)),(34,vA),(35,.int .i64 p.m),(37,.pointer (some ⟨g3,4,none⟩)),(38,ye),(39,.pointer (some (cad ye 0))),(40,(yd 0)),(41,.pointer (some (cad (yd 0) 0))),(42,.int .i64 (uu1.C 0 0)),(43,.pointer (some ⟨g3,1,none⟩)),(44,.int .i64 uu1.den),(32,v1),(36,v2),(45,.agg #[v1,v2,.int .i64 (uu1.C 0 0),.int .i64 uu1.den]),(6,.pointer (some ⟨g4,0,none⟩))]/\Sat w0 w [.blk g1 [vc,vA,vb],.blk g2 [.slice none 0 0,.slice none 0 0,.int .i64 0,.int .i64 0],.own qz 1 3 tk1.nb (ints tk1.B),.own qy 1 3 tk1.nf (ints tk1.F),.own ql 1 22 tk1.nc qp,.sem (Frame.rows 3 tk1.nc qp tk1.ln tk1.C),.blk g3 [.int .i64 uu1.vars,.int .i64 uu1.den,yt,yr,ye],.sem (Frame.alt (uu1=tk1/\yt=qz/\yr=qy/\ye=ql/\yd=qp) (Frame.bun [.own yt 1 3 uu1.nb (ints uu1.B),.own yr 1 3 uu1.nf (ints uu1.F),.own ye 1 22 uu1.nc yd,.sem (Frame.rows 3 uu1.nc yd uu1.ln uu1.C)])),.own v1 1 3 p.n (ints (fun _=>0)),.own v2 1 3 p.m (ints (fun _=>0)),.blk g4 [v1,v2,.int .i64 (uu1.C 0 0),.int .i64 uu1.den]]) ?_ ?_
  ·
   refine zdst [0,1,2,3,4,5,6,7] [0,1,2,3,4,5,6,7] 18 mx_ hS ?_;clear hS;intro w hS
   refine zDrv 0 (xfb 0 fd_173_0) ?_
   obtain⟨hl,hts⟩:=yQ.ok (by omega)
   have b1:=hl.n1
   have b2:=hl.n2
   have b3:=hl.m2
   have b4:=hl.k
   have hdm:=qI.dims
   obtain⟨hp,hco,hlv,_⟩:=qI.fin (.inl (by omega))
   have hd1:uu1.nb=p.m:=by rw [hdm.1,hts];rfl
   have hd2:uu1.nf=p.n:=by rw [hdm.2.1,hts];rfl
   have hd3:uu1.vars=p.n:=by rw [hdm.2.2.2,hts];rfl
   have hd4:=hp.c;have hl0:=hp.len (i:=0) (by omega) (by omega)
   refine(zDl 1 (fun w hS=>(xlb 0 pl_22 hS)))<|(zDw 2 (xln Zb hL.c.slh))<|(zDw 4 (xfb 1 fd_173_1))<|(zDl 5 (fun w hS=>(xlb 0 Zu hS)))<|(zDw 6 (xln Zi hL.A.row.slh))<|(zDw 8 (xfb 4 fd_204_4))<|(zDl 9 (fun w hS=>(xlb 6 Zu hS)))<|(zDw 10 (xix (kk:=0) Zi zr))<|(zDl 11 (fun w hS=>(xlr (u:=(yd 0)) pl_22 (Yl (⟨(hS.rowN 2 rfl),(hS.rowN 3 rfl),(⟨(hS.rowN 4 rfl),fun k k0 k1=>hS.rowIn 5 rfl k0 k1,fun k k0 k1=>hS.roomIn 5 rfl k0 k1⟩:MAt _ ql tk1.nc qp tk1.ln tk1.C)⟩:TAt _ qz qy ql qp tk1) hS 7 rfl).C.row)))<|(zDw 12 (xix (kk:=0) Zb (aE 0 (by omega) (by omega))))<|(zDl 13 (fun w hS=>(xlr (u:= .int .i64 (uu1.C 0 0)) pl_3 ((Yl (⟨(hS.rowN 2 rfl),(hS.rowN 3 rfl),(⟨(hS.rowN 4 rfl),fun k k0 k1=>hS.rowIn 5 rfl k0 k1,fun k k0 k1=>hS.roomIn 5 rfl k0 k1⟩:MAt _ ql tk1.nc qp tk1.ln tk1.C)⟩:TAt _ qz qy ql qp tk1) hS 7 rfl).C.p 0 (by omega) (by omega)))))<|(zDw 14 (xfb 1 fd_204_1))<|(zDl 15 (fun w hS=>(xlb 6 pl_3 hS)))<|YS (r:= [3,7,17]) ((ZO ?_ (ZO ?_ (ZO ?_ YR))))
   ·
    refine zka (xmk Zb Zn hS) ?_;rintro v1 w ⟨hS,hv1⟩
    refine⟨⟨fun _=>hS.pk [0,1,2,3,4,5,6,7],hS.pk [0,1,2,3,4,5,6,7]⟩,?_⟩
    refine YS (r:= [7,17]) ((ZO ?_ (ZO ?_ YR)))
    ·
     refine zka (xmk Zb Zn hS) ?_;rintro v2 w ⟨hS,hv2⟩
     refine⟨⟨fun _=>hS.pk [0,1,2,3,4,5,6,7],hS.pk [0,1,2,3,4,5,6,7]⟩,?_⟩
     refine zDrv 16 (xany (v:= .agg #[v1,v2,.int .i64 (uu1.C 0 0),.int .i64 uu1.den]) (hr:=by obtain⟨_,_,_,_,rfl,_⟩:=hv1;obtain⟨_,_,_,_,rfl,_⟩:=hv2;kernel_rfl)) ?_
     refine zda 17 (xal (cs:= [_,_,_,_]) VG hS) ?_;rintro _ w ⟨g4,rfl,hS⟩
     refine⟨⟨fun _=>hS.pk [0,1,2,3,4,5,6,7],hS.pk [0,1,2,3,4,5,6,7]⟩,?_⟩
     refine zde 18 (xsw 10 Z3 hS (hd:=(Za hv1.one (Za hv2.one (Za rfl (Za rfl Zg)))))) ?_;clear hS;rintro w hS
     refine⟨⟨fun h=>absurd h (by decide),hS.pk [0,1,2,3,4,5,6,7]⟩,?_⟩
     refine zdd<|zgj ⟨v1,v2,g4,hv1,hv2,rfl,hS⟩
    refine zka (xal (cs:= [_,_,_,_]) VG hS) ?_;rintro _ w ⟨g4,rfl,hS⟩
    refine⟨⟨fun _=>hS.pk [0,1,2,3,4,5,6,7],hS.pk [0,1,2,3,4,5,6,7]⟩,?_⟩
    refine zda 7 (xmk Zb Zn hS) ?_;rintro v2 w ⟨hS,hv2⟩
    refine⟨⟨fun _=>hS.pk [0,1,2,3,4,5,6,7],hS.pk [0,1,2,3,4,5,6,7]⟩,?_⟩
    refine zDrv 16 (xany (v:= .agg #[v1,v2,.int .i64 (uu1.C 0 0),.int .i64 uu1.den]) (hr:=by obtain⟨_,_,_,_,rfl,_⟩:=hv1;obtain⟨_,_,_,_,rfl,_⟩:=hv2;kernel_rfl)) ?_
    refine zde 18 (xsw 9 Z3 hS (hd:=(Za hv1.one (Za hv2.one (Za rfl (Za rfl Zg)))))) ?_;clear hS;rintro w hS
    refine⟨⟨fun h=>absurd h (by decide),hS.pk [0,1,2,3,4,5,6,7]⟩,?_⟩
    refine zdd<|zgj ⟨v1,v2,g4,hv1,hv2,rfl,hS.pk [0,1,2,3,4,5,6,7,8,10,9]⟩
   ·
    refine zka (xmk Zb Zn hS) ?_;rintro v1 w ⟨hS,hv1⟩
    refine⟨⟨fun _=>hS.pk [0,1,2,3,4,5,6,7],hS.pk [0,1,2,3,4,5,6,7]⟩,?_⟩
    refine YS (r:= [3,17]) ((ZO ?_ (ZO ?_ YR)))
    ·
     refine zka (xmk Zb Zn hS) ?_;rintro v2 w ⟨hS,hv2⟩
     refine⟨⟨fun _=>hS.pk [0,1,2,3,4,5,6,7],hS.pk [0,1,2,3,4,5,6,7]⟩,?_⟩
     refine zDrv 16 (xany (v:= .agg #[v2,v1,.int .i64 (uu1.C 0 0),.int .i64 uu1.den]) (hr:=by obtain⟨_,_,_,_,rfl,_⟩:=hv2;obtain⟨_,_,_,_,rfl,_⟩:=hv1;kernel_rfl)) ?_
     refine zda 17 (xal (cs:= [_,_,_,_]) VG hS) ?_;rintro _ w ⟨g4,rfl,hS⟩
     refine⟨⟨fun _=>hS.pk [0,1,2,3,4,5,6,7],hS.pk [0,1,2,3,4,5,6,7]⟩,?_⟩
     refine zde 18 (xsw 10 Z3 hS (hd:=(Za hv2.one (Za hv1.one (Za rfl (Za rfl Zg)))))) ?_;clear hS;rintro w hS
     refine⟨⟨fun h=>absurd h (by decide),hS.pk [0,1,2,3,4,5,6,7]⟩,?_⟩
     refine zdd<|zgj ⟨v2,v1,g4,hv2,hv1,rfl,hS.pk [0,1,2,3,4,5,6,7,9,8,10]⟩
    refine zka (xal (cs:= [_,_,_,_]) VG hS) ?_;rintro _ w ⟨g4,rfl,hS⟩
    refine⟨⟨fun _=>hS.pk [0,1,2,3,4,5,6,7],hS.pk [0,1,2,3,4,5,6,7]⟩,?_⟩
    refine zda 3 (xmk Zb Zn hS) ?_;rintro v2 w ⟨hS,hv2⟩
    refine⟨⟨fun _=>hS.pk [0,1,2,3,4,5,6,7],hS.pk [0,1,2,3,4,5,6,7]⟩,?_⟩
    refine zDrv 16 (xany (v:= .agg #[v2,v1,.int .i64 (uu1.C 0 0),.int .i64 uu1.den]) (hr:=by obtain⟨_,_,_,_,rfl,_⟩:=hv2;obtain⟨_,_,_,_,rfl,_⟩:=hv1;kernel_rfl)) ?_
    refine zde 18 (xsw 9 Z3 hS (hd:=(Za hv2.one (Za hv1.one (Za rfl (Za rfl Zg)))))) ?_;clear hS;rintro w hS
    refine⟨⟨fun h=>absurd h (by decide),hS.pk [0,1,2,3,4,5,6,7]⟩,?_⟩
    refine zdd<|zgj ⟨v2,v1,g4,hv2,hv1,rfl,hS.pk [0,1,2,3,4,5,6,7,10,8,9]⟩
   refine zka (xal (cs:= [_,_,_,_]) VG hS) ?_;rintro _ w ⟨g4,rfl,hS⟩
   refine⟨⟨fun _=>hS.pk [0,1,2,3,4,5,6,7],hS.pk [0,1,2,3,4,5,6,7]⟩,?_⟩
   refine YS (r:= [3,7]) ((ZO ?_ (ZO ?_ YR)))
   ·
    refine zka (xmk Zb Zn hS) ?_;rintro v1 w ⟨hS,hv1⟩
    refine⟨⟨fun _=>hS.pk [0,1,2,3,4,5,6,7],hS.pk [0,1,2,3,4,5,6,7]⟩,?_⟩
    refine zda 7 (xmk Zb Zn hS) ?_;rintro v2 w ⟨hS,hv2⟩
    refine⟨⟨fun _=>hS.pk [0,1,2,3,4,5,6,7],hS.pk [0,1,2,3,4,5,6,7]⟩,?_⟩
    refine zDrv 16 (xany (v:= .agg #[v1,v2,.int .i64 (uu1.C 0 0),.int .i64 uu1.den]) (hr:=by obtain⟨_,_,_,_,rfl,_⟩:=hv1;obtain⟨_,_,_,_,rfl,_⟩:=hv2;kernel_rfl)) ?_
    refine zde 18 (xsw 8 Z3 hS (hd:=(Za hv1.one (Za hv2.one (Za rfl (Za rfl Zg)))))) ?_;clear hS;rintro w hS
    refine⟨⟨fun h=>absurd h (by decide),hS.pk [0,1,2,3,4,5,6,7]⟩,?_⟩
    refine zdd<|zgj ⟨v1,v2,g4,hv1,hv2,rfl,hS.pk [0,1,2,3,4,5,6,7,9,10,8]⟩
   refine zka (xmk Zb Zn hS) ?_;rintro v1 w ⟨hS,hv1⟩
   refine⟨⟨fun _=>hS.pk [0,1,2,3,4,5,6,7],hS.pk [0,1,2,3,4,5,6,7]⟩,?_⟩
   refine zda 3 (xmk Zb Zn hS) ?_;rintro v2 w ⟨hS,hv2⟩
   refine⟨⟨fun _=>hS.pk [0,1,2,3,4,5,6,7],hS.pk [0,1,2,3,4,5,6,7]⟩,?_⟩
   refine zDrv 16 (xany (v:= .agg #[v2,v1,.int .i64 (uu1.C 0 0),.int .i64 uu1.den]) (hr:=by obtain⟨_,_,_,_,rfl,_⟩:=hv2;obtain⟨_,_,_,_,rfl,_⟩:=hv1;kernel_rfl)) ?_
   refine zde 18 (xsw 8 Z3 hS (hd:=(Za hv2.one (Za hv1.one (Za rfl (Za rfl Zg)))))) ?_;clear hS;rintro w hS
   refine⟨⟨fun h=>absurd h (by decide),hS.pk [0,1,2,3,4,5,6,7]⟩,?_⟩
   refine zdd<|zgj ⟨v2,v1,g4,hv2,hv1,rfl,hS.pk [0,1,2,3,4,5,6,7,10,9,8]⟩
  clear hS w;rintro M w ⟨v1,v2,g4,hv1,hv2,rfl,hS⟩
  refine ztn<|zsq<|zsr<|zlv (xfb 2 fd_204_2) ?_
  obtain⟨hl,hts⟩:=yQ.ok (by omega)
  have b1:=hl.n1
  have b2:=hl.n2
  have b3:=hl.m2
  have b4:=hl.k
  have hdm:=qI.dims
  obtain⟨hp,hco,hlv,_⟩:=qI.fin (.inl (by omega))
  have hd1:uu1.nb=p.m:=by rw [hdm.1,hts];rfl
  have hd2:uu1.nf=p.n:=by rw [hdm.2.1,hts];rfl
  have hd3:uu1.vars=p.n:=by rw [hdm.2.2.2,hts];rfl
  have hd4:=hp.c;have hl0:=hp.len (i:=0) (by omega) (by omega)
  refine(zV (xlb 6 pl_22 hS))<|(zV (xln Zb zS))<|(zP)<|zx6<|zlp (fun mm M w=>∃(i:Int) (fX:Int->Int),mm=((uu1.nb-i).toNat)/\(0<=i)/\(i<=uu1.nb)/\(fX=rdX uu1 i.toNat)/\M= [(2,.pointer (some ⟨g2,0,none⟩)),(3,.int .i64 0),(4,.pointer (some ⟨g3,0,none⟩)),(6,.pointer (some ⟨g4,0,none⟩)),(47,yt),(48,.int .i64 uu1.nb),(49,.int .i64 i)]/\Sat w0 w [.blk g1 [vc,vA,vb],.blk g2 [.slice none 0 0,.slice none 0 0,.int .i64 0,.int .i64 0],.own qz 1 3 tk1.nb (ints tk1.B),.own qy 1 3 tk1.nf (ints tk1.F),.own ql 1 22 tk1.nc qp,.sem (Frame.rows 3 tk1.nc qp tk1.ln tk1.C),.blk g3 [.int .i64 uu1.vars,.int .i64 uu1.den,yt,yr,ye],.sem (Frame.alt (uu1=tk1/\yt=qz/\yr=qy/\ye=ql/\yd=qp) (Frame.bun [.own yt 1 3 uu1.nb (ints uu1.B),.own yr 1 3 uu1.nf (ints uu1.F),.own ye 1 22 uu1.nc yd,.sem (Frame.rows 3 uu1.nc yd uu1.ln uu1.C)])),.own v1 1 3 p.n (ints fX),.own v2 1 3 p.m (ints (fun _=>0)),.blk g4 [v1,v2,.int .i64 (uu1.C 0 0),.int .i64 uu1.den]]) ⟨0,(fun _=>0),rfl,(by omega),(by omega),?_,rfl,hS⟩ ?_
  ·
   rfl
  clear hS w
  rintro mm M w ⟨i,fX,rfl,h0,h1,hfX,rfl,hS⟩
  refine zsr<|(zP)<|zx7<|Ze ?_ ?_<;>intro hc
  ·
   refine zx3<|(zP)<|(zV (xix (kk:=i) Zb zS))<|zlv (xlr (u:= .int .i64 (uu1.B i)) pl_3 (Yl (⟨(hS.rowN 2 rfl),(hS.rowN 3 rfl),(⟨(hS.rowN 4 rfl),fun k k0 k1=>hS.rowIn 5 rfl k0 k1,fun k k0 k1=>hS.roomIn 5 rfl k0 k1⟩:MAt _ ql tk1.nc qp tk1.ln tk1.C)⟩:TAt _ qz qy ql qp tk1) hS 7 rfl).B) ?_
   have hrg:=hp.rngB (i:=i) h0 (by omega)
   refine(zP)<|(zP)<|zlz<|(zP)<|(zV (xfb 0 fd_204_0))<|(zV (xlb 6 pl_3 hS))<|(zP)<|zlt<|Ze ?_ ?_<;>intro hc
   ·
    refine zdst [0,1,2,3,4,5,6,7,8,9,10] [0,1,2,3,4,5,6,7,9,10] 12 mx_ hS ?_;clear hS;intro w hS
    refine zDrv 0 (xfb 0 fd_29_0) ?_
    have hli:=hp.len (i:=i+1) (by omega) (by omega)
    refine(zDl 1 (fun w hS=>(xlb 9 pl_22 hS)))<|(zDw 2 xmv)<|(zDw 3 (xfb 4 fd_204_4))<|(zDl 4 (fun w hS=>(xlb 6 Zu hS)))<|(zDw 5 xmv)<|(zDw 6 (Zf (r:=i+1)))<|(zDw 7 (xix (kk:=i+1) Zi zr))<|(zDl 8 (fun w hS=>(xlr (u:=(yd (i+1))) pl_22 (Yl (⟨(hS.rowN 2 rfl),(hS.rowN 3 rfl),(⟨(hS.rowN 4 rfl),fun k k0 k1=>hS.rowIn 5 rfl k0 k1,fun k k0 k1=>hS.roomIn 5 rfl k0 k1⟩:MAt _ ql tk1.nc qp tk1.ln tk1.C)⟩:TAt _ qz qy ql qp tk1) hS 7 rfl).C.row)))<|(zDw 9 (xix (kk:=0) Zb (aE (i+1) (by omega) (by omega))))<|(zDl 10 (fun w hS=>(xlr (u:= .int .i64 (uu1.C (i+1) 0)) pl_3 ((Yl (⟨(hS.rowN 2 rfl),(hS.rowN 3 rfl),(⟨(hS.rowN 4 rfl),fun k k0 k1=>hS.rowIn 5 rfl k0 k1,fun k k0 k1=>hS.roomIn 5 rfl k0 k1⟩:MAt _ ql tk1.nc qp tk1.ln tk1.C)⟩:TAt _ qz qy ql qp tk1) hS 7 rfl).C.p (i+1) (by omega) (by omega)))))<|(zDw 11 (xix (kk:=(uu1.B i)) Zb hv1))<|zde 12 (xso 8 pl_3 hS (ZE _ _ _)) ?_;clear hS;rintro w hS
    refine⟨⟨fun h=>absurd h (by decide),hS.pk [0,1,2,3,4,5,6,7,9,10]⟩,?_⟩
    refine zdd<|zbn<|ztn<|zrg ?_
    refine(zV (Zf (r:=i+1)))<|(zP)<|zln<|zlq ⟨i+1,(upd fX (uu1.B i) (uu1.C (i+1) 0)),rfl,(by omega),(by omega),?_,rfl,hS⟩
    ·
     rw [Vr uu1 h0,<-hfX];first|rw [if_pos (by omega)]|rw [if_neg (by omega)]
   refine zx4<|(zV (Zf (r:=i+1)))<|(zP)<|zln<|zlq ⟨i+1,fX,rfl,(by omega),(by omega),?_,rfl,hS⟩
   ·
    rw [Vr uu1 h0,<-hfX];first|rw [if_pos (by omega)]|rw [if_neg (by omega)]
  refine zx18<|(zV (xfb 3 fd_204_3))<|(zV (xlb 6 pl_22 hS))<|(zV (xln Zb zR))<|(zP)<|zx6<|zlp (fun mm M w=>∃(j:Int) (fY:Int->Int),mm=((uu1.nf-j).toNat)/\(0<=j)/\(j<=uu1.nf)/\(fY=rdY uu1 j.toNat)/\M= [(2,.pointer (some ⟨g2,0,none⟩)),(3,.int .i64 0),(4,.pointer (some ⟨g3,0,none⟩)),(6,.pointer (some ⟨g4,0,none⟩)),(72,yr),(73,.int .i64 uu1.nf),(74,.int .i64 j)]/\Sat w0 w [.blk g1 [vc,vA,vb],.blk g2 [.slice none 0 0,.slice none 0 0,.int .i64 0,.int .i64 0],.own qz 1 3 tk1.nb (ints tk1.B),.own qy 1 3 tk1.nf (ints tk1.F),.own ql 1 22 tk1.nc qp,.sem (Frame.rows 3 tk1.nc qp tk1.ln tk1.C),.blk g3 [.int .i64 uu1.vars,.int .i64 uu1.den,yt,yr,ye],.sem (Frame.alt (uu1=tk1/\yt=qz/\yr=qy/\ye=ql/\yd=qp) (Frame.bun [.own yt 1 3 uu1.nb (ints uu1.B),.own yr 1 3 uu1.nf (ints uu1.F),.own ye 1 22 uu1.nc yd,.sem (Frame.rows 3 uu1.nc yd uu1.ln uu1.C)])),.own v1 1 3 p.n (ints fX),.own v2 1 3 p.m (ints fY),.blk g4 [v1,v2,.int .i64 (uu1.C 0 0),.int .i64 uu1.den]]) ⟨0,(fun _=>0),rfl,(by omega),(by omega),?_,rfl,hS⟩ ?_
  ·
   rfl
  clear hS w
  rintro mm M w ⟨j,fY,rfl,j0,j1,hfY,rfl,hS⟩
  refine zsr<|(zP)<|zx7<|Ze ?_ ?_<;>intro hc
  ·
   refine zx3<|(zP)<|(zV (xix (kk:=j) Zb zR))<|zlv (xlr (u:= .int .i64 (uu1.F j)) pl_3 (Yl (⟨(hS.rowN 2 rfl),(hS.rowN 3 rfl),(⟨(hS.rowN 4 rfl),fun k k0 k1=>hS.rowIn 5 rfl k0 k1,fun k k0 k1=>hS.roomIn 5 rfl k0 k1⟩:MAt _ ql tk1.nc qp tk1.ln tk1.C)⟩:TAt _ qz qy ql qp tk1) hS 7 rfl).F) ?_
   have hrg:=hp.rngF (i:=j) j0 (by omega) (by omega)
   refine(zP)<|(zP)<|zlz<|(zP)<|(zV (xfb 0 fd_204_0))<|(zV (xlb 6 pl_3 hS))<|(zP)<|zlt<|Ze ?_ ?_<;>intro hc
   ·
    refine zdst [0,1,2,3,4,5,6,7,8,9,10] [0,1,2,3,4,5,6,7,8,10] 15 mx_ hS ?_;clear hS;intro w hS
    refine(zDw 0 (xfb 1 fd_29_1))<|(zDl 1 (fun w hS=>(xlb 9 pl_22 hS)))<|(zDw 2 xmv)<|(zDw 3 (xfb 0 fd_204_0))<|(zDl 4 (fun w hS=>(xlb 6 pl_3 hS)))<|(zDw 5 (ZD (r:=(uu1.F j)-uu1.vars)))<|(zDw 6 (xfb 4 fd_204_4))<|(zDl 7 (fun w hS=>(xlb 6 Zu hS)))<|(zDw 8 (xix (kk:=0) Zi zr))<|(zDl 9 (fun w hS=>(xlr (u:=(yd 0)) pl_22 (Yl (⟨(hS.rowN 2 rfl),(hS.rowN 3 rfl),(⟨(hS.rowN 4 rfl),fun k k0 k1=>hS.rowIn 5 rfl k0 k1,fun k k0 k1=>hS.roomIn 5 rfl k0 k1⟩:MAt _ ql tk1.nc qp tk1.ln tk1.C)⟩:TAt _ qz qy ql qp tk1) hS 7 rfl).C.row)))<|(zDw 10 xmv)<|(zDw 11 (Zf (r:=j+1)))<|(zDw 12 (xix (kk:=j+1) Zb (aE 0 (by omega) (by omega))))<|(zDl 13 (fun w hS=>(xlr (u:= .int .i64 (uu1.C 0 (j+1))) pl_3 ((Yl (⟨(hS.rowN 2 rfl),(hS.rowN 3 rfl),(⟨(hS.rowN 4 rfl),fun k k0 k1=>hS.rowIn 5 rfl k0 k1,fun k k0 k1=>hS.roomIn 5 rfl k0 k1⟩:MAt _ ql tk1.nc qp tk1.ln tk1.C)⟩:TAt _ qz qy ql qp tk1) hS 7 rfl).C.p 0 (by omega) (by omega)))))<|zDrv 14 (xix (kk:=(uu1.F j)-uu1.vars) Zb hv2) ?_
    refine zde 15 (xso 9 pl_3 hS (ZE _ _ _)) ?_;clear hS;rintro w hS
    refine⟨⟨fun h=>absurd h (by decide),hS.pk [0,1,2,3,4,5,6,7,8,10]⟩,?_⟩
    refine zdd<|zbn<|ztn<|zrg ?_
    refine(zV (Zf (r:=j+1)))<|(zP)<|zln<|zlq ⟨j+1,(upd fY ((uu1.F j)-uu1.vars) (uu1.C 0 (j+1))),rfl,(by omega),(by omega),?_,rfl,hS⟩
    ·
     rw [Vq uu1 j0,<-hfY];first|rw [if_pos (by omega)]|rw [if_neg (by omega)]
   refine zx4<|(zV (Zf (r:=j+1)))<|(zP)<|zln<|zlq ⟨j+1,fY,rfl,(by omega),(by omega),?_,rfl,hS⟩
   ·
    rw [Vq uu1 j0,<-hfY];first|rw [if_pos (by omega)]|rw [if_neg (by omega)]
  refine zx8<|(zV (xls 10 Z3 hS))<|zle (xsw 1 Z3 hS (hd:=(Za hv1.one (Za hv2.one (Za rfl (Za rfl Zg)))))) ?_;clear hS;rintro w hS
  refine(zP)<|zx1<|ZW 1 Z3 hS ⟨_,rfl,?_⟩
  obtain rfl:i=uu1.nb:=by omega
  obtain rfl:j=uu1.nf:=by omega
  have he0:zI=0:=by omega
  rw [hts,he0] at qI
  rw [<-hd2] at hv1;rw [<-hd1] at hv2;replace hS:=hS.pk [8,9];rw [<-hd2,<-hd1] at hS;subst hfX;subst hfY
  exact⟨_,_,XC uu1,0,rfl,.inr ⟨hl,uu1,qI,.inr ⟨rfl,rfl⟩⟩,hv1,hv2,hS⟩
end Go.Proofs.YtopmifmfecfaaaaGreat
namespace Go.Proofs.Gw
open Go Go.RowKit
variable {e i j:Int} {k:Nat} {s:So} {t u:Tb}
theorem Z5{f:Int->Int}{s:Int}:∀{n:Nat},0<=s->s<n->Zh f n=f s+Zh (fun j=>if j=s then 0 else f j) n
  |0,h0,h1=>by omega
  | n +1,h0,h1=>by
    rw [Zh,Zh]
    by_cases e:s=n
    · have:Zh (fun j=>if j=s then 0 else f j) n=Zh f n:=Zj fun i i0 i1=>by rw [if_neg (by omega)]
      rw [this,if_pos e.symm,e];omega
    · have:=Z5 (f:=f) (s:=s) (n:=n) h0 (by omega)
      rw [this,if_neg (by omega)];omega
theorem Xd{f g h:Int->Int}{D A B:Int}:∀{n:Nat},(∀i,0<=i->i<(n:Int)->D*h i=A*f i-B*g i)->D*Zh h n=A*Zh f n-B*Zh g n
  |0,_=>by simp [Zh]
  | n+1,hh=>by
    have h1:=Xd (n:=n) (fun i i0 i1=>hh i i0 (by omega))
    have h2:=hh n (by omega) (by omega)
    simp only [Zh]
    grind
def Vm(t:Tb)(k0:Int)(v:Int->Int)(i:Int):Int:=t.C i 0*k0+Zh (fun j=>t.C i (j+1)*v (t.F j)) t.nf.toNat
def Va(t:Tb)(z:Int)(v:Int->Int)(i:Int):Int:=if i=0 then z else v (t.B (i-1))
def Idt(t:Tb)(k0 z:Int)(v:Int->Int):Prop:=∀i,0<=i->i<=t.nb->t.den*Va t z v i=Vm t k0 v i
def Wt(t:Tb)(k0:Int)(v:Int->Int)(s i:Int):Int:=t.C i 0*k0+Zh (fun j=>if j=s then 0 else t.C i (j+1)*v (t.F j)) t.nf.toNat
theorem TN(t:Tb)(k0:Int)(v:Int->Int){s:Int}(i:Int)(s0:0<=s)(s1:s<t.nf):Vm t k0 v i=Wt t k0 v s i+t.C i (s+1)*v (t.F s):=by
  unfold Vm Wt
  rw [Z5 (s:=s) s0 (by omega)];omega
def sg(p:Int):Int:=if p<0 then-1 else 1
theorem Vj(p:Int):sg p=1\/sg p= -1:=by unfold sg;split<;>simp
theorem X1(t:Tb)(row col i j:Int):(piv t row col).C i j=sg (t.C (row+1) (col+1))*ZS t (row+1) (col+1) i j:=by
  show(if _ then _ else _)=_
  unfold sg;split<;>simp
theorem Ux(t:Tb)(row col:Int):(piv t row col).den=sg (t.C (row+1) (col+1))*t.C (row+1) (col+1):=by
  show(if _ then _ else _)=_
  unfold sg;split<;>simp
theorem Uk{row col:Int}(hd:ZaS t row col)(i0:0<=i)(i1:i<=t.nb)(j0:0<=j)(j1:j<=t.nf)(hi:i≠row+1)(hj:j≠col+1):
    t.den*ZS t (row+1) (col+1) i j=t.C (row+1) (col+1)*t.C i j-t.C i (col+1)*t.C (row+1) j:=by
  unfold ZS
  rw [if_neg (by omega),if_neg hi,if_neg hj]
  exact Int.mul_tdiv_cancel' (Int.dvd_of_tmod_eq_zero (hd i j i0 i1 j0 j1 hi hj))
theorem ZbO {row col:Int} (ha:Vu t row col) (hd:ZaS t row col) (k0 z:Int) (v:Int->Int):Idt t k0 z v↔Idt (piv t row col) k0 z v:=by
  obtain⟨hp,r0,r1,c0,c1,hne⟩:=ha
  have hD:=hp.d1
  have hnf:(piv t row col).nf=t.nf:=rfl
  have hF1:(piv t row col).F col=t.B row:=by show upd t.F col (t.B row) col=_;rw [ZX]
  have hF2:∀j,j≠col->(piv t row col).F j=t.F j:=fun j h=>by show upd t.F col (t.B row) j=_;rw [upd_ne _ _ h]
  have hB1:(piv t row col).B row=t.F col:=by show upd t.B row (t.F col) row=_;rw [ZX]
  have hB2:∀j,j≠row->(piv t row col).B j=t.B j:=fun j h=>by show upd t.B row (t.F col) j=_;rw [upd_ne _ _ h]
  have qO:∀i,Vm t k0 v i=Wt t k0 v col i+t.C i (col+1)*v (t.F col):=fun i=>TN t k0 v i c0 c1
  have aG:∀i,Vm (piv t row col) k0 v i=Wt (piv t row col) k0 v col i+(piv t row col).C i (col+1)*v (t.B row):=fun i=>by
    rw [TN (piv t row col) k0 v i c0 c1,hF1]
  have hR :Wt (piv t row col) k0 v col (row+1)= -(sg (t.C (row+1) (col+1))*Wt t k0 v col (row+1)):=by
    unfold Wt
    have e0:(piv t row col).C (row+1) 0=sg (t.C (row+1) (col+1))* -t.C (row+1) 0:=by
      rw [X1];unfold ZS;rw [if_neg (by omega),if_pos rfl]
    have e1:=Xd (D:=1) (A:= -sg (t.C (row+1) (col+1))) (B:=0) (n:=t.nf.toNat) (h:=fun j=>if j=col then 0 else(piv t row col).C (row+1) (j+1)*v ((piv t row col).F j))
      (f:=fun j=>if j=col then 0 else t.C (row+1) (j+1)*v (t.F j)) (g:=fun _=>0) (fun j j0 j1=>by
        by_cases e:j=col
        · simp [e]
        · simp only [if_neg e]
          rw [hF2 j e,X1];unfold ZS;rw [if_neg (by omega),if_pos rfl];grind)
    rw [e0,hnf]
    grind
  have hQ :∀i,0<=i->i<=t.nb->i≠row+1->t.den*Wt (piv t row col) k0 v col i=sg (t.C (row+1) (col+1))*(t.C (row+1) (col+1)*Wt t k0 v col i-t.C i (col+1)*Wt t k0 v col (row+1)):=fun i i0 i1 hi=>by
    unfold Wt
    have e0:t.den*(piv t row col).C i 0=sg (t.C (row+1) (col+1))*(t.C (row+1) (col+1)*t.C i 0-t.C i (col+1)*t.C (row+1) 0):=by
      have:=Uk hd i0 i1 (j:=0) (by omega) (by omega) hi (by omega)
      rw [X1];grind
    have e1:=Xd (D:=t.den) (A:=sg (t.C (row+1) (col+1))*t.C (row+1) (col+1)) (B:=sg (t.C (row+1) (col+1))*t.C i (col+1)) (n:=t.nf.toNat) (h:=fun j=>if j=col then 0 else(piv t row col).C i (j+1)*v ((piv t row col).F j))
      (f:=fun j=>if j=col then 0 else t.C i (j+1)*v (t.F j)) (g:=fun j=>if j=col then 0 else t.C (row+1) (j+1)*v (t.F j)) (fun j j0 j1=>by
        by_cases e:j=col
        · simp [e]
        · simp only [if_neg e]
          have:=Uk hd i0 i1 (j:=j+1) (by omega) (by omega) hi (by omega)
          rw [hF2 j e,X1];grind)
    rw [hnf]
    grind
  have hr':(piv t row col).C (row+1) (col+1)=sg (t.C (row+1) (col+1))*t.den:=by rw [X1];unfold ZS;rw [if_pos ⟨rfl,rfl⟩]
  have hc':∀i,i≠row+1->(piv t row col).C i (col+1)=sg (t.C (row+1) (col+1))*t.C i (col+1):=fun i hi=>by rw [X1];unfold ZS;rw [if_neg (by omega),if_neg hi,if_pos rfl]
  have hl1:Va t z v (row+1)=v (t.B row):=by unfold Va;rw [if_neg (by omega)];congr 2;omega
  have eo:Va (piv t row col) z v (row+1)=v (t.F col):=by unfold Va;rw [if_neg (by omega),show row+1-1=row by omega,hB1]
  have hl2:∀i,i≠row+1->Va (piv t row col) z v i=Va t z v i:=fun i hi=>by
    unfold Va;split
    · rfl
    · rw [hB2 _ (by omega)]
  have hs:=Vj (t.C (row+1) (col+1))
  have yN:=Ux t row col
  generalize sg (t.C (row+1) (col+1))=σ at*
  constructor
  · intro h i i0 i1
    have er:=h (row+1) (by omega) (by omega)
    rw [hl1,qO] at er
    by_cases hi:i=row+1
    · subst hi
      rw [eo,aG,hR,hr',yN]
      grind
    · have ei:=h i i0 i1
      rw [qO] at ei
      have q:=hQ i i0 i1 hi
      rw [hl2 i hi,aG,hc' i hi,yN]
      refine Int.eq_of_mul_eq_mul_left (a:=t.den) (by omega) ?_
      grind
  · intro h i i0 i1
    have er:=h (row+1) (by omega) (show row+1<=t.nb by omega)
    rw [eo,aG,hR,hr',yN] at er
    have er2:t.den*v (t.B row)=Wt t k0 v col (row+1)+t.C (row+1) (col+1)*v (t.F col):=by
      rcases hs with rfl|rfl<;>grind
    by_cases hi:i=row+1
    · subst hi
      rw [hl1,qO];exact er2
    · have ei:=h i i0 i1
      have q:=hQ i i0 i1 hi
      rw [hl2 i hi,aG,hc' i hi,yN] at ei
      rw [qO]
      refine Int.eq_of_mul_eq_mul_left (a:=t.C (row+1) (col+1)) hne ?_
      rcases hs with rfl|rfl<;>grind
theorem ZbN(h:Run k t u e)(k0 z:Int)(v:Int->Int):Idt t k0 z v↔Idt u k0 z v:=by
  induction h with
  |stop=>exact Iff.rfl
  |lim=>exact Iff.rfl
  |bad=>exact Iff.rfl
  | go h hp hr ih=>
    rcases hp with⟨_,_,h⟩|⟨_,_,_,h⟩|⟨_,_,_,_,h⟩|⟨ha,hd,_,rfl,_⟩
    · omega
    · omega
    · omega
    · exact(ZbO ha hd k0 z v).trans ih
theorem idt_start{p:Lp}(hl:LOk p)(hm:0<=p.m)(k0 z:Int)(v:Int->Int):Idt (Zw p) k0 z v↔(z=ZH p.c v p.n.toNat/\∀i,0<=i->i<p.m->v (p.n+i)=ZH (p.A i) v p.n.toNat-p.b i*k0):=by
  have hn:=hl.n1
  have e00:(Zw p).C 0 0=0:=rfl
  have e0:∀j,0<=j->(Zw p).C 0 (j+1)=p.c j:=fun j j0=>by
    show(if(0:Int)=0 then(if j+1=0 then 0 else p.c (j+1-1)) else(if j+1=0 then-p.b (0-1) else p.A (0-1) (j+1-1)))=_
    rw [if_pos rfl,if_neg (by omega),show j+1-1=j by omega]
  have ei0:∀i,1<=i->(Zw p).C i 0= -p.b (i-1):=fun i i0=>by
    show(if i=0 then(if(0:Int)=0 then 0 else p.c (0-1)) else(if(0:Int)=0 then-p.b (i-1) else p.A (i-1) (0-1)))=_
    rw [if_neg (by omega),if_pos rfl]
  have ei:∀i j,1<=i->0<=j->(Zw p).C i (j+1)=p.A (i-1) j:=fun i j i0 j0=>by
    show(if i=0 then(if j+1=0 then 0 else p.c (j+1-1)) else(if j+1=0 then-p.b (i-1) else p.A (i-1) (j+1-1)))=_
    rw [if_neg (by omega),if_neg (by omega),show j+1-1=j by omega]
  have r0:Vm (Zw p) k0 v 0=ZH p.c v p.n.toNat:=by
    unfold Vm
    rw [e00,Int.zero_mul,Int.zero_add]
    exact Zj fun j j0 j1=>by rw [e0 j j0];rfl
  have r1:∀i,1<=i->Vm (Zw p) k0 v i=ZH (p.A (i-1)) v p.n.toNat-p.b (i-1)*k0:=fun i i0=>by
    unfold Vm
    have:Zh (fun j=>(Zw p).C i (j+1)*v ((Zw p).F j)) (Zw p).nf.toNat=ZH (p.A (i-1)) v p.n.toNat:=
      Zj fun j j0 j1=>by rw [ei i j i0 j0];rfl
    rw [this,ei0 i i0,Int.neg_mul];omega
  have e:(Zw p).den=1:=rfl
  have enb:(Zw p).nb=p.m:=rfl
  constructor
  · intro h
    refine⟨?_,fun i i0 i1=> ?_⟩
    · have:=h 0 (by omega) (by omega)
      rw [r0] at this
      unfold Va at this
      rw [if_pos rfl,e] at this;omega
    · have:=h (i+1) (by omega) (by omega)
      rw [r1 _ (by omega),show i+1-1=i by omega] at this
      unfold Va at this
      have e2:(Zw p).B i=p.n+i:=rfl
      rw [if_neg (by omega),show i+1-1=i by omega,e,e2] at this;omega
  · rintro⟨h0,h1⟩ i i0 i1
    rw [e,Int.one_mul]
    unfold Va
    by_cases hi:i=0
    · subst hi;rw [if_pos rfl,r0];exact h0
    · rw [if_neg hi,r1 i (by omega)]
      have e2:(Zw p).B (i-1)=p.n+(i-1):=rfl
      rw [e2];exact h1 (i-1) (by omega) (by omega)
def bas(u:Tb):Nat->Int->Int
  |0=>fun _=>0
  |k+1=>upd (bas u k) (u.B k) (u.C (k+1) 0)
theorem Zaw(u:Tb){q:Int}:∀K:Nat,(∀i:Int,0<=i->i<K->u.B i≠q)->bas u K q=0
  |0,_=>rfl
  | k+1,h=>by
    unfold bas
    rw [upd_ne _ _ (fun e=>h k (by omega) (by omega) e.symm)]
    exact Zaw u k fun i i0 i1=>h i i0 (by omega)
theorem TPrp.injB(h:TPrp t)(i0:0<=i)(i1:i<t.nb)(j0:0<=j)(j1:j<t.nb)(e:t.B i=t.B j):i=j:=by
  have hn:=h.n1
  have:=h.perm.2 (t.nf+i) (t.nf+j) (by omega) (by omega) (by omega) (by omega) (by unfold cat;rw [if_neg (by omega),if_neg (by omega),show t.nf+i-t.nf=i by omega,show t.nf+j-t.nf=j by omega];exact e)
  omega
theorem TPrp.disj(h:TPrp t)(i0:0<=i)(i1:i<t.nb)(j0:0<=j)(j1:j<t.nf):t.B i≠t.F j:=fun e=>by
  have hn:=h.n1
  have:=h.perm.2 (t.nf+i) j (by omega) (by omega) (by omega) (by omega) (by unfold cat;rw [if_neg (by omega),if_pos j1,show t.nf+i-t.nf=i by omega];exact e)
  omega
theorem Ze3{u:Tb}(h:TPrp u):∀(K:Nat),(K:Int)<=u.nb->∀i:Int,0<=i->i<K->bas u K (u.B i)=u.C (i+1) 0
  |0,_,i,i0,i1=>by omega
  | k +1,hK,i,i0,i1=>by
    unfold bas
    by_cases e:i=k
    · subst e;rw [ZX]
    · rw [upd_ne _ _ (fun e2=>e (h.injB i0 (by omega) (by omega) (by omega) e2))]
      exact Ze3 h k (by omega) i i0 (by omega)
theorem Ke{u:Tb}(h:TPrp u)(zX:∀i:Int,0<=i->i<u.nb->0<=u.C (i+1) 0)(q:Int):∀(K:Nat),(K:Int)<=u.nb->0<=bas u K q/\bas u K q<=1073741824
  |0,_=>by unfold bas;omega
  | k +1,hK=>by
    unfold bas
    by_cases e:q=u.B k
    · rw [<-e,ZX]
      have h1:=zX k (by omega) (by omega)
      have hn:=h.n1
      have h2:=h.cell (i:=k+1) (j:=0) (by omega) (by omega) (by omega) (by omega)
      omega
    · rw [upd_ne _ _ e];exact Ke h zX q k (by omega)
theorem RD(u:Tb){j:Int}(hj:j<u.vars):∀K:Nat,rdX u K j=bas u K j
  |0=>rfl
  | k +1=>by
    unfold rdX bas
    by_cases h:u.B k<u.vars
    · rw [if_pos h]
      by_cases e:j=u.B k
      · rw [<-e,ZX,ZX]
      · rw [upd_ne _ _ e,upd_ne _ _ e];exact RD u hj k
    · rw [if_neg h,upd_ne _ _ (by omega)];exact RD u hj k
def rdG(u:Tb)(y0 g:Int->Int):Nat->Int->Int
  |0=>y0
  |k+1=>if u.vars<=u.F k then upd (rdG u y0 g k) (u.F k-u.vars) (g k) else rdG u y0 g k
theorem Zbw(u:Tb):∀K:Nat,rdY u K=rdG u (fun _=>0) (fun j=>u.C 0 (j+1)) K
  |0=>rfl
  |k+1=>by unfold rdY rdG;rw [Zbw u k]
theorem VX(u:Tb)(y0 g:Int->Int){i:Int}:∀K:Nat,(∀k:Int,0<=k->k<K->u.F k≠u.vars+i)->rdG u y0 g K i=y0 i
  |0,_=>rfl
  | k+1,h=>by
    unfold rdG
    have hk:=h k (by omega) (by omega)
    split
    · rw [upd_ne _ _ (by omega)];exact VX u y0 g k fun q q0 q1=>h q q0 (by omega)
    · exact VX u y0 g k fun q q0 q1=>h q q0 (by omega)
theorem Uw{u:Tb}{y0 g:Int->Int}{A:Int}(q:Int)(h0:0<=y0 q/\y0 q<=A):∀K:Nat,(∀k:Int,0<=k->k<K->0<=g k/\g k<=A)->0<=rdG u y0 g K q/\rdG u y0 g K q<=A
  |0,_=>h0
  | k +1,h=>by
    unfold rdG
    split
    · by_cases e:q=u.F k-u.vars
      · rw [<-e,ZX];exact h k (by omega) (by omega)
      · rw [upd_ne _ _ e];exact Uw q h0 k fun q q0 q1=>h q q0 (by omega)
    · exact Uw q h0 k fun q q0 q1=>h q q0 (by omega)
theorem Zal(w y:Int->Int){a:Int}{m:Nat}(i0:0<=i)(i1:i<m):ZH w (upd y i a) m=ZH w y m+w i*(a-y i):=by
  unfold ZH
  rw [Z5 (s:=i) i0 i1,Z5 (f:=fun k=>w k*y k) (s:=i) i0 i1]
  have:Zh (fun j=>if j=i then 0 else w j*upd y i a j) m=Zh (fun j=>if j=i then 0 else w j*y j) m:=Zj fun j j0 j1=>by
    by_cases e:j=i
    · rw [if_pos e,if_pos e]
    · rw [if_neg e,if_neg e,upd_ne _ _ e]
  rw [this,ZX];grind
theorem RE {u:Tb} (h:TPrp u) (hm:0<=u.nb) {y0 g:Int->Int} (w:Int->Int) (hf:∀k:Int,0<=k->k<u.nf->u.vars<=u.F k->y0 (u.F k-u.vars)=0):∀K:Nat,(K:Int)<=u.nf->
    ZH w (rdG u y0 g K) u.nb.toNat=ZH w y0 u.nb.toNat+Zh (fun k=>if u.vars<=u.F k then g k*w (u.F k-u.vars) else 0) K
  |0,_=>by simp [rdG,Zh]
  | k + 1,hK=>by
    have ih:=RE h hm w hf (g:=g) k (by omega)
    have hr:=h.rngF (i:=k) (by omega) (by omega) hm
    have hv:=h.v
    unfold rdG Zh
    by_cases hc:u.vars<=u.F k
    · rw [if_pos hc,if_pos hc,Zal _ _ (by omega) (by omega),ih]
      have:rdG u y0 g k (u.F k-u.vars)=0:=by
        rw [VX u y0 g k fun q q0 q1 e=>by
          have:=h.injF (i:=q) (j:=k) q0 (by omega) (by omega) (by omega) hm (by omega);omega]
        exact hf k (by omega) (by omega) hc
      rw [this];grind
    · rw [if_neg hc,if_neg hc,ih];omega
theorem Tj(f:Int->Int){q:Int}{n:Nat}(q0:0<=q)(q1:q<n):ZH f (fun k=>if k=q then 1 else 0) n=f q:=by
  unfold ZH
  rw [Z5 (s:=q) q0 q1]
  show f q*(if q=q then 1 else 0)+_=_
  rw [if_pos rfl,Int.mul_one]
  have:Zh (fun j=>if j=q then 0 else f j*(fun k=>if k=q then 1 else 0) j) n=Zh (fun _=>0) n:=Zj fun j _ _=>by split<;>simp_all
  rw [this,ZL];omega
def Vc(p:Lp)(x:Int->Int)(k0 q:Int):Int:=if q<p.n then x q else ZH (p.A (q-p.n)) x p.n.toNat-p.b (q-p.n)*k0
theorem ZbP{p:Lp}(hl:LOk p)(hm:0<=p.m)(h:Run k (Zw p) u e)(x:Int->Int)(k0:Int):Idt u k0 (ZH p.c x p.n.toNat) (Vc p x k0):=by
  refine(ZbN h k0 _ _).1 ((idt_start hl hm k0 _ _).2 ⟨?_,fun i i0 i1=> ?_⟩)
  · exact Zj fun j j0 j1=>by unfold Vc;rw [if_pos (by omega)]
  · have:ZH (p.A i) (Vc p x k0) p.n.toNat=ZH (p.A i) x p.n.toNat:=Zj fun j j0 j1=>by unfold Vc;rw [if_pos (by omega)]
    rw [this];unfold Vc;rw [if_neg (by omega),show p.n+i-p.n=i by omega]
theorem ZaO{p:Lp}(hp:TPrp u)(hm:0<=u.nb)(hv:u.vars=p.n)(x:Int->Int)(k0 i:Int){y0 g:Int->Int}(hg:∀k:Int,0<=k->k<u.nf->g k=u.C i (k+1))(hf:∀k:Int,0<=k->k<u.nf->u.vars<=u.F k->y0 (u.F k-u.vars)=0):
    Vm u k0 (Vc p x k0) i=u.C i 0*k0+Zh (fun k=>if u.vars<=u.F k then 0 else g k*x (u.F k)) u.nf.toNat+
      (ZH (fun i=>ZH (p.A i) x p.n.toNat-p.b i*k0) (rdG u y0 g u.nf.toNat) u.nb.toNat-ZH (fun i=>ZH (p.A i) x p.n.toNat-p.b i*k0) y0 u.nb.toNat):=by
  have hn:=hp.n1
  have h1:=RE hp hm (y0:=y0) (g:=g) (fun i=>ZH (p.A i) x p.n.toNat-p.b i*k0) hf u.nf.toNat (by omega)
  rw [h1]
  unfold Vm
  have h2:Zh (fun j=>u.C i (j+1)*Vc p x k0 (u.F j)) u.nf.toNat=Zh (fun k=>(if u.vars<=u.F k then 0 else g k*x (u.F k))+(if u.vars<=u.F k then g k*(ZH (p.A (u.F k-u.vars)) x p.n.toNat-p.b (u.F k-u.vars)*k0) else 0)) u.nf.toNat:=
    Zj fun j j0 j1=>by
      unfold Vc
      rw [hg j j0 (by omega)]
      by_cases hc:u.vars<=u.F j
      · rw [if_neg (by omega),if_pos hc,if_pos hc,hv];omega
      · rw [if_pos (by omega),if_neg hc,if_neg hc];omega
  rw [h2,VQ];omega
theorem Zfg {p:Lp} (hl:LOk p) (hm:0<=p.m) (h:Run k (Zw p) u 0):ChkS p (XC u):=by
  obtain⟨hp,hco,hlv,_⟩:=h.fin (.inl rfl)
  have hd:=h.dims
  have d1:u.nb=p.m:=by rw [hd.1];rfl
  have d2:u.nf=p.n:=by rw [hd.2.1];rfl
  have d3:u.vars=p.n:=by rw [hd.2.2.2];rfl
  have hn:=hl.n1
  have lr:=YG u u.nb.toNat
  have zX:∀i:Int,0<=i->i<u.nb->0<=u.C (i+1) 0:=fun i i0 i1=>(U5 u u.nb.toNat).1 (by have:=hlv rfl;omega) i i0 (by omega)
  have hg0:∀k:Int,0<=k->k<u.nf->0<=u.C 0 (k+1)/\u.C 0 (k+1)<=1073741824:=fun k k0 k1=>⟨hco (k+1) (by omega) (by omega),(hp.cell (i:=0) (by omega) (by omega) (by omega) (by omega)).2⟩
  have hid:Idt u u.den (u.C 0 0) (bas u u.nb.toNat):=fun i i0 i1=>by
    have hz:Zh (fun j=>u.C i (j+1)*bas u u.nb.toNat (u.F j)) u.nf.toNat=0:=by
      have:Zh (fun j=>u.C i (j+1)*bas u u.nb.toNat (u.F j)) u.nf.toNat=Zh (fun _=>0) u.nf.toNat:=Zj fun j j0 j1=>by
        rw [Zaw u _ fun q q0 q1=>hp.disj q0 (by omega) j0 (by omega)];omega
      rw [this,ZL]
    unfold Vm Va
    rw [hz]
    by_cases hi:i=0
    · subst hi;rw [if_pos rfl];grind
    · rw [if_neg hi,Ze3 hp u.nb.toNat (by omega) (i-1) (by omega) (by omega),show i-1+1=i by omega];grind
  obtain⟨hz,hs⟩:=(idt_start hl hm _ _ _).1 ((ZbN h _ _ _).2 hid)
  have hX:∀j,0<=j->j<p.n->rdX u u.nb.toNat j=bas u u.nb.toNat j:=fun j j0 j1=>RD u (by omega) _
  have dX:∀f:Int->Int,ZH f (rdX u u.nb.toNat) p.n.toNat=ZH f (bas u u.nb.toNat) p.n.toNat:=fun f=>Zj fun j j0 j1=>by rw [hX j j0 (by omega)]
  have hY:(XC u).Y=rdG u (fun _=>0) (fun j=>u.C 0 (j+1)) u.nf.toNat:=by show rdY u _=_;rw [Zbw]
  have bv:∀w:Int->Int,ZH w (fun _=>0) u.nb.toNat=0:=fun w=>by
    have:ZH w (fun _=>0) u.nb.toNat=Zh (fun _=>0) u.nb.toNat:=Zj fun j _ _=>by simp
    rw [this,ZL]
  have key:∀(x:Int->Int) (k0:Int),u.den*ZH p.c x p.n.toNat=u.C 0 0*k0+Zh (fun k=>if u.vars<=u.F k then 0 else u.C 0 (k+1)*x (u.F k)) u.nf.toNat+ZH (fun i=>ZH (p.A i) x p.n.toNat-p.b i*k0) (XC u).Y u.nb.toNat:=fun x k0=>by
    have h1:=ZbP hl hm h x k0 0 (by omega) (by omega)
    rw [ZaO hp (by omega) d3 x k0 0 (y0:=fun _=>0) (g:=fun j=>u.C 0 (j+1)) (fun _ _ _=>rfl) (fun _ _ _ _=>rfl),bv,<-hY] at h1
    unfold Va at h1
    rw [if_pos rfl] at h1
    omega
  refine⟨hl,hp.d1,hp.d2,hp.cell (i:=0) (by omega) (by omega) (by omega) (by omega),d2,d1,fun j j0 j1=> ?_,fun i i0 i1=> ?_,fun i i0 i1=> ?_,fun j j0 j1=> ?_,?_,?_⟩
  · show 0<=rdX u u.nb.toNat j/\rdX u u.nb.toNat j<=_
    rw [hX j j0 j1];exact Ke hp zX j _ (by omega)
  · rw [hY];exact Uw i (by omega) _ fun k k0 k1=>hg0 k k0 (by omega)
  · show p.b i*u.den<=ZH (p.A i) (rdX u u.nb.toNat) _
    rw [dX]
    have h1:=hs i i0 i1
    have h2:=(Ke hp zX (p.n+i) u.nb.toNat (by omega)).1
    omega
  · have h1:=key (fun k=>if k=j then 1 else 0) 0
    have h2:0<=Zh (fun k=>if u.vars<=u.F k then 0 else u.C 0 (k+1)*(if u.F k=j then 1 else 0)) u.nf.toNat:=Ym fun k k0 k1=>by
      have:=(hg0 k k0 (by omega)).1
      split
      · omega
      · split<;>omega
    have h3:ZH (fun i=>ZH (p.A i) (fun k=>if k=j then 1 else 0) p.n.toNat-p.b i*0) (XC u).Y u.nb.toNat=wgt p.A (XC u).Y p.m.toNat j:=by
      rw [d1];exact Zj fun i i0 i1=>by
        show(ZH (p.A i) (fun k=>if k=j then 1 else 0) p.n.toNat-p.b i*0)*_=_
        rw [Tj _ j0 (by omega)];simp
    rw [Tj _ j0 (by omega),h3] at h1
    show _<=p.c j*u.den
    rw [Int.mul_comm (p.c j)];omega
  · show ZH p.c (rdX u u.nb.toNat) _=u.C 0 0
    rw [dX,<-hz]
  · show ZH p.b (XC u).Y _=u.C 0 0
    have h1:=key (fun _=>0) 1
    have z1:∀f:Int->Int,ZH f (fun _=>0) p.n.toNat=0:=fun f=>by
      have:ZH f (fun _=>0) p.n.toNat=Zh (fun _=>0) p.n.toNat:=Zj fun j _ _=>by simp
      rw [this,ZL]
    have z2:Zh (fun k=>if u.vars<=u.F k then 0 else u.C 0 (k+1)*(fun _=>(0:Int)) (u.F k)) u.nf.toNat=0:=by
      have:Zh (fun k=>if u.vars<=u.F k then 0 else u.C 0 (k+1)*(fun _=>(0:Int)) (u.F k)) u.nf.toNat=Zh (fun _=>0) u.nf.toNat:=Zj fun j _ _=>by split<;>simp
      rw [this,ZL]
    have z3:ZH (fun i=>ZH (p.A i) (fun _=>0) p.n.toNat-p.b i*1) (XC u).Y u.nb.toNat= -ZH p.b (XC u).Y p.m.toNat:=by
      have:=Xd (D:=1) (A:= -1) (B:=0) (n:=p.m.toNat) (h:=fun i=>(ZH (p.A i) (fun _=>0) p.n.toNat-p.b i*1)*(XC u).Y i) (f:=fun i=>p.b i*(XC u).Y i) (g:=fun _=>0) (fun i i0 i1=>by rw [z1];grind)
      rw [d1]
      show Zh (fun i=>(ZH (p.A i) (fun _=>0) p.n.toNat-p.b i*1)*(XC u).Y i) p.m.toNat= -Zh (fun i=>p.b i*(XC u).Y i) p.m.toNat
      omega
    rw [z1,z2,z3] at h1
    omega
theorem Te(t:Tb)(r:Int):∀K:Nat,Yd t r K<0->∀j:Int,0<=j->j<K->t.C (r+1) (j+1)<=0
  |0,_,j,j0,j1=>by omega
  | k +1,h,j,j0,j1=>by
    unfold Yd at h
    split at h
    · rename_i hc
      by_cases e:j=k
      · rw [e];exact hc
      · exact Te t r k h j j0 (by omega)
    · split at h
      · omega
      · split at h<;>omega
structure RefS (p:Lp) (y:Int->Int):Prop where
  rng:∀i,0<=i->i<p.m->0<=y i/\y i<=1073741824
  cols:∀j,0<=j->j<p.n->wgt p.A y p.m.toNat j<=0
  pos:0<ZH p.b y p.m.toNat
def RC(u:Tb)(r:Int):Int->Int:=if u.vars<=u.B r then upd (fun _=>0) (u.B r-u.vars) u.den else fun _=>0
def UW(u:Tb)(r:Int):Int->Int:=rdG u (RC u r) (fun j=> -u.C (r+1) (j+1)) u.nf.toNat
theorem Zff {p:Lp} (hl:LOk p) (hm:0<=p.m) (h:Run k (Zw p) u 19):RefS p (UW u (ZR u u.nb.toNat)):=by
  obtain⟨hp,hco,_,hf⟩:=h.fin (.inr rfl)
  obtain⟨hr,he⟩:=hf rfl
  have hd:=h.dims
  have d1:u.nb=p.m:=by rw [hd.1];rfl
  have d2:u.nf=p.n:=by rw [hd.2.1];rfl
  have d3:u.vars=p.n:=by rw [hd.2.2.2];rfl
  have hn:=hl.n1
  have lr:=YG u u.nb.toNat
  have zX:=(U5 u u.nb.toNat).2 hr
  have fP:=Te u (ZR u u.nb.toNat) u.nf.toNat he
  generalize ZR u u.nb.toNat=r at*
  have hd1:=hp.d1;have hd2:=hp.d2
  have hg:∀k:Int,0<=k->k<u.nf->0<= -u.C (r+1) (k+1)/\ -u.C (r+1) (k+1)<=1073741824:=fun k k0 k1=>⟨by have:=fP k k0 (by omega);omega,by have:=(hp.cell (i:=r+1) (j:=k+1) (by omega) (by omega) (by omega) (by omega)).1;omega⟩
  have hrB:=hp.rngB (i:=r) (by omega) (by omega)
  have hv:=hp.v
  have h0:∀i,0<=RC u r i/\RC u r i<=1073741824:=fun i=>by
    unfold RC;split
    · by_cases e:i=u.B r-u.vars
      · rw [<-e,ZX];omega
      · rw [upd_ne _ _ e];exact⟨Int.le_refl 0,show(0:Int)<=1073741824 by decide⟩
    · exact⟨Int.le_refl 0,show(0:Int)<=1073741824 by decide⟩
  have hfr:∀k:Int,0<=k->k<u.nf->u.vars<=u.F k->RC u r (u.F k-u.vars)=0:=fun k k0 k1 hk=>by
    unfold RC;split
    · exact upd_ne _ _ (by have:=hp.disj (i:=r) (j:=k) (by omega) (by omega) k0 k1;omega)
    · rfl
  have bv:∀w:Int->Int,ZH w (RC u r) u.nb.toNat=if u.vars<=u.B r then u.den*w (u.B r-u.vars) else 0:=fun w=>by
    have z:ZH w (fun _=>0) u.nb.toNat=0:=by
      have:ZH w (fun _=>0) u.nb.toNat=Zh (fun _=>0) u.nb.toNat:=Zj fun j _ _=>by simp
      rw [this,ZL]
    unfold RC;split
    · rw [Zal _ _ (by omega) (by omega),z];grind
    · exact z
  have key:∀(x:Int->Int) (k0:Int),(if u.vars<=u.B r then 0 else u.den*x (u.B r))+Zh (fun k=>if u.vars<=u.F k then 0 else-u.C (r+1) (k+1)*x (u.F k)) u.nf.toNat+ZH (fun i=>ZH (p.A i) x p.n.toNat-p.b i*k0) (UW u r) u.nb.toNat=u.C (r+1) 0*k0:=fun x k0=>by
    have h1:=ZbP hl hm h x k0 (r+1) (by omega) (by omega)
    have h2:=RE hp (by omega) (y0:=RC u r) (g:=fun j=> -u.C (r+1) (j+1)) (fun i=>ZH (p.A i) x p.n.toNat-p.b i*k0) hfr u.nf.toNat (by omega)
    have h3:Zh (fun j=>u.C (r+1) (j+1)*Vc p x k0 (u.F j)) u.nf.toNat= -(Zh (fun k=>if u.vars<=u.F k then 0 else-u.C (r+1) (k+1)*x (u.F k)) u.nf.toNat)-Zh (fun k=>if u.vars<=u.F k then-u.C (r+1) (k+1)*(ZH (p.A (u.F k-u.vars)) x p.n.toNat-p.b (u.F k-u.vars)*k0) else 0) u.nf.toNat:=by
      have:=Xd (D:=1) (A:= -1) (B:=1) (n:=u.nf.toNat) (h:=fun j=>u.C (r+1) (j+1)*Vc p x k0 (u.F j)) (f:=fun k=>if u.vars<=u.F k then 0 else-u.C (r+1) (k+1)*x (u.F k)) (g:=fun k=>if u.vars<=u.F k then-u.C (r+1) (k+1)*(ZH (p.A (u.F k-u.vars)) x p.n.toNat-p.b (u.F k-u.vars)*k0) else 0) (fun j j0 j1=>by
        unfold Vc
        by_cases hc:u.vars<=u.F j
        · rw [if_neg (by omega),if_pos hc,if_pos hc,d3];grind
        · rw [if_pos (by omega),if_neg hc,if_neg hc];grind)
      omega
    unfold UW
    rw [h2,bv]
    unfold Vm Va at h1
    rw [h3,if_neg (by omega),show r+1-1=r by omega] at h1
    by_cases hc:u.vars<=u.B r
    · rw [if_pos hc,if_pos hc]
      have:Vc p x k0 (u.B r)=ZH (p.A (u.B r-u.vars)) x p.n.toNat-p.b (u.B r-u.vars)*k0:=by unfold Vc;rw [if_neg (by omega),d3]
      rw [this] at h1;omega
    · rw [if_neg hc,if_neg hc]
      have:Vc p x k0 (u.B r)=x (u.B r):=by unfold Vc;rw [if_pos (by omega)]
      rw [this] at h1;omega
  refine⟨fun i i0 i1=>Uw i (h0 i) _ fun k k0 k1=>hg k k0 (by omega),fun j j0 j1=> ?_,?_⟩
  · have h1:=key (fun k=>if k=j then 1 else 0) 0
    have h2:0<=Zh (fun k=>if u.vars<=u.F k then 0 else-u.C (r+1) (k+1)*(if u.F k=j then 1 else 0)) u.nf.toNat:=Ym fun k k0 k1=>by
      have:=(hg k k0 (by omega)).1
      split
      · omega
      · split<;>omega
    have h3:ZH (fun i=>ZH (p.A i) (fun k=>if k=j then 1 else 0) p.n.toNat-p.b i*0) (UW u r) u.nb.toNat=wgt p.A (UW u r) p.m.toNat j:=by
      rw [d1];exact Zj fun i i0 i1=>by
        show(ZH (p.A i) (fun k=>if k=j then 1 else 0) p.n.toNat-p.b i*0)*_=_
        rw [Tj _ j0 (by omega)];simp
    have h4:0<=(if u.vars<=u.B r then 0 else u.den*(if u.B r=j then 1 else 0)):=by
      split
      · omega
      · split<;>omega
    rw [h3] at h1
    omega
  · have h1:=key (fun _=>0) 1
    have z1:∀f:Int->Int,ZH f (fun _=>0) p.n.toNat=0:=fun f=>by
      have:ZH f (fun _=>0) p.n.toNat=Zh (fun _=>0) p.n.toNat:=Zj fun j _ _=>by simp
      rw [this,ZL]
    have z2:Zh (fun k=>if u.vars<=u.F k then 0 else-u.C (r+1) (k+1)*(fun _=>(0:Int)) (u.F k)) u.nf.toNat=0:=by
      have:Zh (fun k=>if u.vars<=u.F k then 0 else-u.C (r+1) (k+1)*(fun _=>(0:Int)) (u.F k)) u.nf.toNat=Zh (fun _=>0) u.nf.toNat:=Zj fun j _ _=>by split<;>simp
      rw [this,ZL]
    have z3:ZH (fun i=>ZH (p.A i) (fun _=>0) p.n.toNat-p.b i*1) (UW u r) u.nb.toNat= -ZH p.b (UW u r) p.m.toNat:=by
      have:=Xd (D:=1) (A:= -1) (B:=0) (n:=p.m.toNat) (h:=fun i=>(ZH (p.A i) (fun _=>0) p.n.toNat-p.b i*1)*(UW u r) i) (f:=fun i=>p.b i*(UW u r) i) (g:=fun _=>0) (fun i i0 i1=>by rw [z1];grind)
      rw [d1]
      show Zh (fun i=>(ZH (p.A i) (fun _=>0) p.n.toNat-p.b i*1)*(UW u r) i) p.m.toNat= -Zh (fun i=>p.b i*(UW u r) i) p.m.toNat
      omega
    have z4:(if u.vars<=u.B r then 0 else u.den*(fun _=>(0:Int)) (u.B r))=0:=by split<;>simp
    rw [z2,z3,z4] at h1
    omega
theorem SolveR.chk{p:Lp}(hm:0<=p.m)(h:SolveR p s e)(he:e=0):ChkS p s:=by
  rcases h with⟨_,_,h⟩|⟨hl,u,hr,⟨h,_⟩|⟨_,rfl⟩⟩
  · omega
  · exact absurd he h
  · subst he;exact Zfg hl hm hr
theorem SolveR.none{p:Lp}(hm:0<=p.m)(h:SolveR p s e)(he:e=19):∃y,RefS p y:=by
  rcases h with⟨_,_,h⟩|⟨hl,u,hr,_⟩
  · omega
  · subst he;exact⟨_,Zff hl hm hr⟩
theorem SolveR.zero{p:Lp}{s:So}{e:Int}(h:SolveR p s e)(he:e≠0):s=So.zero:=by
  rcases h with⟨_,h,_⟩|⟨hl,u,hr,⟨_,h⟩|⟨h,_⟩⟩
  · exact h
  · exact h
  · exact absurd h he
theorem Zkm{A:Int->Int->Int}{x y b c:Int->Int}{n m:Nat}(hx:∀j:Int,0<=j->j<n->0<=x j)(hy:∀i:Int,0<=i->i<m->0<=y i)
    (hc:∀j:Int,0<=j->j<n->wgt A y m j<=c j) (hb:∀i:Int,0<=i->i<m->b i<=ZH (A i) x n):ZH b y m<=ZH c x n:=by
  have h1:ZH b y m<=Zh (fun i=>ZH (A i) x n*y i) m:=Yy fun i i0 i1=>Int.mul_le_mul_of_nonneg_right (hb i i0 i1) (hy i i0 i1)
  have h2:Zh (fun i=>ZH (A i) x n*y i) m=Zh (fun j=>wgt A y m j*x j) n:=by
    have e1:Zh (fun i=>ZH (A i) x n*y i) m=Zh (fun i=>Zh (fun j=>A i j*x j*y i) n) m:=Zj fun i _ _=>(YB _ _ _).symm
    have e2:Zh (fun j=>wgt A y m j*x j) n=Zh (fun j=>Zh (fun i=>A i j*x j*y i) m) n:=Zj fun j _ _=>by
      have:=YB (fun i=>A i j*y i) (x j) m
      unfold wgt
      rw [<-this]
      exact Zj fun i _ _=>by grind
    rw [e1,e2]
    exact(W5 (fun i k=>A k i*x i*y k) n m)
  have h3:Zh (fun j=>wgt A y m j*x j) n<=ZH c x n:=Yy fun j j0 j1=>Int.mul_le_mul_of_nonneg_right (hc j j0 j1) (hx j j0 j1)
  omega
theorem Za0(f g:Int->Int)(a:Int)(n:Nat):ZH (fun k=>f k*a) g n=ZH f g n*a:=by
  unfold ZH
  rw [<-YB]
  exact Zj fun i _ _=>by grind
theorem Zdh{p:Lp}{y:Int->Int}(hr:RefS p y)(hn:0<=p.n)(hm:0<=p.m){x:Int->Int}{a:Int}(ha:0<=a)(hx:∀j,0<=j->j<p.n->0<=x j)(hb:∀i,0<=i->i<p.m->p.b i*a<=ZH (p.A i) x p.n.toNat):a=0:=by
  have h:=Zkm (A:=p.A) (x:=x) (y:=y) (b:=fun i=>p.b i*a) (c:=fun _=>0) (n:=p.n.toNat) (m:=p.m.toNat) (fun j j0 j1=>hx j j0 (by omega)) (fun i i0 i1=>(hr.rng i i0 (by omega)).1)
    (fun j j0 j1=>hr.cols j j0 (by omega)) (fun i i0 i1=>hb i i0 (by omega))
  have z:ZH (fun _=>0) x p.n.toNat=0:=by
    have:ZH (fun _=>0) x p.n.toNat=Zh (fun _=>0) p.n.toNat:=Zj fun j _ _=>by simp
    rw [this,ZL]
  rw [Za0,z] at h
  have hp:=hr.pos
  rcases Int.lt_or_eq_of_le ha with h1|h1
  · have:=Int.mul_pos hp h1;omega
  · exact h1.symm
def Lp.more(p:Lp)(k:Int):Lp:=⟨p.n,p.m,p.k,p.c,p.ln,p.A,upd p.b k (p.b k+1)⟩
end Go.Proofs.Gw
